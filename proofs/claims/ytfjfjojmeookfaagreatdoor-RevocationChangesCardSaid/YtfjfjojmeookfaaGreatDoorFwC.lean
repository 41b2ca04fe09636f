/- A framework for proofs about Go programs in this model: part C. Everything is proved; no condition is added. -/
import Derived.ScopeJumps
import Derived.IntWalk
import Derived.Test.YtfjfjojmeookfaaGreatDoorFwB
set_option linter.unusedVariables false
set_option linter.unusedSimpArgs false
set_option linter.defProp false
def aoV:=@Option.bind_eq_some_iff
def apY:=@Go.wp_mono
namespace Go.Fw
open Go.RowKit
abbrev Env:=List (Nat×D)
abbrev Sto:=List am
def AOp(P:Program)(N:Nat)(o:Oper)(τ:Env)(σ:Sto)(K:D->Sto->Prop):Prop:=
 ∀(B:bL P)(G:Gh)(w:World)(a:Act),Rel B G σ w->dD G N τ a->∀(next:Act->World->Prop)(Q:Exit->Act->World->Prop),
  (∀v e b d σ',G.Le b->Rel B b σ' e->Rep b d v->K d σ'->next (a.put o.dst v) e)->o.wp P a w next Q
def AOp.mono{P:Program}{N:Nat}{o:Oper}{τ:Env}{σ:Sto}{K b:D->Sto->Prop}(h:AOp P N o τ σ K)(g:∀d s,K d s->b d s):AOp P N o τ σ b:=
 λB G w a e f next Q hn=>h B G w a e f next Q λv w' G' d σ' h1 h2 h3 h4=>hn v w' G' d σ' h1 h2 h3 (g _ _ h4)
def aT{P:Program}{T:Tys}(g:TOk T P){N:Nat}{o:Oper}{τ:Env}{σ σ':Sto}{d:D}(h:aop T τ σ o.op=some (d,σ')):AOp P N o τ σ (λp s=>p=d/\s=σ'):=by
 intro B G w a q r next Q m
 obtain⟨v,n,k,f,e,b,l⟩:=aht g q r o h;unfold Oper.wp;rcases f with j|⟨j,rfl⟩
 ·rw[j];exact m v n k d σ' e b l ⟨rfl,rfl⟩
 ·rw[j];exact m undef n k d σ' e b l ⟨rfl,rfl⟩
def fX(P:Program)(f:FuncId):Prop:=∃b,P.funcs[f]?=some b/\b.body.isSome=true/\(b.name== "runtime.NumGoroutine")=false
structure Gh.LeB(i:Nat)(G G':Gh):Prop where
 imm:∀b o v,G.imm b o=some v->G'.imm b o=some v
 mimm:∀b es,G.mimm b=some es->G'.mimm b=some es
 siz:∀b n,G.siz b=some n->G'.siz b=some n
 blk:∀l u b,l<i->G.blk l u=some b->G'.blk l u=some b
def Gh.LeB.refl{i:Nat}(G:Gh):G.LeB i G:=⟨λ_ _ _ x=>x,λ_ _ x=>x,λ_ _ x=>x,λ_ _ _ _ x=>x⟩
def Gh.LeB.trans{i:Nat}{A B C:Gh}(h:A.LeB i B)(k:B.LeB i C):A.LeB i C:=
 ⟨λ_ _ _ x=>k.imm _ _ _ (h.imm _ _ _ x),λ_ _ x=>k.mimm _ _ (h.mimm _ _ x),λ_ _ x=>k.siz _ _ (h.siz _ _ x),λ_ _ _ e x=>k.blk _ _ _ e (h.blk _ _ _ e x)⟩
def Gh.Le.b{i:Nat}{A B:Gh}(h:A.Le B):A.LeB i B:=⟨h.imm,h.mimm,h.siz,λ_ _ _ _ x=>h.blk _ _ _ x⟩
def Gh.LeB.le{P:Program}{B:bL P}{σ:Sto}{w:World}{G G':Gh}(d:Rel B G σ w)(h:G.LeB σ.length G'):G.Le G':=⟨h.imm,h.mimm,λl u b x=>h.blk l u b (d.blk l u b x).1 x,h.siz⟩
def rI(i:Nat)(P:Program)(f:FuncId)(ds:List D)(σ:Sto)(R:D->Sto->Prop):Prop:=
 ∀(B:bL P)(G:Gh)(w:World)(b:List Value),Rel B G σ w->af G ds b->
  Calls P f b.toArray w λe h=>∃v g d σ',e=.returned v/\G.LeB i g/\Rel B g σ' h/\Rep g d v/\R d σ'
abbrev ut(P:Program)(f:FuncId)(ds:List D)(σ:Sto)(R:D->Sto->Prop):Prop:=rI σ.length P f ds σ R
def rI.mono{i:Nat}{P:Program}{f:FuncId}{ds:List D}{σ:Sto}{R e:D->Sto->Prop}(h:rI i P f ds σ R)(q:∀d s,R d s->e d s):rI i P f ds σ e:=
 λB G w b o p=>(h B G w b o p).mono λ_ _ ⟨v,g,d,σ',j,k,l,m,n⟩=>⟨v,g,d,σ',j,k,l,m,q _ _ n⟩
structure mw(G:Gh)(w:World):Prop where
 imm:∀b o v,G.imm b o=some v->w.cell? ⟨b,o,none⟩=some v
 mimm:∀b es,G.mimm b=some es->Sw w b es
 siz:∀b n,G.siz b=some n->∃vs et f,w.heap[b]?=some (.cells vs et f)/\vs.size=n
def VW{P:Program}{g:Nat}{cs:List D}(h:nu P g=some cs):br cs=true:=by
 unfold nu Qb at h;obtain⟨v,_,h⟩:=aoV.1 h;split at h
 ·cases h;rfl
 ·split at h
  ·cases h;rfl
  ·cases h
def Rel.glob{P:Program}{B:bL P}{G:Gh}{σ:Sto}{w:World}(e:Rel B G σ w):jN P G w:=⟨λg f h=>by
 obtain⟨k,l⟩:=B.gl.1 g f h;have m:=VW h;exact⟨am9 k e.below.size,Rep.pure (λb o v d=>by rw[e.bimm b o (B.lim b o v d)];exact d) (λb j d=>by rw[e.bmimm b (B.lmm b j d)];exact d) _ _ (by simpa only[D.pure] using m) l⟩,B.gl.2.below e.below rfl⟩
def cy(P:Program)(f:FuncId)(ds:List D)(d:D):Prop:=
 ∀(G:Gh)(w:World)(b:List Value),mw G w->jN P G w->af G ds b->
  Calls P f b.toArray w λe h=>∃v g,e=.returned v/\GW G g w h/\Rep g d v
def cy.acall{P:Program}{f:FuncId}{ds:List D}{d:D}(h:cy P f ds d)(σ:Sto):ut P f ds σ (λk s=>k=d/\s=σ):=
 λ_ G w e b n=>(h G w e ⟨b.imm,b.mimm,b.siz⟩ b.glob n).mono λ_ _ ⟨v,j,l,g,m⟩=>⟨v,j,d,σ,l,g.le.b,b.grow g,m,rfl,rfl⟩
def env0:Nat->List D->Env
 |_,[]=>[]
 |i,d::b=>(i,d)::env0 (i+1) b
def Ti:∀(ds:List D)(i t:Nat)(d:D),get (env0 i ds) t=some d->i<=t/\ds[t-i]?=some d
 |[],_,_,_,h=>by simp[env0,get]at h
 |d::ds,i,t,b,h=>by
  simp only[env0,get]at h;by_cases e:i=t
  ·subst e;simp only[ano,amn]at h;subst h;simp
  ·simp only[e,ani]at h;obtain⟨g,f⟩:=Ti ds (i+1) t b h;refine⟨omq,?_⟩;have:t-i=(t-(i+1))+1:=omq;rw[this];simpa using f
inductive AEx where
 |normal|exit(id:Nat)|goto(l:Nat)|ret
 deriving DecidableEq
def jP{P:Program}(i:Nat)(B:bL P)(G:Gh)(N:Nat)(Q:AEx->Env->Sto->Prop):Exit->Act->World->Prop
 |.normal,a,w=>∃b τ σ,G.LeB i b/\Rel B b σ w/\dD b N τ a/\Q .normal τ σ
 |.exit id,a,w=>∃b τ σ,G.LeB i b/\Rel B b σ w/\dD b N τ a/\Q (.exit id) τ σ
 |.goto l,a,w=>∃b τ σ,G.LeB i b/\Rel B b σ w/\dD b N τ a/\Q (.goto l) τ σ
 |.ret,a,w=>∃b τ σ,G.LeB i b/\Rel B b σ w/\dD b N τ a/\Q .ret τ σ
 |.panic _,_,_=>False
 |.outgrown,_,_=>False
def lW{i:Nat}{P:Program}{B:bL P}{G G':Gh}{N:Nat}{Q Q':AEx->Env->Sto->Prop}(h:G.LeB i G')(k:∀e τ σ,Q e τ σ->Q' e τ σ)(e:Exit)(a:Act)(w:World)(x:jP i B G' N Q e a w):jP i B G N Q' e a w:=by
 cases e<;>simp only[jP]at x⊢<;>first|exact x|(obtain⟨b,τ,σ,d,f,g,j⟩:=x;exact⟨b,τ,σ,h.trans d,f,g,k _ _ _ j⟩)
def AWp(i:Nat)(P:Program)(N:Nat)(c:Code)(τ:Env)(σ:Sto)(Q:AEx->Env->Sto->Prop):Prop:=
 ∀(B:bL P)(G:Gh)(w:World)(a:Act),Rel B G σ w->dD G N τ a->c.wp P (jP i B G N Q) a w
section
variable {i:Nat}{P:Program}{N:Nat}{c c1 c2:Code}{τ τ' :Env}{σ σ' :Sto}{Q Q' :AEx→Env→Sto→Prop}
def AWp.mono(h:AWp i P N c τ σ Q)(f:∀e τ σ,Q e τ σ->Q' e τ σ):AWp i P N c τ σ Q':=
 λB G w a b d=>apY (h B G w a b d) λe a w x=>lW (.refl G) f e a w x
def AWp.sub(h:AWp i P N c τ' σ Q)(f:∀t d,get τ' t=some d->get τ t=some d):AWp i P N c τ σ Q:=
 λB G w a b e=>h B G w a b (e.sub f)
def nJ(h:Q .normal τ σ):AWp i P N .skip τ σ Q:=λ_ G _ _ b d=>wp_skip ⟨G,τ,σ,.refl G,b,d,h⟩
def Q2{l:Nat}(h:Q .normal τ σ):AWp i P N (.label l) τ σ Q:=λ_ G _ _ b d=>wp_label ⟨G,τ,σ,.refl G,b,d,h⟩
variable{Z:Nat}
def MA(h:Q (.exit Z) τ σ):AWp i P N (.exit Z) τ σ Q:=λ_ G _ _ b d=>wp_exit ⟨G,τ,σ,.refl G,b,d,h⟩
def oy(h:Q .ret τ σ):AWp i P N .ret τ σ Q:=λ_ G _ _ b d=>wp_ret ⟨G,τ,σ,.refl G,b,d,h⟩
def XN(next:Env->Sto->Prop)(Q:AEx->Env->Sto->Prop):AEx->Env->Sto->Prop
 |.normal,τ,σ=>next τ σ
 |.exit id,τ,σ=>Q (.exit id) τ σ
 |.goto l,τ,σ=>Q (.goto l) τ σ
 |.ret,τ,σ=>Q .ret τ σ
def du(h:AWp i P N c1 τ σ (XN (λτ' σ'=>AWp i P N c2 τ' σ' Q) Q)):AWp i P N (.seq c1 c2) τ σ Q:=by
 intro B G w a m n;refine wp_seq (apY (h B G w a m n) λe d o x=> ?_);cases e with
 |normal=>
  obtain⟨b,q,p,f,g,j,k⟩:=x;exact apY (k B b o d g j) λe a w x=>lW f (λ_ _ _ y=>y) e a w x
 |exit id=>exact x
 |goto l=>exact x
 |ret=>exact x
 |panic r=>exact x
 |outgrown=>exact x
def Tj{x:Operand}{b:Bool}(g:ev τ x=some (.bool b))(h:AWp i P N (if b then c1 else c2) τ σ Q):AWp i P N (.cond x c1 c2) τ σ Q:=by
 intro B G w a f d;have e:=bo d g;simp only[Rep]at e;exact wp_cond e (h B G w a f d)
def NX(id:Nat)(Q:AEx->Env->Sto->Prop):AEx->Env->Sto->Prop
 |.normal,τ,σ=>Q .normal τ σ
 |.exit b,τ,σ=>if b=id then Q .normal τ σ else Q (.exit b) τ σ
 |.goto l,τ,σ=>Q (.goto l) τ σ
 |.ret,τ,σ=>Q .ret τ σ
def C0(h:AWp i P N c τ σ (NX Z Q)):AWp i P N (.block Z c) τ σ Q:=by
 intro B G w a o p;refine wp_block (apY (h B G w a o p) λe q s x=> ?_);cases e with
 |normal=>exact x
 |exit g=>
  obtain⟨j,f,d,k,m,n,b⟩:=x;simp only[Exit.inBlock,NX]at b⊢;by_cases e:g=Z
  ·simp only[e,ano]at b⊢;exact⟨j,f,d,k,m,n,b⟩
  ·simp only[e,ani]at b⊢;exact⟨j,f,d,k,m,n,b⟩
 |goto l=>exact x
 |ret=>exact x
 |panic r=>exact x
 |outgrown=>exact x
def VX{Q:Exit->Act->World->Prop}{a:Act}{w:World}{n:Nat}(I:Nat->Act->World->Prop)(v:I n a w)
 (q:∀n a w,I n a w->c.wp P (Exit.then (λr s=>∃m,m<n/\I m r s) Q) a w):(Code.loop c).wp P Q a w:=by
 intro b k z;have C:∀n a w,I n a w->
  ∃e r s,Q e r s/\Arrives P (lone (b.at a (.code c:: .inLoop c::k)) z w) b k z e r s:=by
  intro n;induction n using Nat.strongRecOn with
  |_ n E=>
   intro a w D;obtain⟨e,f,g,j,d⟩:=q n a w D b (.inLoop c::k) z;cases e with
   |normal=>
    obtain⟨m,A,o⟩:=j;obtain⟨u,t,y,p,h⟩:=E m A f g o;exact⟨u,t,y,p,.of_steps (Steps.trans d (.one step_inLoop)) h⟩
   |exit id=>exact⟨_,f,g,j,.pass (x:=.inLoop c) rfl (λ_ _=>.inl siq) d⟩
   |goto l=>exact⟨_,f,g,j,.pass (x:=.inLoop c) rfl (λ_ _=>.inl siq) d⟩
   |ret=>exact⟨_,f,g,j,.pass (x:=.inLoop c) rfl (λ_ _=>.inl siq) d⟩
   |panic F=>exact⟨_,f,g,j,.pass (x:=.inLoop c) rfl (λ_ _=>.inl siq) d⟩
   |outgrown=>exact⟨_,f,g,j,.pass (x:=.inLoop c) rfl (λ_ _=>.inl siq) d⟩
 obtain⟨e,r,s,j,d⟩:=C n a w v;exact⟨e,r,s,j,.of_steps (.one step_loop) d⟩
def ab7(I:Nat->Env->Sto->Prop){n:Nat}(s:I n τ σ)(b:∀n τ σ,I n τ σ->AWp i P N c τ σ (XN (λτ' σ'=>∃m,m<n/\I m τ' σ') Q)):AWp i P N (.loop c) τ σ Q:=by
 intro B G w a z A;refine VX (λn a w=>∃f τ σ,G.LeB i f/\Rel B f σ w/\dD f N τ a/\I n τ σ) ⟨G,τ,σ,.refl G,z,A,s⟩ ?_;rintro n a w ⟨q,o,j,d,t,u,v⟩;refine apY (b n o j v B q w a t u) λe g h x=> ?_;cases e with
 |normal=>
  obtain⟨r,p,k,C,D,E,m,F,H⟩:=x;exact⟨m,F,r,p,k,d.trans C,D,E,H⟩
 |exit id=>exact lW d (Q:=Q) (λ_ _ _ y=>y) (.exit id) g h x
 |goto l=>exact lW d (Q:=Q) (λ_ _ _ y=>y) (.goto l) g h x
 |ret=>exact lW d (Q:=Q) (λ_ _ _ y=>y) .ret g h x
 |panic J=>exact x
 |outgrown=>exact x
end
def Tk(T:Tys)(τ:Env)(σ:Sto):ResultVar->Option D
 |.tmp t=>get τ t
 |.cell t b=>NV T τ σ b (.tmp t)
def xk(T:Tys)(τ:Env)(σ:Sto):List ResultVar->Option (List D)
 |[]=>some []
 |r::e=>match Tk T τ σ r,xk T τ σ e with
  |some d,some b=>some (d::b)
  |_,_=>none
def uu(T:Tys)(e:List ResultVar)(τ:Env)(σ:Sto):Option D:=
 match xk T τ σ e with
 |some [d]=>some d
 |some b=>some (.tuple b)
 |none=>none
section
variable {P:Program}{T:Tys}{B:bL P}{G:Gh}{σ:Sto}{w:World}{N:Nat}{τ:Env}{a:Act}
def KJ(tmps:Array Value):ResultVar->Sem Value
 |.tmp t=>Pure.pure (tmps.getD t undef)
 |.cell x t=>do loadVar t (<-asAddr (tmps.getD x undef))
def XO(fn:Func)(tmps:Array Value):results fn tmps=(fn.results.mapM (KJ tmps)).bind λb=>Sem.pure (if h:b.size=1 then b[0] else .tuple b):=by
 unfold results;congr 1
def F6(g:TOk T P)(q:Rel B G σ w)(s:dD G N τ a):∀{I:List ResultVar}{ds:List D},xk T τ σ I=some ds->
 ∃p,(I.mapM (KJ a.tmps)).run P w=.ok p w/\af G ds p
 |[],_,h=>by simp only[xk,amn]at h;subst h;exact⟨[],by simp,by simp[af]⟩
 |r::I,_,h=>by
  simp only[xk]at h;split at h<;>try (cases h;done)
  rename_i d ds e x;cases h;obtain⟨p,K,L⟩:=F6 g q s x;have O:∃v,((KJ a.tmps) r).run P w=.ok v w/\Rep G d v:=by
   cases r with
   |tmp t=>exact⟨_,rfl,s.slot _ _ e⟩
   |cell t S=>
    simp only[Tk,NV]at e;split at e<;>try (cases e;done)
    rename_i n b V A z;have A:=gi g.ld A;split at e<;>try (cases e;done)
    rename_i M;split at e<;>try (cases e;done)
    rename_i U j;have k:=bo s z;obtain⟨u,C,f⟩:=Wu q A k j M;obtain⟨J,o,_,l,_⟩:=JO q j k;refine⟨u,?_,?_⟩
    ·have m:a.tmps.getD t undef=.pointer (some ⟨J,o,none⟩):=l;have E:(loadVar S ⟨J,o,none⟩).run P w=.ok u w:=by
      unfold Instr.loadAt at C;rw[l]at C;simpa[Instr.sureAddr] using C
     simp only[KJ,m,asAddr,amD,amQ,amv,E]
    ·unfold Sr at e;cases b with
     |true=>simp only[ano,amn]at e f;subst e;exact f
     |false=>
      simp only[ang,ani]at e f;obtain⟨y,rfl,R⟩:=f;simp only[amn]at e;subst e;exact R
  obtain⟨v,F,H⟩:=O;refine⟨v::p,?_,by simp only[af];exact⟨v,p,rfl,H,L⟩⟩;simp only[List.mapM_cons,amD,F,K,amv,amQ]
def NY(f:TOk T P)(p:Rel B G σ w)(q:dD G N τ a){fn:Func}{d:D}(h:uu T fn.results.toList τ σ=some d):∃v,(results fn a.tmps).run P w=.ok v w/\Rep G d v:=by
 unfold uu at h;have r:∀b,(fn.results.toList.mapM (KJ a.tmps)).run P w=.ok b w->
  (results fn a.tmps).run P w=.ok (if h:b.toArray.size=1 then b.toArray[0] else .tuple b.toArray) w:=by
  intro b o;rw[XO];show Sem.run P ((fn.results.mapM (KJ a.tmps))>>=λb=>Pure.pure (if h:b.size=1 then b[0] else .tuple b)) w=_;simp only[amD,ap7,Sem.run_map,o,amv,amQ]
 split at h
 ·rename_i z t;cases h;obtain⟨b,j,g⟩:=F6 f p q t;obtain⟨v,rfl,y⟩:=M7 g;exact⟨v,by rw[r _ j];rfl,y⟩
 ·rename_i s m k;cases h;obtain⟨b,j,g⟩:=F6 f p q k;have u:=g.length;have n:¬b.toArray.size=1:=by
   intro e;obtain⟨x,rfl⟩:=M8 (l:=s) (by rw[u];simpa using e.symm);exact m x rfl
  refine⟨.tuple b.toArray,by rw[r _ j,dif_neg n],?_⟩;simp only[Rep];exact⟨_,rfl,by simpa using g⟩
 ·cases h
def F7{i:Nat}(n:TOk T P){f:FuncId}{fn:Func}{c:Code}{ds:List D}{R:D->Sto->Prop}(C:P.funcs[f]?=some fn)(A:fn.body=some c)(J:ds.length<=fn.ntmps)
 (h:AWp i P fn.ntmps c (env0 0 ds) σ λe τ' σ'=>(e=.normal∨e=.ret)/\∃d,uu T fn.results.toList τ' σ'=some d/\R d σ'):rI i P f ds σ R:=by
 intro B G w b z y;have I:=y.length;refine calls_of_wp C A (apY (h B G w _ z ⟨?_,rfl,?_⟩) λe F K x=> ?_)
 ·simp;omega
 ·intro t d E;obtain⟨_,k⟩:=Ti ds 0 t d E;obtain⟨v,g,j⟩:=y.get _ k;have o:t<b.length:=by
   rcases amB t b.length with q|q
   ·exact q
   ·rw[apZ,amC q]at g;cases g
  have:(b.toArray++Array.replicate (fn.ntmps-b.toArray.size) undef).getD t undef=v:=by
   rw[apZ,aml o]at g;cases g;simp[ams,Array.getElem?_append,o]
  show Rep G d ((b.toArray++Array.replicate (fn.ntmps-b.toArray.size) undef).getD t undef);rw[this];exact j
 ·cases e with
  |normal=>
   obtain⟨p,τ',σ',r,k,m,_,d,s,u⟩:=x;obtain⟨v,g,j⟩:=NY n k m s;exact⟨m.defers,v,g,v,p,d,σ',rfl,r,k,j,u⟩
  |ret=>
   obtain⟨p,τ',σ',r,k,m,_,d,s,u⟩:=x;obtain⟨v,g,j⟩:=NY n k m s;exact⟨m.defers,v,g,v,p,d,σ',rfl,r,k,j,u⟩
  |exit id=>obtain⟨_,_,_,_,_,_,h,_⟩:=x;rcases h with h|h<;>cases h
  |goto l=>obtain⟨_,_,_,_,_,_,h,_⟩:=x;rcases h with h|h<;>cases h
  |panic H=>exact x.elim
  |outgrown=>exact x.elim
end
end Go.Fw
def amj:=@Option.bind_some
def amR:=@List.take_of_length_le
namespace Go.Fw
open Go.RowKit
section
variable {P:Program}{T:Tys}{N:Nat}{o:Oper}{τ:Env}{σ σ1:Sto}
def lO(T:Tys)(τ:Env)(c:Call):Option (FuncId×List D):=
 match c.callee with
 |.value x=>match ev τ x,evs τ c.args.toList with
  |some (.func (.func f) first cap),some a=>some (f,first++a++cap)
  |_,_=>none
 |.invoke x name=>match ev τ x,evs τ c.args.toList with
  |some (.iface t v),some a=>match lkM T.meth t name with
   |some f=>some (f,v::a)
   |none=>none
  |_,_=>none
 |_=>none
def Ct{f:FuncId}{w:World}(i:fX P f)(args:Array Value):(callFunc f args).run P w=.ok (.enter f args) w:=by
 obtain⟨g,e,a,c⟩:=i;have h:g.body.isNone=false:=by
  cases d:g.body with
  |none=>rw[d]at a;cases a
  |some b=>rfl
 simp only[callFunc,amD,anM,amv,e,c,ang,ani,h,amQ]
def Yo{t:TypeId}{v:Value}{a:String}{f:FuncId}{w:World}(n:Nat)(h:IX P t a=some f):(method (n+1) t v a).run P w=.ok (f,v) w:=by
 unfold IX at h;split at h<;>try (cases h;done)
 rename_i i e;split at h<;>try (cases h;done)
 rename_i m g;split at h<;>try (cases h;done)
 rename_i k l c b j;cases h;unfold method;have d:m.path.toList=[]:=c;simp only[typeInfo,amD,anM,amv,e,amQ,g,d,follow,b,receiverAt,amy j,Place.get]
def DJ{T:Tys}(l:TOk T P){G:Gh}{a:Act}{c:Call}{f:FuncId}{ds:List D}{w:World}{ty:TypeId}(j:dD G N τ a)(h:lO T τ c=some (f,ds)):
 ∃e,af G ds e/\(do let d <-resolve a.eval c ty;invoke d.target d.args:Sem Next).run P w=(callFunc f e.toArray).run P w:=by
 unfold lO at h;split at h
 ·rename_i x m;split at h<;>try (cases h;done)
  rename_i F first E k u i
  cases h;have b:=bo j u;simp only[Rep]at b;obtain⟨H,C,r,q,p⟩:=b;have g:=Bi j i;refine⟨H.toList++c.args.toList.map a.eval++C.toList,(q.append g).append p,?_⟩;simp only[resolve,m,r,Deferred.ofValue,amD,amQ,amv,invoke];congr 2;apply aoE;simp
 ·rename_i x B m;split at h<;>try (cases h;done)
  rename_i t v k u i;split at h<;>try (cases h;done)
  rename_i F s;cases h;have b:=bo j u;simp only[Rep]at b;obtain⟨y,K,z⟩:=b;have g:=Bi j i;refine⟨y::c.args.toList.map a.eval,by simp only[af];exact⟨_,_,rfl,z,g⟩,?_⟩;have s:=SZ (f:=IX P) l.meth s;simp only[resolve,m,amD,amQ,amv,invoke];have I:(#[a.eval x]++c.args.map a.eval)[0]?=some (a.eval x):=by rw[Array.getElem?_append_left siq];rfl
  simp only[I];rw[K];simp only[callMethod,amD,anM,amv];have A:0<Made.depth:=by decide
  obtain⟨n,J⟩:∃n,P.types.size+Made.depth=n+1:=⟨P.types.size+Made.depth-1,omq⟩;rw[J,Yo n s];simp only[amv];congr 2;apply aoE;simp[amR]
 ·cases h
def Ut{T:Tys}(l:TOk T P){c:Call}{f:FuncId}{ds g:List D}{K:D->Sto->Prop}(E:o.op=.call c)(z:lO T τ c=some (f,ds))
 (F:xW σ ds=some (g,σ1))(A:fX P f)(h:ut P f g σ1 K):AOp P N o τ σ K:=by
 intro B G w a x y next Q C
 obtain⟨k,i,b⟩:=DJ l (w:=w) (ty:=o.type) y z;rw[Ct A]at b;obtain⟨q,H,n,I⟩:=Gk x F i;have j:(execOp a.eval o).run P w=.ok (.enter f k.toArray) w:=by
  unfold execOp;rw[E];exact b
 unfold Oper.wp;rw[j,Oper.upon_enter];refine(h B q w _ n I).mono ?_;rintro e J ⟨v,p,d,m,rfl,r,s,t,u⟩;exact C v J p d m (H.trans (r.le n)) s t u
def Qk(k:ExK)(ds:List D):Option D:=
 match k,ds with
 |.count,[.str s,.int .u8 c]=>some (.int .i64 ((⟨s.toArray⟩:ByteArray).foldl (λ(n:Int) x=>if x==c.toNat.toUInt8 then n+1 else n) ((0:Nat):Int)))
 |.indexByte,[.str s,.int .u8 c]=>some (match (List.range (⟨s.toArray⟩:ByteArray).size).find? λi=>(⟨s.toArray⟩:ByteArray)[i]! ==c.toNat.toUInt8 with
  |some i=>.int .i64 i
  |none=>.int .i64 (-1))
 |_,_=>none
def aaq:Extern.allNextRows.lookup "internal/bytealg.CountString" =none:=krq
def aar:Extern.allNextRows.lookup "internal/bytealg.IndexByteString" =none:=krq
def Rn:Extern.allNextRows.lookup "" =none:=krq
def aas:Extern.allGenericRows.lookup "internal/bytealg.CountString" =none:=krq
def aat:Extern.allGenericRows.lookup "internal/bytealg.IndexByteString" =none:=krq
def aau:Extern.allTypedRows.lookup "internal/bytealg.CountString" =none:=krq
def aav:Extern.allTypedRows.lookup "internal/bytealg.IndexByteString" =none:=krq
def aaw:Extern.allRows.lookup "internal/bytealg.CountString" =some Extern.BytealgCount.count:=krq
def aax:Extern.allRows.lookup "internal/bytealg.IndexByteString" =some Extern.BytealgIndexByte.indexByte:=krq
def aeP:ExK->Array Value->Sem Value
 |.count=>Extern.BytealgCount.count
 |.indexByte=>Extern.BytealgIndexByte.indexByte
def Uu(m:Mark)(w:World):(mark m).run P w=.ok () w:=rfl
def Uv{f:FuncId}{k:ExK}{w:World}(h:So P f=some k)(args:Array Value):(callFunc f args).run P w=((aeP k args).run P w).andThen λv l=>.ok (.value v) l:=by
 unfold So at h;split at h<;>try (cases h;done)
 rename_i b d;split at h<;>try (cases h;done)
 rename_i j;split at h<;>try (cases h;done)
 rename_i c;have c:b.origin= "" :=by simpa using c
 split at h
 ·rename_i a;have a:b.name= "internal/bytealg.CountString" :=by simpa using a
  cases h;have e:(b.name== "runtime.NumGoroutine")=false:=by rw[a];rfl
  have g:Extern.findNext b=none:=by unfold Extern.findNext;simp only[a,c,aaq,Rn];rfl
  have i:Extern.find b=some Extern.BytealgCount.count:=by unfold Extern.find;simp only[a,c,aas,aau,aaw];rfl
  simp only[callFunc,amD,anM,amv,d,e,ang,ani,j,Option.isNone_none,ano,Uu,g,i];rfl
 ·split at h<;>try (cases h;done)
  rename_i a;have a:b.name= "internal/bytealg.IndexByteString" :=by simpa using a
  cases h;have e:(b.name== "runtime.NumGoroutine")=false:=by rw[a];rfl
  have g:Extern.findNext b=none:=by unfold Extern.findNext;simp only[a,c,aar,Rn];rfl
  have i:Extern.find b=some Extern.BytealgIndexByte.indexByte:=by unfold Extern.find;simp only[a,c,aat,aav,aax];rfl
  simp only[callFunc,amD,anM,amv,d,e,ang,ani,j,Option.isNone_none,ano,Uu,g,i];rfl
def afW{k:ExK}{ds:List D}{d:D}{G:Gh}{vals:List Value}{w:World}(h:Qk k ds=some d)(a:af G ds vals):∃v,(aeP k vals.toArray).run P w=.ok v w/\Rep G d v:=by
 unfold Qk at h;split at h<;>try (cases h;done)
 ·rename_i s c;cases h;simp only[af,Rep]at a;obtain⟨g,e,rfl,rfl,j,f,rfl,rfl,rfl⟩:=a;exact⟨_,rfl,by simp only[Rep];rfl⟩
 ·rename_i s c;cases h;simp only[af,Rep]at a;obtain⟨g,e,rfl,rfl,j,f,rfl,rfl,rfl⟩:=a;cases b:(List.range (⟨s.toArray⟩:ByteArray).size).find? λi=>(⟨s.toArray⟩:ByteArray)[i]! ==c.toNat.toUInt8 with
  |some i=>
   refine⟨.int .i64 i,?_,by simp only[Rep]⟩;show(match (List.range (⟨s.toArray⟩:ByteArray).size).find? λi=>(⟨s.toArray⟩:ByteArray)[i]! ==c.toNat.toUInt8 with
    |some i=>(Pure.pure (goInt i):Sem Value)
    |none=>Pure.pure (goInt (-1))).run P w=_
   rw[b];rfl
  |none=>
   refine⟨.int .i64 (-1),?_,by simp only[Rep]⟩;show(match (List.range (⟨s.toArray⟩:ByteArray).size).find? λi=>(⟨s.toArray⟩:ByteArray)[i]! ==c.toNat.toUInt8 with
    |some i=>(Pure.pure (goInt i):Sem Value)
    |none=>Pure.pure (goInt (-1))).run P w=_
   rw[b];rfl
def KW{T:Tys}(e:TOk T P){c:Call}{f:FuncId}{k:ExK}{ds:List D}{d:D}(u:o.op=.call c)(q:lO T τ c=some (f,ds))
 (r:lk T.ext f=some k)(hd:Qk k ds=some d):AOp P N o τ σ (λj s=>j=d/\s=σ):=by
 intro B G w a n p next Q t
 obtain⟨i,g,b⟩:=DJ e (w:=w) (ty:=o.type) p q;rw[Uv (gi e.ext r)]at b;obtain⟨v,l,m⟩:=afW (P:=P) (w:=w) hd g;rw[l]at b;have h:(execOp a.eval o).run P w=.ok (.value v) w:=by
  unfold execOp;rw[u];exact b
 unfold Oper.wp;rw[h];exact t v w G d σ (.refl G) n m ⟨rfl,rfl⟩
def aay{t:Operand}{l:Nat}{ks vs:List D}{c:List Nat}{g:Option Nat}(r:o.op=.next t false)(hit:ev τ t=some (.ptr l 0 0))(F:σ[l]?=some (.miter ks vs c g)):
 AOp P N o τ σ (λd s=>(c=[]/\d=.tuple [.bool false]/\s=σ)∨
  (∃i a b,i∈c/\ks[i]?=some a/\vs[i]?=some b/\d=.tuple [.bool true,a,b]/\s=σ.set l (.miter ks vs (c.filter (· !=i)) (some i)))):=by
 intro B G w a C E next Q q
 obtain⟨u,p,e,h⟩:=X7 (P:=P) C o.type F (bo E hit);have n:(execOp a.eval o).run P w=.ok (.value u) p:=by
  obtain⟨v,I,J,H,f,guard⟩:=o;simp only at r;subst r;unfold execOp;simp only[amD,e,amv,amQ]
 unfold Oper.wp;rw[n];rcases h with⟨j,k,m⟩|⟨i,x,y,j,k,m,z,A⟩
 ·exact q u p G _ _ (.refl G) k m (.inl ⟨j,rfl,rfl⟩)
 ·exact q u p G _ _ (.refl G) z A (.inr ⟨i,x,y,j,k,m,rfl,rfl⟩)
def KOk(P:Program)(K:FuncId->List D->Option D):Prop:=∀f a d,K f a=some d->fX P f/\cy P f a d
def aeQ(T:Tys)(K:FuncId->List D->Option D)(τ:Env)(σ:Sto)(c:Call):Option (D×Sto):=
 match lO T τ c with
 |some (f,b)=>match lk T.ext f with
  |some k=>match Qk k b with
   |some d=>some (d,σ)
   |none=>none
  |none=>match xW σ b with
   |some (a,σ1)=>match K f a with
    |some d=>some (d,σ1)
    |none=>none
   |none=>none
 |_=>none
def Ro:Callee->Bool
 |.builtin _=>true
 |_=>false
def opE(T:Tys)(K:FuncId->List D->Option D)(τ:Env)(σ:Sto)(a:Op):Option (D×Sto):=
 match a with
 |.call c=>match Ro c.callee with
  |true=>aop T τ σ a
  |false=>aeQ T K τ σ c
 |_=>aop T τ σ a
def aj6(a:TOk T P){K:FuncId->List D->Option D}(n:KOk P K){d:D}{σ':Sto}(h:opE T K τ σ o.op=some (d,σ')):AOp P N o τ σ (λe s=>e=d/\s=σ'):=by
 unfold opE at h;split at h
 ·rename_i c b;split at h
  ·exact aT a h
  ·unfold aeQ at h;split at h<;>try (cases h;done)
   rename_i f r i;split at h
   ·rename_i k g;split at h<;>try (cases h;done)
    rename_i e p;cases h;exact KW a b i g p
   ·split at h<;>try (cases h;done)
    rename_i j σ1 q;split at h<;>try (cases h;done)
    rename_i e g;cases h;obtain⟨l,m⟩:=n _ _ _ g;exact Ut a b i q l (m.acall _)
 ·exact aT a h
def bA(all:Array Oper)(τ:Env)(o:Oper):Option Bool:=
 match o.guard with
 |none=>some true
 |some (j,want)=>match (all[j]?).bind (·.dst) with
  |some t=>match get τ t with
   |some (.bool b)=>some (b==want)
   |some (.tuple _)=>some false
   |_=>none
  |none=>none
def eR(N:Nat)(dst:Option Tmp)(d:D)(τ:Env):Option Env:=
 match dst with
 |none=>some τ
 |some t=>if t<N then some ((t,d)::τ) else none
def xK{G:Gh}{a:Act}{all:Array Oper}{b:Bool}(n:dD G N τ a)(h:bA all τ o=some b):Region.wanted o (yielded all a.tmps)=b:=by
 unfold bA at h;unfold Region.wanted;split at h
 ·rename_i k;rw[k];cases h;rfl
 ·rename_i j f k;rw[k];simp only;unfold yielded;split at h<;>try (cases h;done)
  rename_i t p;simp only[p,amj];split at h<;>try (cases h;done)
  ·rename_i d g;have c:=n.slot _ _ g;simp only[Rep]at c;have:a.tmps[t]?=some (.bool d):=by
    rw[ams]at c;cases e:a.tmps[t]? with
    |none=>rw[e]at c;simp[undef]at c
    |some v=>rw[e]at c;simpa using c
   rw[this];cases h;cases d<;>cases f<;>rfl
  ·rename_i q g;have c:=n.slot _ _ g;simp only[Rep]at c;obtain⟨x,e,_⟩:=c;have l:∀d,a.tmps[t]?≠some (.bool d):=by
    intro d i;rw[ams,i]at e;simp at e
   cases h;cases m:a.tmps[t]? with
   |none=>rfl
   |some v=>
    cases v<;>first|rfl|exact absurd m (l _)
def Fv{G:Gh}{a:Act}{dst:Option Tmp}{d:D}{v:Value}{τ':Env}(b:dD G N τ a)(h:eR N dst d τ=some τ')(e:Rep G d v):dD G N τ' (a.put dst v):=by
 unfold eR at h;split at h
 ·cases h;exact b
 ·split at h<;>try (cases h;done)
  rename_i c;cases h;exact b.put c e
def fu(P:Program)(N:Nat)(all:Array Oper):List Oper->Env->Sto->(Env->Sto->Prop)->Prop
 |[],τ,σ,K=>K τ σ
 |o::r,τ,σ,K=>
  (bA all τ o=some true/\AOp P N o τ σ λd b=>∃a,eR N o.dst d τ=some a/\fu P N all r a b K)∨
  (bA all τ o=some false/\∃a,eR N o.dst (.tuple []) τ=some a/\fu P N all r a σ K)
def Ql{i:Nat}{B:bL P}{all:Array Oper}{Q:AEx->Env->Sto->Prop}{G0:Gh}:∀(l:List Oper)(e:List Nat)(τ:Env)(σ:Sto)(G:Gh)(a:Act)(w:World),G0.LeB i G->l.map some=e.map (all[·]?)->
 fu P N all l τ σ (λb f=>Q .normal b f)->Rel B G σ w->dD G N τ a->wpOps P all (jP i B G0 N Q) e a w
 |[],e,τ,σ,G,a,w,j,c,h,hR,hT=>by
  match e,c with
  |[],_=>exact⟨G,τ,σ,j,hR,hT,h⟩
 |o::r,e,τ,σ,G,a,w,j,c,h,hR,hT=>by
  match e,c with
  |i::e,c=>
   simp only[amz,aon]at c;obtain⟨u,c⟩:=c;simp only[wpOps,<-u];rcases h with⟨q,m⟩|⟨q,b,n,p⟩
   ·rw[amE (xK hT q)];refine .inl (m B G w a hR hT _ _ ?_);rintro v x s d f g k t ⟨b,n,p⟩;exact Ql r e b f s _ x (j.trans g.b) c p k (Fv (hT.mono g) n t)
   ·rw[am4 (by rw[xK hT q];simp)];exact Ql r e b σ G _ w j c p hR (Fv hT n (by simp only[Rep,undef];exact⟨#[],rfl,by simp[af]⟩))
def bS{i:Nat}{id:Nat}{ops:Array Oper}{Q:AEx->Env->Sto->Prop}(h:fu P N ops ops.toList τ σ (λc b=>Q .normal c b)):AWp i P N (.region id ops false) τ σ Q:=by
 intro B G w a e f;refine wp_region (Ql ops.toList (List.range ops.size) τ σ G a w (.refl G) ?_ h e f);apply anQ;intro i;simp only[anq,am5];by_cases d:i<ops.size
 ·simp[List.getElem?_range d,amK d]
 ·rw[aoJ omq,amC soq];rfl
def Gh.strip(G:Gh):Gh:={G with blk:=λ_ _=>none}
def Cu{i:Nat}{f:FuncId}{ds:List D}{d:D}(I:br ds=true)(h:rI i P f ds [] λz n=>∃j,D3 n z=some (d,j)/\d.pure=true):cy P f ds d:=by
 intro G w g m H J;let B0:bL P:=⟨w,G,H,λb o v h=>eO (m.imm b o v h),λb B h=>bD (m.mimm b B h).1⟩;have E:Rel B0 G.strip [] w:=by
  refine⟨anB _ _,m.imm,m.mimm,m.siz,?_,?_,?_,?_,?_,?_,?_,λ_ _ _=>rfl,λ_ _=>rfl⟩
  ·intro l u b q;cases q
  ·intro l u R S b q;cases q
  ·intro l A b c;simp at c
  ·intro l O C u b c;simp at c
  ·intro l Q U b c;simp at c
  ·intro l A c;simp at c
  ·intro l A c;simp at c
 refine(h B0 G.strip w g E (af.pure (G:=G) (G':=G.strip) (λ_ _ _ x=>x) (λ_ _ x=>x) ds g I J)).mono ?_;rintro e V ⟨v,G',z,n,rfl,r,p,F,j,K,s⟩;obtain⟨t,L,k,M⟩:=afs p K F;let y:Gh:={t with blk:=G.blk};refine⟨v,y,rfl,?_,Rep.pure (G:=t) (G':=y) (λ_ _ _ x=>x) (λ_ _ x=>x) d v s M⟩;have a:=r.trans (L.b (i:=i));exact {
  le:=⟨a.imm,a.mimm,λ_ _ _ x=>x,a.siz⟩
  below:=k.below
  blk:=rfl
  imm:=k.imm
  mimm:=k.mimm
  siz:=k.siz
  imm_new:=k.bimm
  mimm_new:=k.bmimm}
def Uw{i:Nat}(g:TOk T P){f:FuncId}{fn:Func}{c:Code}{ds:List D}{d:D}(m:P.funcs[f]?=some fn)(l:fn.body=some c)(n:ds.length<=fn.ntmps)(p:br ds=true)
 (h:AWp i P fn.ntmps c (env0 0 ds) [] λe j a=>(e=.normal∨e=.ret)/\∃k,uu T fn.results.toList j a=some k/\∃b,D3 a k=some (d,b)/\d.pure=true):cy P f ds d:=
 Cu p (F7 g m l n h)
end
end Go.Fw
namespace Go.Fw
open Go.RowKit
section
variable {P:Program}{T:Tys}{K:FuncId→List D→Option D}{N:Nat}{all:Array Oper}{o:Oper}{r:List Oper}{τ τ' :Env}{σ σ' :Sto}{d:D}{Kt:Env→Sto→Prop}
def go1(tok:TOk T P)(a:KOk P K)(b:bA all τ o=some true)(c:opE T K τ σ o.op=some (d,σ'))(e:eR N o.dst d τ=some τ')(h:fu P N all r τ' σ' Kt):fu P N all (o::r) τ σ Kt:=
 .inl ⟨b,(aj6 tok a c).mono (by rintro f s ⟨rfl,rfl⟩;exact⟨τ',e,h⟩)⟩
def no1(a:bA all τ o=some false)(b:eR N o.dst (.tuple []) τ=some τ')(h:fu P N all r τ' σ Kt):fu P N all (o::r) τ σ Kt:=
 .inr ⟨a,τ',b,h⟩
def aiC(T:Tys)(c:List ResultVar)(d:D):AEx->Env->Sto->Prop:=λe τ' σ'=>
 (e=.normal∨e=.ret)/\∃b,uu T c τ' σ'=some b/\∃a,D3 σ' b=some (d,a)/\d.pure=true
def aeV{i:Nat}(tok:TOk T P){f:FuncId}{fn:Func}{c:Code}{ds:List D}{d:D}(b:P.funcs[f]?=some fn)(a:fn.body=some c)(e:Nat.ble ds.length fn.ntmps=true)(g:br ds=true)
 (h:AWp i P fn.ntmps c (env0 0 ds) [] (aiC T fn.results.toList d)):cy P f ds d:=
 Uw tok b a (amx e) g h
def FM{c:List ResultVar}{d b:D}{a:Sto}(e:uu T c τ σ=some b)(f:D3 σ b=some (d,a))(g:d.pure=true):aiC T c d .ret τ σ:=
 ⟨.inr rfl,b,e,a,f,g⟩
end
end Go.Fw
def amH:=@List.getD_eq_getElem?_getD
def anx:=@List.getElem?_of_mem
def anO:=@Bool.or_eq_true
def aoe:=@List.mem_append_left
def aor:=@List.mem_append_right
def aoC:=@List.getElem?_set
namespace Go.Fw
open Go.RowKit
def Ax(acc:List Nat):List Edge->Nat
 |[]=>0
 |e::a=>match Region.binds .any e with
  |true=>Nat.lor (Nat.lor (Nat.pow 2 e.on) (acc.getD e.on 0)) (Ax acc a)
  |false=>Ax acc a
def bq:List Oper->List Nat->List Nat
 |[],acc=>acc
 |o::r,acc=>bq r (acc++[Ax acc o.after.toList])
def pp(L:Array Bool)(m:Nat):Prop:=∀j,m.testBit j=true->L.getD j false=true
def uv(ops:Array Oper)(L:Array Bool):Prop:=
 ∀j a,ops[j]?=some a->L.getD j false=true->∀e∈a.after,Region.binds .any e=true->L.getD e.on false=true
def Tl{L:Array Bool}{acc:List Nat}(b:∀j m,acc[j]?=some m->L.getD j false=true->pp L m):∀(es:List Edge),
 (∀e∈es,Region.binds .any e=true->L.getD e.on false=true)->pp L (Ax acc es)
 |[],_,j,a=>by simp[Ax]at a
 |e::es,h,j,a=>by
  have f:=Tl b es (λx k=>h x (amF _ k));simp only[Ax]at a;split at a
  ·rename_i i;have d:=h e (am0 ..) i;have g:Nat.lor (Nat.lor (Nat.pow 2 e.on) (acc.getD e.on 0)) (Ax acc es)=((2 ^ e.on|||acc.getD e.on 0)|||Ax acc es):=rfl;rw[g,Nat.testBit_or,Nat.testBit_or,Nat.testBit_two_pow]at a;simp only[anO,amX]at a;rcases a with(rfl|a)|a
   ·exact d
   ·cases c:acc[e.on]? with
    |none=>rw[amH,c]at a;simp at a
    |some m=>
     rw[amH,c]at a;exact b _ _ c d j a
   ·exact f j a
  ·exact f j a
def sI{ops:Array Oper}{L:Array Bool}(hd:uv ops L):∀(r pre:List Oper)(acc:List Nat),ops.toList=pre++r->acc.length=pre.length->
 (∀(j m:Nat)(f:Oper),acc[j]?=some m->ops[j]?=some f->(∀e∈f.after,Region.binds .any e=true->L.getD e.on false=true)->pp L m)->
 (∀(j m:Nat)(f:Oper),(bq r acc)[j]?=some m->ops[j]?=some f->(∀e∈f.after,Region.binds .any e=true->L.getD e.on false=true)->pp L m)
 |[],_,_,_,_,h=>h
 |o::r,pre,acc,hops,hlen,h=>by
  refine sI hd r (pre++[o]) (acc++[Ax acc o.after.toList]) (by simp[hops]) (by simp[hlen]) ?_;intro j m f b d a;rcases amB j acc.length with s|p
  ·rw[amu s]at b;exact h j m f b d a
  ·rw[amA p]at b;have q:j=acc.length:=by
    cases w:j-acc.length with
    |zero=>omega
    |succ k=>rw[w]at b;simp at b
   subst q;simp at b;subst b;have v:ops[acc.length]?=some o:=by
    rw[<-am5,hops,hlen];simp
   rw[v]at d;cases d;refine Tl (λg x c u=> ?_) _ (λe n l=>a e (by simpa using n) l);have t:g<acc.length:=by
    rcases amB g acc.length with i|i
    ·exact i
    ·rw[amC i]at c;cases c
   have:g<ops.size:=by
    have:ops.toList.length=pre.length+(o::r).length:=by rw[hops];simp
    simp at this;omega
   exact h g x ops[g] c (amK this) (λe n l=>hd g _ (amK this) u e n l)
def gK{α:Type}(f:α->Prop):List α->Prop
 |[]=>True
 |x::r=>f x/\gK f r
def gK.mem{α:Type}{f:α->Prop}:∀{l:List α},gK f l->∀x∈l,f x
 |_::_,h,x,a=>by
  rcases amN.1 a with rfl|a
  ·exact h.1
  ·exact h.2.mem x a
def cw:List Nat->Sto->Sto
 |[],a=>a
 |l::b,a=>(cw b a).set l .dead
def pq:∀(ls:List Nat)(σ:Sto),(cw ls σ).length=σ.length
 |[],_=>rfl
 |l::ls,σ=>by simp[cw,pq ls σ]
def iP:∀(ls:List Nat)(σ:Sto)(x:Nat),(cw ls σ)[x]?=if x∈ls/\x<σ.length then some .dead else σ[x]?
 |[],_,_=>by simp[cw]
 |l::ls,σ,x=>by
  simp only[cw,aoC,pq,iP ls σ x,amN];by_cases e:l=x
  ·subst e;by_cases a:l<σ.length
   ·simp[a]
   ·simp only[a,ani];have c:¬(l<σ.length):=a;simp[amC (Nat.le_of_not_lt a)]
  ·have b:¬x=l:=λh=>e h.symm;simp[e,b]
abbrev Res:=List (Nat×Nat×List D)
def fI:Res->Nat->List (List Nat)
 |[],_=>[[]]
 |(j,l,_)::A,m=>match Nat.testBit m j with
  |true=>fI A m
  |false=>fI A m++(fI A m).map (l::·)
def eg(L:Array Bool):Res->List Nat
 |[]=>[]
 |(j,l,_)::A=>match L.getD j false with
  |true=>eg L A
  |false=>l::eg L A
def F8{L:Array Bool}{m:Nat}(h:pp L m):∀(A:Res),eg L A∈fI A m
 |[]=>by simp[eg,fI]
 |(j,l,_)::A=>by
  have a:=F8 h A;simp only[eg,fI];cases b:L.getD j false<;>cases c:Nat.testBit m j<;>simp only
  ·exact aor _ (anh.2 ⟨_,a,rfl⟩)
  ·rw[h j c]at b;cases b
  ·exact aoe _ a
  ·exact a
def nK(m:Nat):List Sto->List Nat->List Sto
 |[],_=>[]
 |a::r,C=>match C.all (λc=> !Nat.testBit m c) with
  |true=>a::nK m r C.tail
  |false=>nK m r C.tail
def C1{m:Nat}:∀{S:List Sto}{C:List Nat}{k:Nat}{σ:Sto},S[k]?=some σ->(∀b c,C[b]?=some c->k<=b->Nat.testBit m c=false)->σ∈nK m S C
 |[],_,_,_,h,_=>by simp at h
 |s::S,C,0,σ,h,d=>by
  simp at h;subst h;simp only[nK];have:C.all (λc=> !Nat.testBit m c)=true:=by
   rw[amM];intro c e;obtain⟨b,a⟩:=anx e;simp[d b c a (anp _)]
  rw[this];exact am0 ..
 |s::S,C,k+1,σ,h,d=>by
  simp only[anE]at h;have f:=C1 (S:=S) (C:=C.tail) h (λb c a g=>d (b+1) c (by rw[<-a,List.getElem?_tail]) omq);simp only[nK];split
  ·exact amF _ f
  ·exact f
inductive Kd where
 |skip|read|chain(k:Nat)|alloc(l:Nat)(cs:List D)
structure Rc where
 o:Oper
 env:Env
 v:D
 kd:Kd
def rst(ops:Array Oper)(o:Oper)(τ:Env):Env:=τ.filter λp=>(o.looksAt ops).contains p.1
def reS(A:Res)(M C:List Nat)(σ:Sto):Nat->List Rc->List (Rc×Sto)
 |_,[]=>[]
 |j,r::a=>match r.kd with
  |.read=>match C.all (λc=> !Nat.testBit (M.getD c 0) j) with
   |true=>((fI A (M.getD j 0)).map λb=>(r,cw b σ))++reS A M C σ (j+1) a
   |false=>reS A M C σ (j+1) a
  |_=>reS A M C σ (j+1) a
def F9(m:Nat)(C:List Nat):Bool:=match C.getLast? with
 |none=>true
 |some c=>Nat.testBit m c
def uw(A:Res)(i:Nat):Option (Nat×List D):=match A.find? (λx=>x.1==i) with
 |some x=>some x.2
 |none=>none
def ADr(P:Program)(N:Nat)(ops:Array Oper)(A:Res)(M:List Nat):List Oper->Nat->Env->List Sto->List Nat->List Rc->(Env->Sto->Prop)->Prop
 |[],_,b,S,_,tab,K=>gK (λ(x:Nat×Nat×List D)=>∃r,tab[x.1]?=some r/\r.kd=.alloc x.2.1 x.2.2) A/\∃f,S.getLast?=some f/\K b f
 |o::r,i,b,S,C,tab,K=>
  (bA ops (rst ops o b) o=some false/\∃a,eR N o.dst (.tuple []) b=some a/\ADr P N ops A M r (i+1) a S C (tab++[⟨o,rst ops o b,.tuple [],.skip⟩]) K)∨
  (bA ops (rst ops o b) o=some true/\∃d a,
    gK (λs=>AOp P N o (rst ops o b) s λg h=>g=d/\h=s) ((nK (M.getD i 0) S C).flatMap λf=>(fI A (M.getD i 0)).map (cw · f))/\
    eR N o.dst d b=some a/\ADr P N ops A M r (i+1) a S C (tab++[⟨o,rst ops o b,d,.read⟩]) K)∨
  (bA ops (rst ops o b) o=some true/\F9 (M.getD i 0) C=true/\∃d a f c,S.getLast?=some f/\
    gK (λk=>AOp P N o (rst ops o b) (cw k f) λg h=>g=d/\h=cw k c) (fI A (M.getD i 0))/\
    gK (λ(x:Rc×Sto)=>AOp P N x.1.o x.1.env x.2 λg h=>g=x.1.v/\h=x.2) (reS A M (C++[i]) c 0 tab)/\
    gK (λ(x:Nat×Nat×List D)=>match Nat.testBit (M.getD i 0) x.1 with|true=>True|false=>c[x.2.1]?=some (.cells x.2.2 0 0)) A/\
    eR N o.dst d b=some a/\ADr P N ops A M r (i+1) a (S++[c]) (C++[i]) (tab++[⟨o,rst ops o b,d,.chain C.length⟩]) K)∨
  (bA ops (rst ops o b) o=some true/\∃e l j a,o.op=.alloc e/\uw A i=some (l,j)/\nx P e=some j/\
    eR N o.dst (.ptr l 0 0) b=some a/\ADr P N ops A M r (i+1) a S C (tab++[⟨o,rst ops o b,.ptr l 0 0,.alloc l j⟩]) K)
end Go.Fw
def anA:=@List.getLast?_eq_getElem?
def apk:=@List.mem_flatMap
def apI:=@List.filter_cons
def ap0:=@Nat.le_of_lt
namespace Go.Fw
open Go.RowKit
def Win(M C:List Nat)(i k:Nat):Prop:=
 ∀(a c:Nat),C[a]?=some c->(a<k->Nat.testBit (M.getD c 0) i=false)/\(k<=a->Nat.testBit (M.getD i 0) c=false)
def PE(P:Program)(N:Nat)(ops:Array Oper)(A:Res)(M:List Nat)(S:List Sto)(C:List Nat)(i:Nat)(r:Rc):Prop:=
 match r.kd with
 |.skip=>bA ops r.env r.o=some false/\r.v=.tuple []
 |.read=>bA ops r.env r.o=some true/\∀(k:Nat)(a:Sto),S[k]?=some a->Win M C i k->∀b∈fI A (M.getD i 0),AOp P N r.o r.env (cw b a) (λf g=>f=r.v/\g=cw b a)
 |.chain k=>bA ops r.env r.o=some true/\C[k]?=some i/\(∀(j c:Nat),k=j+1->C[j]?=some c->Nat.testBit (M.getD i 0) c=true)/\
  ∃(a d:Sto),S[k]?=some a/\S[k+1]?=some d/\∀b∈fI A (M.getD i 0),AOp P N r.o r.env (cw b a) (λf g=>f=r.v/\g=cw b d)
 |.alloc l h=>bA ops r.env r.o=some true/\(i,l,h)∈A/\r.v=.ptr l 0 0/\∃e,r.o.op=.alloc e/\nx P e=some h
def C2(tab:List Rc)(τ0:Env)(i t:Nat)(d:D):Prop:=
 (∃(j:Nat)(a:Rc),j<i/\tab[j]?=some a/\a.o.dst=some t/\a.v=d)∨((∀(j:Nat)(a:Rc),j<i->tab[j]?=some a->a.o.dst≠some t)/\get τ0 t=some d)
structure fJ(P:Program)(N:Nat)(ops:Array Oper)(A:Res)(M:List Nat)(τ0:Env)(s0:Sto)(tab:List Rc)(S:List Sto)(C:List Nat)(τ:Env):Prop where
 rc:∀(i:Nat)(r:Rc),tab[i]?=some r->ops[i]?=some r.o/\PE P N ops A M S C i r
 slen:S.length=C.length+1
 hd:S[0]?=some s0
 ch:∀(k c:Nat),C[k]?=some c->∃r:Rc,tab[c]?=some r/\r.kd=.chain k
 res:∀x∈A,∀(k:Nat)(σ:Sto),S[k]?=some σ->(∀(k' c:Nat),C[k']?=some c->k'<k->Nat.testBit (M.getD c 0) x.1=false)->σ[x.2.1]?=some (.cells x.2.2 0 0)
 env:∀(i:Nat)(r:Rc),tab[i]?=some r->∀t d,get r.env t=some d->(r.o.looksAt ops).contains t=true/\C2 tab τ0 i t d
 fin:∀t d,get τ t=some d->C2 tab τ0 tab.length t d
 dst:∀(i:Nat)(r:Rc)(t:Nat),tab[i]?=some r->r.o.dst=some t->t<N
def qt{p:Nat->Bool}:∀{τ:Env}{t:Nat}{d:D},get (τ.filter λq=>p q.1) t=some d->p t=true/\get τ t=some d
 |[],_,_,h=>by simp[get]at h
 |(i,x)::τ,t,d,h=>by
  simp only[apI]at h;by_cases a:p i=true
  ·simp only[a,ano,get]at h⊢;by_cases e:i=t
   ·subst e;simp only[ano]at h⊢;exact⟨a,h⟩
   ·simp only[e,ani]at h⊢;exact qt h
  ·simp only[a]at h;obtain⟨b,c⟩:=qt h;refine⟨b,?_⟩;have:i≠t:=λe=>by subst e;exact a b
   simp only[get,this,ani];exact c
def ai{α:Type}{l:List α}{i:Nat}{x:α}(h:l[i]?=some x):i<l.length:=by
 rcases amB i l.length with a|a
 ·exact a
 ·rw[amC a]at h;cases h
def kj{α:Type}{l:List α}{x y:α}{i:Nat}(h:(l++[x])[i]?=some y):(i<l.length/\l[i]?=some y)∨(i=l.length/\y=x):=by
 have b:=ai h;simp at b;rcases amB i l.length with a|a
 ·rw[amu a]at h;exact .inl ⟨a,h⟩
 ·have:i=l.length:=omq;subst this;simp at h;exact .inr ⟨rfl,h.symm⟩
def fY{α:Type}{l:List α}{x y:α}{i:Nat}(h:l[i]?=some y):(l++[x])[i]?=some y:=by
 rw[amu (ai h)];exact h
section
variable {P:Program}{N:Nat}{ops:Array Oper}{A:Res}{M:List Nat}{τ0:Env}{s0:Sto}{tab:List Rc}{S:List Sto}{C:List Nat}{τ τ2:Env}
def C2.push{r:Rc}{i t:Nat}{d:D}(h:C2 tab τ0 i t d)(l:i<=tab.length):C2 (tab++[r]) τ0 i t d:=by
 rcases h with⟨j,c,a,b,e,f⟩|⟨a,b⟩
 ·exact .inl ⟨j,c,a,fY b,e,f⟩
 ·refine .inr ⟨λj c g k=> ?_,b⟩;rcases kj k with⟨_,h⟩|⟨rfl,_⟩
  ·exact a j c g h
  ·omega
def xl(h:fJ P N ops A M τ0 s0 tab S C τ){r:Rc}(b:eR N r.o.dst r.v τ=some τ2)(y:r.env=rst ops r.o τ):
 (∀(i:Nat)(c:Rc),(tab++[r])[i]?=some c->∀t d,get c.env t=some d->(c.o.looksAt ops).contains t=true/\C2 (tab++[r]) τ0 i t d)/\
 (∀t d,get τ2 t=some d->C2 (tab++[r]) τ0 (tab++[r]).length t d)/\(∀(i:Nat)(c:Rc)(t:Nat),(tab++[r])[i]?=some c->c.o.dst=some t->t<N):=by
 refine⟨λi c o t d a=> ?_,λt d a=> ?_,λi c t o u=> ?_⟩
 ·rcases kj o with⟨n,l⟩|⟨rfl,rfl⟩
  ·obtain⟨k,g⟩:=h.env i c l t d a;exact⟨k,g.push (ap0 n)⟩
  ·rw[y]at a;obtain⟨k,g⟩:=qt (p:=λx=>(c.o.looksAt ops).contains x) a;exact⟨k,(h.fin t d g).push (amt _)⟩
 ·unfold eR at b;have f:r.o.dst≠some t->get τ t=some d->C2 (tab++[r]) τ0 (tab++[r]).length t d:=by
   intro q a;rcases h.fin t d a with⟨j,s,k,g,v,w⟩|⟨k,g⟩
   ·exact .inl ⟨j,s,by simp;omega,fY g,v,w⟩
   ·refine .inr ⟨λj s D z=> ?_,g⟩;rcases kj z with⟨n,l⟩|⟨rfl,rfl⟩
    ·exact k j s n l
    ·exact q
  split at b
  ·rename_i m;cases b;exact f (by rw[m];simp) a
  ·rename_i B m;split at b<;>try (cases b;done)
   cases b;simp only[get]at a;by_cases e:B=t
   ·subst e;simp only[ano,amn]at a;exact .inl ⟨tab.length,r,by simp,by simp,m,a⟩
   ·simp only[e,ani]at a;exact f (by rw[m];simpa using e) a
 ·rcases kj o with⟨n,l⟩|⟨rfl,rfl⟩
  ·exact h.dst i c t l u
  ·unfold eR at b;rw[u]at b;simp only at b;split at b
   ·assumption
   ·cases b
def fJ.push(h:fJ P N ops A M τ0 s0 tab S C τ){r:Rc}(l:ops[tab.length]?=some r.o)(j:PE P N ops A M S C tab.length r)(b:eR N r.o.dst r.v τ=some τ2)(a:r.env=rst ops r.o τ):
 fJ P N ops A M τ0 s0 (tab++[r]) S C τ2 where
 rc i d hi:=by
  rcases kj hi with⟨_,e⟩|⟨rfl,rfl⟩
  ·exact h.rc i d e
  ·exact⟨l,j⟩
 slen:=h.slen
 hd:=h.hd
 ch k c hc:=by
  obtain⟨d,f,g⟩:=h.ch k c hc;exact⟨d,fY f,g⟩
 res:=h.res
 env:=(xl h b a).1
 fin:=(xl h b a).2.1
 dst:=(xl h b a).2.2
def Wo{σ:Sto}:∀{tab:List Rc}{j0 j:Nat}{r:Rc}{ls:List Nat},tab[j]?=some r->r.kd=.read->C.all (λc=> !Nat.testBit (M.getD c 0) (j0+j))=true->ls∈fI A (M.getD (j0+j) 0)->
 (r,cw ls σ)∈reS A M C σ j0 tab
 |[],_,_,_,_,h,_,_,_=>by simp at h
 |x::tab,j0,0,r,ls,h,d,a,b=>by
  simp at h;subst h;simp only[aoQ]at a b;simp only[reS,d,a];exact aoe _ (anh.2 ⟨ls,b,rfl⟩)
 |x::tab,j0,j+1,r,ls,h,d,a,b=>by
  simp only[anE]at h;have e:j0+(j+1)=(j0+1)+j:=omq;rw[e]at a b;have f:=Wo (σ:=σ) (j0:=j0+1) h d a b;simp only[reS];split
  ·split
   ·exact aor _ f
   ·exact f
  ·exact f
def fJ.pushC(h:fJ P N ops A M τ0 s0 tab S C τ){r:Rc}{σ':Sto}(O:ops[tab.length]?=some r.o)(w:r.kd=.chain C.length)
 (n:PE P N ops A M (S++[σ']) (C++[tab.length]) tab.length r)
 (z:∀x∈reS A M (C++[tab.length]) σ' 0 tab,AOp P N x.1.o x.1.env x.2 λG R=>G=x.1.v/\R=x.2)
 (p:∀x∈A,match Nat.testBit (M.getD tab.length 0) x.1 with|true=>True|false=>σ'[x.2.1]?=some (.cells x.2.2 0 0))
 (y:eR N r.o.dst r.v τ=some τ2)(u:r.env=rst ops r.o τ):
 fJ P N ops A M τ0 s0 (tab++[r]) (S++[σ']) (C++[tab.length]) τ2 where
 rc i s hi:=by
  rcases kj hi with⟨f,g⟩|⟨rfl,rfl⟩
  ·obtain⟨j,b⟩:=h.rc i s g;refine⟨j,?_⟩;unfold PE at b⊢;cases a:s.kd with
   |skip=>simp only[a]at b⊢;exact b
   |alloc l T=>simp only[a]at b⊢;exact b
   |read=>
    simp only[a]at b⊢;refine⟨b.1,λk m n E F o=> ?_⟩;rcases kj n with⟨_,e⟩|⟨rfl,rfl⟩
    ·exact b.2 k m e (λq c d=>E q c (fY d)) F o
    ·refine z (s,cw F m) (Wo g a ?_ (by simpa using o));rw[amM];intro c d;obtain⟨q,e⟩:=anx d;have f:=ai e;have:=(E q c e).1 (by rw[h.slen];simpa using f);rw[ane,this];rfl
   |chain k=>
    simp only[a]at b⊢;obtain⟨H,D,I,m,B,J,K,L⟩:=b;refine⟨H,fY D,λQ c v d=> ?_,m,B,fY J,fY K,L⟩;subst v;have:=ai D;rw[amu omq]at d;exact I Q c rfl d
  ·exact⟨O,n⟩
 slen:=by simp[h.slen]
 hd:=fY h.hd
 ch k c d:=by
  rcases kj d with⟨_,g⟩|⟨rfl,rfl⟩
  ·obtain⟨s,j,b⟩:=h.ch k c g;exact⟨s,fY j,b⟩
  ·exact⟨r,by simp,w⟩
 res x hx k m n d:=by
  rcases kj n with⟨_,g⟩|⟨rfl,rfl⟩
  ·exact h.res x hx k m g λq c t f=>d q c (fY t) f
  ·have j:=p x hx;have b:=d C.length tab.length siq (by rw[h.slen];omega);rw[b]at j;exact j
 env:=(xl h y u).1
 fin:=(xl h y u).2.1
 dst:=(xl h y u).2.2
def IY{i l:Nat}{cs:List D}(h:uw A i=some (l,cs)):(i,l,cs)∈A:=by
 unfold uw at h;split at h
 ·rename_i x d;have c:=List.find?_some d;have e:=List.mem_of_find?_eq_some d;simp only[anR]at c;obtain⟨a,b⟩:=x;simp only at c h;cases h;subst c;exact e
 ·cases h
def PF{K:Env->Sto->Prop}:∀(r:List Oper)(τ:Env)(S:List Sto)(C:List Nat)(tab:List Rc)(pre:List Oper),ops.toList=pre++r->tab.length=pre.length->
 fJ P N ops A M τ0 s0 tab S C τ->ADr P N ops A M r tab.length τ S C tab K->
 ∃(a:List Rc)(S':List Sto)(g:List Nat)(τ':Env)(σ':Sto),a.length=ops.size/\fJ P N ops A M τ0 s0 a S' g τ'/\S'.getLast?=some σ'/\K τ' σ'/\(∀x∈A,∃r:Rc,a[x.1]?=some r/\r.kd=.alloc x.2.1 x.2.2)
 |[],τ,S,C,tab,pre,hops,hlen,hT,h=>by
  obtain⟨s,σ,B,D⟩:=h;have:ops.size=pre.length:=by have:=amV List.length hops;simpa using this
  exact⟨tab,S,C,τ,σ,omq,hT,B,D,s.mem⟩
 |o::r,τ,S,C,tab,pre,hops,hlen,hT,h=>by
  have ho:ops[tab.length]?=some o:=by rw[<-am5,hops,hlen];simp
  have next:∀(p:Rc)(τ2:Env)(S':List Sto)(g:List Nat),p.o=o->fJ P N ops A M τ0 s0 (tab++[p]) S' g τ2->ADr P N ops A M r (tab.length+1) τ2 S' g (tab++[p]) K->
   ∃(a:List Rc)(S':List Sto)(g:List Nat)(τ':Env)(σ':Sto),a.length=ops.size/\fJ P N ops A M τ0 s0 a S' g τ'/\S'.getLast?=some σ'/\K τ' σ'/\(∀x∈A,∃r:Rc,a[x.1]?=some r/\r.kd=.alloc x.2.1 x.2.2):=by
   intro p τ2 S' g H q z;exact PF r τ2 S' g (tab++[p]) (pre++[o]) (by simp[hops]) (by simp[hlen]) q (by simpa using z)
  rcases h with⟨m,τ2,j,h⟩|⟨m,d,τ2,b,j,h⟩|⟨m,i,d,τ2,σ,σ',f,b,w,n,j,h⟩|⟨m,e,l,y,τ2,v,E,F,j,h⟩
  ·exact next ⟨o,rst ops o τ,.tuple [],.skip⟩ τ2 S C rfl (hT.push ho ⟨m,rfl⟩ j rfl) h
  ·refine next ⟨o,rst ops o τ,d,.read⟩ τ2 S C rfl (hT.push ho ⟨m,λk σ hk hwin ls hls=> ?_⟩ j rfl) h
   refine b.mem _ (apk.2 ⟨σ,C1 hk λG c hc u=>(hwin G c hc).2 u,anh.2 ⟨ls,hls,rfl⟩⟩)
  ·refine next ⟨o,rst ops o τ,d,.chain C.length⟩ τ2 (S++[σ']) (C++[tab.length]) rfl (hT.pushC ho rfl ⟨m,by simp,λk1 c hk1 hc=> ?_,σ,σ',?_,?_,λls hls=>b.mem ls hls⟩ w.mem n.mem j rfl) h
   ·have t:C.getLast?=some c:=by
     rw[amu omq]at hc;rw[anA,hk1];exact hc
    unfold F9 at i;rw[t]at i;exact i
   ·have:S[C.length]?=some σ:=by
     rw[anA,hT.slen]at f;exact f
    exact fY this
   ·rw[<-hT.slen];simp
  ·refine next ⟨o,rst ops o τ,.ptr l 0 0,.alloc l y⟩ τ2 S C rfl (hT.push ho ⟨m,IY E,rfl,e,v,F⟩ j rfl) h
end
end Go.Fw
def anH:=@Bool.not_eq_true'
def apz:=@List.getElem?_replicate
namespace Go.Fw
open Go.RowKit
def mLt:List Nat->Nat->Bool
 |[],_=>true
 |m::r,i=>Nat.blt m (Nat.pow 2 i)&&mLt r (i+1)
def Ga:List Oper->Nat->Bool
 |[],_=>true
 |o::r,i=>(o.after.toList.all λe=> !Region.binds .any e||Nat.blt e.on i)&&Ga r (i+1)
def Ey(M:List Nat)(ops:Array Oper)(i:Nat)(o:Oper):Nat->List Oper->Bool
 |_,[]=>true
 |j,p::r=>(match p.dst with
  |none=>true
  |some t=>Nat.beq i j||((!(o.looksAt ops).contains t||Nat.testBit (M.getD i 0) j||Nat.testBit (M.getD j 0) i)&& !(o.dst==some t)))&&Ey M ops i o (j+1) r
def Ez(M:List Nat)(ops:Array Oper):Nat->List Oper->Bool
 |_,[]=>true
 |i,o::r=>Ey M ops i o 0 ops.toList&&Ez M ops (i+1) r
def eC(ops:Array Oper)(M:List Nat):Bool:=mLt M 0&&Ga ops.toList 0&&Ez M ops 0 ops.toList
def Tm:∀{M:List Nat}{i0 i m:Nat},mLt M i0=true->M[i]?=some m->m<2 ^ (i0+i)
 |[],_,_,_,_,h=>by simp at h
 |x::M,i0,0,m,h,a=>by
  simp at a;subst a;simp only[mLt,amk]at h;exact amx h.1
 |x::M,i0,i+1,m,h,a=>by
  simp only[mLt,amk]at h;have:=Tm h.2 (by simpa using a);rwa[show i0+(i+1)=i0+1+i by omega]
def Gb:∀{l:List Oper}{i0 i:Nat}{o:Oper},Ga l i0=true->l[i]?=some o->∀e∈o.after,Region.binds .any e=true->e.on<i0+i
 |[],_,_,_,_,h=>by simp at h
 |x::l,i0,0,o,h,b=>by
  simp at b;subst b;simp only[Ga,amk,amM,anO,anH]at h;intro e d c;rcases h.1 e (by simpa using d) with a|a
  ·rw[c]at a;cases a
  ·exact amx a
 |x::l,i0,i+1,o,h,b=>by
  simp only[Ga,amk]at h;have:=Gb h.2 (by simpa using b);intro e d c;have:=this e d c;omega
def C3{M:List Nat}{ops:Array Oper}{i:Nat}{o:Oper}:∀{l:List Oper}{j0 j:Nat}{p:Oper}{t:Nat},Ey M ops i o j0 l=true->l[j]?=some p->p.dst=some t->i≠j0+j->
 ((o.looksAt ops).contains t=true->Nat.testBit (M.getD i 0) (j0+j)=true∨Nat.testBit (M.getD (j0+j) 0) i=true)/\o.dst≠some t
 |[],_,_,_,_,_,h,_,_=>by simp at h
 |x::l,j0,0,p,t,h,b,c,hne=>by
  simp at b;subst b;simp only[Ey,c,amk,anO,anH]at h;rcases h.1 with a|⟨a,d⟩
  ·exact absurd (anL a) hne
  ·refine⟨λe=> ?_,by simpa using d⟩;rcases a with(a|a)|a
   ·rw[e]at a;cases a
   ·exact .inl a
   ·exact .inr a
 |x::l,j0,j+1,p,t,h,b,c,hne=>by
  simp only[Ey,amk]at h;rw[show j0+(j+1)=j0+1+j by omega]at hne⊢;exact C3 h.2 (by simpa using b) c hne
def Gd{M:List Nat}{ops:Array Oper}:∀{l:List Oper}{i0 i:Nat}{o:Oper},Ez M ops i0 l=true->l[i]?=some o->Ey M ops (i0+i) o 0 ops.toList=true
 |[],_,_,_,_,h=>by simp at h
 |x::l,i0,0,o,h,a=>by
  simp at a;subst a;simp only[Ez,amk]at h;exact h.1
 |x::l,i0,i+1,o,h,a=>by
  simp only[Ez,amk]at h;rw[show i0+(i+1)=i0+1+i by omega];exact Gd h.2 (by simpa using a)
def ij{L:Array Bool}{y:Nat}:∀{A:Res},y∈eg L A↔∃x∈A,L.getD x.1 false=false/\x.2.1=y
 |[]=>by simp[eg]
 |(j,l,e)::A=>by
  simp only[eg];cases d:L.getD j false<;>simp only[amN,ij (A:=A)]
  ·constructor
   ·rintro(rfl|⟨x,b,a⟩)
    ·exact⟨_,.inl rfl,d,rfl⟩
    ·exact⟨x,.inr b,a⟩
   ·rintro⟨x,rfl|b,a,c⟩
    ·exact .inl c.symm
    ·exact .inr ⟨x,b,a,c⟩
  ·constructor
   ·rintro⟨x,b,a⟩;exact⟨x,.inr b,a⟩
   ·rintro⟨x,rfl|b,a,c⟩
    ·rw[d]at a;cases a
    ·exact⟨x,b,a,c⟩
def EA{σ σ':Sto}(h:∀x:Nat,σ[x]?=σ'[x]?):σ=σ':=anQ h
def jQ{ls ls':List Nat}{σ:Sto}(h:∀x,x∈ls↔x∈ls'):cw ls σ=cw ls' σ:=
 EA λx=>by simp only[iP,h x]
def Tn{ls ls':List Nat}{σ:Sto}{l:Nat}{ob:am}(h:∀x,x∈ls'↔(x∈ls/\x≠l))(a:σ[l]?=some ob):(cw ls σ).set l ob=cw ls' σ:=by
 refine EA λx=> ?_;simp only[aoC,pq,iP,h x];by_cases e:l=x
 ·subst e;have:=ai a;rw[aml this]at a;simp[this,anm a]
 ·have b:x≠l:=λh=>e h.symm;simp[e,b]
def Rel.drawn{P:Program}{B:bL P}{G:Gh}{σ:Sto}{w:World}(h:Rel B G σ w):Rel B G σ {w with drawn:=w.drawn+1}:=h.drew
def Rel.dead{P:Program}{B:bL P}{G:Gh}{σ:Sto}{w:World}(h:Rel B G σ w)(n:Nat):Rel B G (σ++List.replicate n .dead) w:=by
 have j:∀(l:Nat)(d:am),(σ++List.replicate n am.dead)[l]?=some d->σ[l]?=some d∨(σ.length<=l/\d=.dead):=by
  intro l d g;rcases amB l σ.length with c|c
  ·rw[amu c]at g;exact .inl g
  ·rw[amA c,apz]at g;split at g
   ·cases g;exact .inr ⟨c,rfl⟩
   ·cases g
 have m:∀l u b,G.blk l u=some b->¬σ.length<=l:=λl u b e a=>absurd (h.blk l u b e).1 omq;refine⟨h.below,h.imm,h.mimm,h.siz,λl u b e=> ?_,h.inj,λl d b f e=> ?_,λl o k u b f e=> ?_,λl p q b f e=> ?_,λl d f=> ?_,λl d f=> ?_,h.bimm,h.bmimm⟩
 ·obtain⟨r,i⟩:=h.blk l u b e;exact⟨by simp;omega,i⟩
 ·rcases j l d f with c|⟨a,rfl⟩
  ·exact h.obj l d b c e
  ·exact absurd a (m _ _ _ e)
 ·rcases j l _ f with c|⟨a,i⟩
  ·exact h.own l o k u b c e
  ·cases i
 ·rcases j l _ f with c|⟨a,i⟩
  ·exact h.ownm l p q b c e
  ·cases i
 ·rcases j l d f with c|⟨a,rfl⟩
  ·exact h.ver l d c
  ·exact⟨amt _,λu b e=>absurd a (m _ _ _ e)⟩
 ·rcases j l d f with c|⟨a,rfl⟩
  ·exact h.frzle l d c
  ·exact amt _
def ab8{P:Program}{B:bL P}{G:Gh}{σ:Sto}{w:World}(e:Rel B G σ w){l:Nat}(g:σ[l]?=some .dead){t:TypeId}{cs:List D}(h:nx P t=some cs):
 ∃m d v,(Instr.alloc t true (.tuple #[])).run P w=.ok v m/\G.Le d/\Rel B d (σ.set l (.cells cs 0 0)) m/\Rep d (.ptr l 0 0) v:=by
 obtain⟨i,v,q,r,s⟩:=lJ h;have k:=ai g;have a:=(e.ver l .dead g).2;have p:G.blk l 0=none:=by
  cases f:G.blk l 0 with
  |none=>rfl
  |some b=>exact(e.obj l .dead b g f).elim
 obtain⟨n,o⟩:=e.bindCells (l:=l) (u:=0) (frz:=0) (cs:=cs) (σ':=σ.set l (.cells cs 0 0)) t siq (λy j=>by rw[am2 (an9 j)])
  (by simp[k]) p ⟨anp _,λx b f=>a x b f⟩ (anp _) (c:=v.cells) (hd:=v.cells.toList) (tl:=[]) siq (nw G s)
 refine⟨_,_,.pointer (some ⟨w.heap.size,0,none⟩),?_,n,o,?_⟩
 ·unfold Instr.alloc;simp only[zeroValue,typeInfo,amD,anM,amv,q,amQ,r,newVar,newRow,ao1];rfl
 ·simp only[Rep];exact⟨w.heap.size,by simp[Gh.bind],rfl⟩
end Go.Fw
def amW:=@Array.getElem?_eq_some_iff
def anW:=@Go.getD_set_ne
def aob:=@Go.mem_ready
def aoA:=@Nat.pow_le_pow_right
namespace Go.Fw
open Go.RowKit
section
variable {fl:Nat}{P:Program}{N:Nat}{ops:Array Oper}{A:Res}{M:List Nat}{τ0:Env}{s0:Sto}{tab:List Rc}{S:List Sto}{C:List Nat}{τ:Env}
structure Inv(fl:Nat)(ops:Array Oper)(A:Res)(τ0:Env)(tab:List Rc)(S:List Sto)(C:List Nat)(N:Nat)(B:bL P)(G0:Gh)(L:Array Bool)(a:Act)(w:World):Prop where
 size:L.size=ops.size
 down:uv ops L
 st:∃G k σ,G0.LeB fl G/\S[k]?=some σ/\(∀(k' c:Nat),C[k']?=some c->(L.getD c false=true↔k'<k))/\Rel B G (cw (eg L A) σ) w/\
  a.tmps.size=N/\a.defers=[]/\
  (∀(i:Nat)(r:Rc)(t:Nat),tab[i]?=some r->L.getD i false=true->r.o.dst=some t->Rep G r.v (a.tmps.getD t undef))/\
  (∀t d,get τ0 t=some d->(∀(i:Nat)(r:Rc),tab[i]?=some r->L.getD i false=true->r.o.dst≠some t)->Rep G d (a.tmps.getD t undef))
def df{L:Array Bool}{i j:Nat}(b:i<L.size):(L.setIfInBounds i true).getD j false=true↔(j=i∨L.getD j false=true):=by
 by_cases e:i=j
 ·subst e;simp[b]
 ·have a:¬j=i:=λh=>e h.symm;rw[anW false e];simp[a]
def cF{L:Array Bool}{i:Nat}(h:L.getD i true=false):i<L.size/\L.getD i false=false:=by
 rcases amB i L.size with a|a
 ·refine⟨a,?_⟩;simp[ams,a]at h⊢;exact h
 ·simp[ams,aoJ a]at h
def To{a:Act}{dst:Option Tmp}{v:Value}{t:Nat}(b:t<a.tmps.size):(a.put dst v).tmps.getD t undef=if dst=some t then v else a.tmps.getD t undef:=by
 cases dst with
 |none=>simp[Act.put]
 |some d=>
  by_cases e:d=t
  ·subst e;simp[Act.put,ams,b]
  ·have:¬(some d=some t):=λh=>e (anm h);simp[Act.put,ams,aoq e,e]
def IZ{a:Act}{dst:Option Tmp}{v:Value}{t:Nat}(h:dst≠some t):(a.put dst v).tmps.getD t undef=a.tmps.getD t undef:=by
 cases dst with
 |none=>rfl
 |some d=>
  have:d≠t:=λe=>h (by rw[e]);simp[Act.put,ams,aoq this]
variable{Z:Gh}
def Inv.next(y:fJ P N ops A M τ0 s0 tab S C τ)(Q:eC ops M=true){B:bL P}{L:Array Bool}{a:Act}{w:World}(E:Inv fl ops A τ0 tab S C N B Z L a w)
 {i:Nat}{r:Rc}(u:tab[i]?=some r)(hi:L.getD i true=false)(n:∀e∈r.o.after,Region.binds .any e=true->L.getD e.on false=true)
 {G':Gh}{R:Nat}{σ':Sto}{v:Value}{W:World}
 (K:∃G,Z.LeB fl G/\G.Le G'/\
   (∀(i:Nat)(r:Rc)(t:Nat),tab[i]?=some r->L.getD i false=true->r.o.dst=some t->Rep G r.v (a.tmps.getD t undef))/\
   (∀t d,get τ0 t=some d->(∀(i:Nat)(r:Rc),tab[i]?=some r->L.getD i false=true->r.o.dst≠some t)->Rep G d (a.tmps.getD t undef)))
 (J:S[R]?=some σ')(Y:∀(V c:Nat),C[V]?=some c->((L.setIfInBounds i true).getD c false=true↔V<R))
 (hR:Rel B G' (cw (eg (L.setIfInBounds i true) A) σ') W)(hv:Rep G' r.v v):Inv fl ops A τ0 tab S C N B Z (L.setIfInBounds i true) (a.put r.o.dst v) W:=by
 obtain⟨b,j3⟩:=cF hi;obtain⟨G,X,g,o,s⟩:=K;obtain⟨_,_,_,_,_,_,_,x,I,_,_⟩:=E.st;refine⟨by simpa using E.size,λj oj f k e U T=> ?_,G',R,σ',X.trans g.b,J,Y,hR,?_,?_,λj D t m k z=> ?_,λt d H p=> ?_⟩
 ·have q:L.getD e.on false=true:=by
   rcases (df b).1 k with rfl|k
   ·have:=(y.rc j r u).1;rw[f]at this;cases this;exact n e U T
   ·exact E.down j oj f k e U T
  exact getD_set_true q
 ·cases H:r.o.dst<;>simp[Act.put,x]
 ·cases H:r.o.dst<;>simp[Act.put,I]
 ·by_cases e:j=i
  ·subst e;rw[u]at m;cases m;rw[To (by rw[x];exact y.dst _ _ _ u z),amE z];exact hv
  ·have F:L.getD j false=true:=by
    rcases (df b).1 k with h|h
    ·exact absurd h e
    ·exact h
   have l:r.o.dst≠some t:=by
    unfold eC at Q;simp only[amk]at Q;have f:=(y.rc j D m).1;have O:=(y.rc i r u).1;have:=Gd Q.2 (by rw[am5];exact O);exact(C3 (j:=j) this (by rw[am5];exact f) z omq).2
   rw[IZ l];exact Rep.mono g _ _ (o j D t m F z)
 ·have l:r.o.dst≠some t:=p i r u ((df b).2 (.inl rfl));rw[IZ l];exact Rep.mono g _ _ (s t d H λj D m k=>p j D m ((df b).2 (.inr k)))
def Inv.trel(y:fJ P N ops A M τ0 s0 tab S C τ)(W:bq ops.toList []=M)(J:eC ops M=true){B:bL P}{G0 G:Gh}{L:Array Bool}{a:Act}{w:World}(R:Inv fl ops A τ0 tab S C N B G0 L a w)
 (p:∀(i:Nat)(r:Rc)(t:Nat),tab[i]?=some r->L.getD i false=true->r.o.dst=some t->Rep G r.v (a.tmps.getD t undef))
 (q:∀t d,get τ0 t=some d->(∀(i:Nat)(r:Rc),tab[i]?=some r->L.getD i false=true->r.o.dst≠some t)->Rep G d (a.tmps.getD t undef))
 {i:Nat}{r:Rc}(V:tab[i]?=some r)(hi:L.getD i true=false)(hn:pp L (M.getD i 0)):dD G N r.env a:=by
 obtain⟨_,_,_,_,_,_,_,O,E,_,_⟩:=R.st;obtain⟨U,o⟩:=cF hi;unfold eC at J;simp only[amk]at J;obtain⟨⟨s,j3⟩,K⟩:=J;refine⟨O,E,λt d Z=> ?_⟩;obtain⟨u,D⟩:=y.env i r V t d Z;have I:=(y.rc i r V).1;have b:=Gd K (by rw[am5];exact I);rw[ane]at b;rcases D with⟨j,v,hj,k,c,rfl⟩|⟨H,F⟩
 ·have g:=(y.rc j v k).1;have:=(C3 (j:=j) b (by rw[am5];exact g) c omq).1 u;rw[ane]at this;rcases this with h|h
  ·exact p j v t k (hn j h) c
  ·exfalso;cases f:M[j]? with
   |none=>rw[amH,f]at h;simp at h
   |some m=>
    have l:=Tm s f;rw[amH,f]at h;have:=Nat.testBit_lt_two_pow (i:=i) (x:=m) (am9 l (aoA omq omq));simp[this]at h
 ·refine q t d F λj v k z c=> ?_;have g:=(y.rc j v k).1;by_cases e:i=j
  ·subst e;rw[o]at z;cases z
  ·have:=(C3 (j:=j) b (by rw[am5];exact g) c omq).1 u;rw[ane]at this;rcases this with h|h
   ·refine H j v ?_ k c;cases f:M[i]? with
    |none=>rw[amH,f]at h;simp at h
    |some m=>
     have l:=Tm s f;rw[amH,f]at h;rcases amB j i with Q|Q
     ·exact Q
     ·have:=Nat.testBit_lt_two_pow (i:=j) (x:=m) (am9 l (aoA omq omq));simp[this]at h
   ·have T:=R.down;have n:=sI (ops:=ops) (L:=L) T ops.toList [] [] siq rfl (λj m oj h=>by simp at h);rw[W]at n;cases f:M[j]? with
    |none=>rw[amH,f]at h;simp at h
    |some m=>
     rw[amH,f]at h;have:=n j m _ f g (λe Y X=>T j _ g z e Y X) i h;rw[o]at this;cases this
def I0{o:Oper}{e:TypeId}{cs:List D}{σ:Sto}{l:Nat}{τ:Env}(f:o.op=.alloc e)(t:nx P e=some cs)(q:σ[l]?=some .dead):
 AOp P N o τ σ λd s=>d=.ptr l 0 0/\s=σ.set l (.cells cs 0 0):=by
 intro B G w a p x next Q r
 obtain⟨g,h,v,j,k,m,n⟩:=ab8 p q t;have b:(execOp a.eval o).run P w=.ok (.value v) g:=by
  obtain⟨i,y,z,u,c,guard⟩:=o;simp only at f;subst f;unfold execOp;simp[j]
 unfold Oper.wp;rw[b];exact r v g h _ _ k m n ⟨rfl,rfl⟩
def oz{L:Array Bool}{i:Nat}(b:∀x∈A,x.1≠i)(y:Nat):y∈eg (L.setIfInBounds i true) A↔y∈eg L A:=by
 simp only[ij];constructor
 ·rintro⟨x,a,c,d⟩;refine⟨x,a,?_,d⟩;rw[anW false (an9 (b x a))]at c;exact c
 ·rintro⟨x,a,c,d⟩;refine⟨x,a,?_,d⟩;rw[anW false (an9 (b x a))];exact c
def NZ(O:fJ P N ops A M τ0 s0 tab S C τ)(hM:bq ops.toList []=M)(hp:eC ops M=true)(n7:tab.length=ops.size)
 (m9:∀x∈A,∃r:Rc,tab[x.1]?=some r/\r.kd=.alloc x.2.1 x.2.2)(n5:∀x∈A,∀y∈A,x.2.1=y.2.1->x.1=y.1)
 {B:bL P}{L:Array Bool}{a:Act}{w:World}(Y:Inv fl ops A τ0 tab S C N B Z L a w){i:Nat}(hi:i∈Region.ready .any ops L){Q:Exit->Act->World->Prop}
 {K:Act->World->Prop}(hK:∀a' w',Inv fl ops A τ0 tab S C N B Z (L.setIfInBounds i true) a' w'->K a' w'):wpOp P ops Q i K a w:=by
 obtain⟨H,o,ho,p⟩:=aob.1 hi;obtain⟨j3,k9⟩:=cF H;have q6:i<tab.length:=by rw[n7];exact(amW.1 ho).1
 obtain⟨r,R⟩:∃r,tab[i]?=some r:=⟨_,aml q6⟩;obtain⟨n9,f⟩:=O.rc i r R;rw[ho]at n9;cases n9;have j7:=sI (ops:=ops) (L:=L) Y.down ops.toList [] [] siq rfl (λj m oj h=>by simp at h);rw[hM]at j7;have hn:pp L (M.getD i 0):=by
  intro j hj;cases hm:M[i]? with
  |none=>rw[amH,hm]at hj;simp at hj
  |some m=>
   rw[amH,hm]at hj;exact j7 i m _ hm ho p j hj
 obtain⟨G,k,σ,h0,hS,hC,hR,r9,q9,q,s⟩:=Y.st;have V:=Y.trel O hM hp q s R H hn;have j5:Win M C i k:=by
  intro k' c u;constructor
  ·intro T;have hL:=(hC k' c u).2 T;cases hb:Nat.testBit (M.getD c 0) i with
   |false=>rfl
   |true=>
    obtain⟨rc,D,_⟩:=O.ch k' c u;have n8:=(O.rc c rc D).1;cases hm:M[c]? with
    |none=>rw[amH,hm]at hb;simp at hb
    |some m=>
     rw[amH,hm]at hb;have:=j7 c m _ hm n8 (λe he p8=>Y.down c _ n8 hL e he p8) i hb;rw[k9]at this;cases this
  ·intro F;cases hb:Nat.testBit (M.getD i 0) c with
   |false=>rfl
   |true=>
    have:=(hC k' c u).1 (hn c hb);omega
 have W:∀{b:Bool},bA ops r.env r.o=some b->Region.wanted r.o (yielded ops a.tmps)=b:=λh=>xK V h;have n:(∀k,r.kd≠.chain k)->∀(t c:Nat),C[t]?=some c->((L.setIfInBounds i true).getD c false=true↔t<k):=by
  intro m5 t c u;have:c≠i:=by
   rintro rfl;obtain⟨rc,D,E⟩:=O.ch t c u;rw[R]at D;cases D;exact m5 _ E
  rw[anW false (an9 this)];exact hC t c u
 have g:(∀l cs,r.kd≠.alloc l cs)->∀x∈A,x.1≠i:=by
  rintro m5 x hx rfl;obtain⟨r',o7,E⟩:=m9 x hx;rw[R]at o7;cases o7;exact m5 _ _ E
 have j4:=F8 hn A;unfold PE at f;unfold wpOp;rw[ho];simp only;cases I:r.kd with
 |skip=>
  simp only[I]at f;rw[am4 (by rw[W f.1];simp)];refine hK _ _ (Y.next O hp R H p ⟨G,h0,.refl G,q,s⟩ hS (n (by rw[I];simp)) ?_ ?_)
  ·rw[jQ (oz (g (by rw[I];simp)))];exact hR
  ·rw[f.2];simp only[Rep,undef];exact⟨#[],rfl,by simp[af]⟩
 |read=>
  simp only[I]at f;rw[amE (W f.1)];refine .inl (f.2 k σ hS j5 _ j4 B G w a hR V _ _ ?_);rintro v w' G' d s' F J hd ⟨rfl,rfl⟩;refine hK _ _ (Y.next O hp R H p ⟨G,h0,F,q,s⟩ hS (n (by rw[I];simp)) ?_ hd);rw[jQ (oz (g (by rw[I];simp)))];exact J
 |chain k0=>
  simp only[I]at f;obtain⟨hw,j8,m7,s6,s8,o9,q8,m6⟩:=f;rw[amE (W hw)];have q7:k0=k:=by
   have h1:¬k0<k:=λh=>by
    have:=(hC k0 i j8).2 h;rw[k9]at this;cases this
   rcases amB k k0 with X|X
   ·exfalso;obtain⟨t,rfl⟩:∃t,k0=t+1:=⟨k0-1,omq⟩;have T:=ai j8;obtain⟨c,u⟩:∃c,C[t]?=some c:=⟨C[t],aml omq⟩;have:=(hC t c u).1 (hn c (m7 t c rfl u));omega
   ·omega
  subst q7;rw[hS]at o9;cases o9;refine .inl (m6 _ j4 B G w a hR V _ _ ?_);rintro v w' G' d s' F J hd ⟨rfl,rfl⟩;refine hK _ _ (Y.next O hp R H p ⟨G,h0,F,q,s⟩ q8 ?_ ?_ hd)
  ·intro t c u;rw[df j3,hC t c u];constructor
   ·rintro(rfl|h)
    ·obtain⟨rc,D,E⟩:=O.ch t c u;rw[R]at D;cases D;rw[I]at E;cases E;omega
    ·omega
   ·intro h;rcases amB t k0 with h'|h'
    ·exact .inr h'
    ·have:t=k0:=omq;subst this;rw[j8]at u;cases u;exact .inl rfl
  ·rw[jQ (oz (g (by rw[I];simp)))];exact J
 |alloc l cs=>
  simp only[I]at f;obtain⟨hw,p7,hv,e,m6,hz⟩:=f;rw[amE (W hw)];obtain⟨x,hx,rfl,m8⟩:∃x∈A,x.1=i/\x.2=(l,cs):=⟨_,p7,rfl,rfl⟩;have j6:σ[l]?=some (.cells cs 0 0):=by
   have:=O.res x hx k σ hS λk' c u T=>(j5 k' c u).1 T;rw[m8]at this;exact this
  have p9:l∈eg L A:=ij.2 ⟨x,hx,k9,by rw[m8]⟩;have j9:(cw (eg L A) σ)[l]?=some .dead:=by
   rw[iP,amE ⟨p9,ai j6⟩]
  refine .inl (I0 (N:=N) (τ:=r.env) m6 hz j9 B G w a hR V _ _ ?_);rintro v w' G' d s' F J hd ⟨rfl,rfl⟩;refine hK _ _ (Y.next O hp R H p ⟨G,h0,F,q,s⟩ hS (n (by rw[I];simp)) ?_ (by rw[hv];exact hd));rw[<-Tn (ls:=eg L A) (l:=l) ?_ j6]
  ·exact J
  ·intro y;simp only[ij];constructor
   ·rintro⟨z,h1,X,h3⟩;have U:z.1≠x.1:=by
     intro e';rw[e',(df j3).2 (.inl rfl)]at X;cases X
    rw[anW false (an9 U)]at X;refine⟨⟨z,h1,X,h3⟩,?_⟩;rintro rfl;exact U (n5 z h1 x hx (by rw[h3,m8]))
   ·rintro⟨⟨z,h1,X,h3⟩,U⟩;refine⟨z,h1,?_,h3⟩;have:z.1≠x.1:=by
     intro e';obtain⟨rz,o8,n6⟩:=m9 z h1;rw[e',R]at o8;cases o8;rw[I]at n6;cases n6;exact U h3.symm
    rw[anW false (an9 this)];exact X
end
end Go.Fw
def am8:=@List.getElem_mem
def aoB:=@List.getElem?_range'
def apl:=@List.not_mem_nil
def aps:=@Nat.not_lt_zero
namespace Go.Fw
open Go.RowKit
section
variable {fl:Nat}{P:Program}{N:Nat}{ops:Array Oper}{A:Res}{M:List Nat}{τ0:Env}{s0:Sto}{tab:List Rc}{S:List Sto}{C:List Nat}{τ:Env}
def oU{l:List Bool}{i:Nat}(h:l[i]?=some false):(l.set i true).count false+1=l.count false:=by
 have a:=ai h;rw[aml a]at h;have h:=anm h;have b:0<l.count false:=List.count_pos_iff.2 (by rw[<-h];exact am8 _);rw[List.count_set a];simp[h];omega
def sJ{l:List Bool}(h:l.count false=0)(i:Nat)(b:i<l.length):l[i]?=some true:=by
 rw[aml b];have:=List.count_eq_zero.1 h;cases a:l[i] with
 |true=>rfl
 |false=>exact absurd (by rw[<-a];exact am8 _) this
def Ay(a:eC ops M=true){L:Array Bool}(p:L.size=ops.size):∀(n i:Nat),i<=n->L.getD i true=false->∃j,j∈Region.ready .any ops L:=by
 intro n;induction n with
 |zero=>
  intro i l b;have:i=0:=omq;subst this;obtain⟨g,_⟩:=cF b;refine⟨0,aob.2 ⟨b,ops[0]'(by omega),amK omq,λe d c=> ?_⟩⟩;unfold eC at a;simp only[amk]at a;have:=Gb a.1.2 (i:=0) (o:=ops[0]'(by omega)) (by rw[am5];exact amK omq) e d c;omega
 |succ n m=>
  intro i l b;obtain⟨g,_⟩:=cF b;by_cases k:∃e∈(ops[i]'(by omega)).after,Region.binds .any e=true/\L.getD e.on false=false
  ·obtain⟨e,d,c,f⟩:=k;unfold eC at a;simp only[amk]at a;have h:=Gb a.1.2 (i:=i) (o:=ops[i]'(by omega)) (by rw[am5];exact amK omq) e d c;refine m e.on omq ?_;have:e.on<L.size:=omq;simp[ams,this]at f⊢;exact f
  ·refine⟨i,aob.2 ⟨b,ops[i]'(by omega),amK omq,λe d c=> ?_⟩⟩;cases f:L.getD e.on false with
   |true=>rfl
   |false=>exact absurd ⟨e,d,c,f⟩ k
def Tp(v:fJ P N ops A M τ0 s0 tab S C τ)(hM:bq ops.toList []=M)(hp:eC ops M=true)(g:tab.length=ops.size)
 (z:∀x∈A,∃r:Rc,tab[x.1]?=some r/\r.kd=.alloc x.2.1 x.2.2)(E:∀x∈A,∀y∈A,x.2.1=y.2.1->x.1=y.1)
 {B:bL P}{G0:Gh}{Q:AEx->Env->Sto->Prop}{σ:Sto}(h:S.getLast?=some σ)(hQ:Q .normal τ σ):
 ∀(e:Nat)(L:Array Bool)(a:Act)(w:World),L.toList.count false<=e->Inv fl ops A τ0 tab S C N B G0 L a w->wpAny P .any ops (jP fl B G0 N Q) e L a w:=by
 have u:∀(L:Array Bool)(a:Act)(w:World),Inv fl ops A τ0 tab S C N B G0 L a w->Region.ready .any ops L=[]->jP fl B G0 N Q .normal a w:=by
  intro L a w l s;have O:∀i,i<L.size->L.getD i false=true:=by
   intro i q;cases hb:L.getD i false with
   |true=>rfl
   |false=>
    have:L.getD i true=false:=by
     simp[ams,q]at hb⊢;exact hb
    obtain⟨j,I⟩:=Ay hp l.size i i (amt _) this;rw[s]at I;cases I
  obtain⟨G,k,n,h0,hS,hC,hR,Y,R,F,H⟩:=l.st;have hk:k=C.length:=by
   have J:k<S.length:=ai hS;rw[v.slen]at J;rcases amB k C.length with h2|h2
   ·exfalso;obtain⟨c,D⟩:∃c,C[k]?=some c:=⟨C[k],aml h2⟩;obtain⟨rc,X,_⟩:=v.ch k c D;have b:=ai X;have:=(hC k c D).1 (O c (by rw[l.size,<-g];exact b));omega
   ·omega
  have Z:n=σ:=by
   rw[anA,v.slen]at h;subst hk;have f:S[C.length]?=some σ:=h;rw[hS]at f;exact anm f
  subst Z;have hh:cw (eg L A) n=n:=by
   rw[jQ (ls':=[]) ?_]
   ·rfl
   ·intro x;simp only[ij,apl,iff_false];rintro⟨y,hy,o,_⟩;obtain⟨r,W,_⟩:=z y hy;have b:=ai W;rw[O y.1 (by rw[l.size,<-g];exact b)]at o;cases o
  rw[hh]at hR;refine⟨G,τ,n,h0,hR,⟨Y,R,λt d hg=> ?_⟩,hQ⟩;rcases v.fin t d hg with⟨j,rj,I,m,T,rfl⟩|⟨V,U⟩
  ·exact F j rj t m (O j (by rw[l.size,<-g];exact I)) T
  ·exact H t d U λj rj m _=>V j rj (ai m) m
 intro e;induction e with
 |zero=>
  intro L a w D l;have s:Region.ready .any ops L=[]:=by
   rw[anC];intro i q;obtain⟨p,_⟩:=aob.1 q;obtain⟨b,o⟩:=cF p;have:=sJ (Nat.le_zero.1 D) i (by simpa using b);simp[ams,b]at o;simp[b,o]at this
  exact⟨s,u L a w l s⟩
 |succ e ih=>
  intro L a w D l;refine⟨λs=>u L a w l s,λi q=> ?_⟩;refine NZ v hM hp g z E l q λa' w' K=>ih _ a' w' ?_ K;obtain⟨p,_⟩:=aob.1 q;obtain⟨b,o⟩:=cF p;have J:L.toList[i]?=some false:=by
   simp[ams,b]at o;simp[b,o]
  have:=oU J;rw[aoj];omega
end
def Q3{fl:Nat}{P:Program}{N:Nat}{τ:Env}{σ:Sto}{id:Nat}{ops:Array Oper}{Q:AEx->Env->Sto->Prop}(hm:P.follows .mixedOrders=true)(A:Res){M:List Nat}
 (Z:bq ops.toList []=M)(hp:eC ops M=true)(V:A.map (·.2.1)=List.range' σ.length A.length)
 (h:ADr P N ops A M ops.toList 0 τ [σ++A.map λx=>am.cells x.2.2 0 0] [] [] (λJ I=>Q .normal J I)):AWp fl P N (.region id ops true) τ σ Q:=by
 intro B G w a hR K;have b:∀x∈A,(σ++A.map λx=>am.cells x.2.2 0 0)[x.2.1]?=some (.cells x.2.2 0 0)/\∃n,A[n]?=some x/\x.2.1=σ.length+n:=by
  intro x o;obtain⟨n,p⟩:=anx o;have q:(A.map (·.2.1))[n]?=some x.2.1:=by simp[p]
  rw[V]at q;have g:=ai p;rw[aoB g]at q;simp at q;refine⟨?_,n,p,q.symm⟩;rw[<-q,amA omq];simp[p]
 have E:∀x∈A,∀y∈A,x.2.1=y.2.1->x.1=y.1:=by
  intro x o y T e;obtain⟨_,n,p,q⟩:=b x o;obtain⟨_,m,H,X⟩:=b y T;have:n=m:=omq;subst this;rw[p]at H;cases H;rfl
 obtain⟨W,S',C',J,I,F,u,v,Y,L⟩:=PF (τ0:=τ) (s0:=σ++A.map λx=>am.cells x.2.2 0 0) ops.toList τ _ [] [] [] siq rfl ⟨λi r h=>by simp at h,rfl,rfl,λk c h=>by simp at h,
  λx o k s R _=>by
   have:s=σ++A.map λx=>am.cells x.2.2 0 0:=by
    cases k with
    |zero=>simp at R;exact R.symm
    |succ k=>simp at R
   subst this;exact(b x o).1,λi r h=>by simp at h,λt d O=>.inr ⟨λj rj hj _=>absurd hj (aps _),O⟩,λi r t h=>by simp at h⟩ h
 refine wp_region_any hm (Tp u Z hp F L E v Y ops.size _ a _ siq ⟨by simp,λj oj j3 z=> ?_,?_⟩)
 ·exfalso;rcases amB j ops.size with f|f
  ·simp[ams,f]at z
  ·simp[ams,f]at z
 ·have l:∀j,(Array.replicate ops.size false).getD j false=false:=by
   intro j;rcases amB j ops.size with f|f
   ·simp[ams,f]
   ·simp[ams,f]
  refine⟨G,0,_,.refl G,u.hd,λk' c hc=> ?_,?_,K.size,K.defers,λi r t _ z _=> ?_,λt d O _=>K.slot t d O⟩
  ·rw[l c];simp
  ·have:cw (eg (Array.replicate ops.size false) A) (σ++A.map λx=>am.cells x.2.2 0 0)=σ++List.replicate A.length .dead:=by
    refine EA λx=> ?_;rw[iP];have D:x∈eg (Array.replicate ops.size false) A↔(σ.length<=x/\x<σ.length+A.length):=by
     rw[ij];constructor
     ·rintro⟨y,T,_,rfl⟩;obtain⟨_,n,p,q⟩:=b y T;have:=ai p;omega
     ·rintro⟨q,X⟩;have g:x-σ.length<A.length:=omq;refine⟨A[x-σ.length],am8 _,l _,?_⟩;obtain⟨_,n,p,h3⟩:=b _ (am8 g);have U:(A.map (·.2.1))[x-σ.length]?=some (A[x-σ.length]).2.1:=by simp[g]
      rw[V,aoB g]at U;simp at U;omega
    by_cases o:σ.length<=x/\x<σ.length+A.length
    ·rw[amE ⟨D.2 o,by simp;exact o.2⟩,amA o.1,apz,amE omq]
    ·rw[am4 (λh=>o (D.1 h.1))];rcases amB x σ.length with f|f
     ·rw[amu f,amu f]
     ·rw[amC soq,amC soq]
   rw[this];exact(hR.dead _).drawn
  ·rw[l i]at z;cases z
end Go.Fw
namespace Go.Fw
open Go.RowKit
def bu{a b:Nat}(h:Nat.beq a b=true):a=b:=anL h
mutual
def D.beq:D->D->Bool
 |.bool a,e=>match e with|.bool b=>a==b|_=>false
 |.int k a,e=>match e with|.int l b=>decide (k=l)&&decide (a=b)|_=>false
 |.str a,e=>match e with|.str b=>decide (a=b)|_=>false
 |.nilp,e=>match e with|.nilp=>true|_=>false
 |.ptr l u o,e=>match e with|.ptr l' u' o'=>Nat.beq l l'&&Nat.beq u u'&&Nat.beq o o'|_=>false
 |.rptr cs o,e=>match e with|.rptr cs' o'=>Nat.beq o o'&&D.beqs cs cs'|_=>false
 |.list cs n f,e=>match e with|.list cs' n' f'=>Nat.beq n n'&&f==f'&&D.beqs cs cs'|_=>false
 |.sl l u o n z f,e=>match e with|.sl l' u' o' n' z' f'=>Nat.beq l l'&&Nat.beq u u'&&Nat.beq o o'&&Nat.beq n n'&&Nat.beq z z'&&f==f'|_=>false
 |.map l,e=>match e with|.map l'=>Nat.beq l l'|_=>false
 |.nilmap,e=>match e with|.nilmap=>true|_=>false
 |.cmap ks vs,e=>match e with|.cmap ks' vs'=>D.beqs ks ks'&&D.beqs vs vs'|_=>false
 |.pmap ks vs,e=>match e with|.pmap ks' vs'=>D.beqs ks ks'&&D.beqs vs vs'|_=>false
 |.func fn a b,e=>match e with|.func fn' a' b'=>decide (fn=fn')&&D.beqs a a'&&D.beqs b b'|_=>false
 |.nilf,e=>match e with|.nilf=>true|_=>false
 |.iface t v,e=>match e with|.iface t' v'=>Nat.beq t t'&&D.beq v v'|_=>false
 |.nili,e=>match e with|.nili=>true|_=>false
 |.anyi,e=>match e with|.anyi=>true|_=>false
 |.agg cs,e=>match e with|.agg cs'=>D.beqs cs cs'|_=>false
 |.tuple cs,e=>match e with|.tuple cs'=>D.beqs cs cs'|_=>false
 |.junk,e=>match e with|.junk=>true|_=>false
def D.beqs:List D->List D->Bool
 |[],l=>match l with|[]=>true|_=>false
 |x::r,l=>match l with|y::s=>D.beq x y&&D.beqs r s|[]=>false
end
mutual
def D.beq_eq:∀(a b:D),D.beq a b=true->a=b
 |.bool a,e,h=>by cases e<;>simp only[D.beq]at h<;>first|(cases h;done)|simp_all
 |.int k a,e,h=>by cases e<;>simp only[D.beq]at h<;>first|(cases h;done)|simp_all
 |.str a,e,h=>by cases e<;>simp only[D.beq]at h<;>first|(cases h;done)|simp_all
 |.nilp,e,h=>by cases e<;>simp only[D.beq]at h<;>first|(cases h;done)|rfl
 |.ptr l u o,e,h=>by cases e<;>simp only[D.beq]at h<;>first|(cases h;done)|simp_all
 |.rptr cs o,e,h=>by
  cases e<;>simp only[D.beq]at h<;>first|(cases h;done)|skip
  simp only[amk]at h;rw[bu h.1,D.beqs_eq _ _ h.2]
 |.list cs n f,e,h=>by
  cases e<;>simp only[D.beq]at h<;>first|(cases h;done)|skip
  simp only[amk,anR]at h;rw[bu h.1.1,h.1.2,D.beqs_eq _ _ h.2]
 |.sl l u o n z f,e,h=>by cases e<;>simp only[D.beq]at h<;>first|(cases h;done)|simp_all
 |.map l,e,h=>by cases e<;>simp only[D.beq]at h<;>first|(cases h;done)|simp_all
 |.nilmap,e,h=>by cases e<;>simp only[D.beq]at h<;>first|(cases h;done)|rfl
 |.cmap ks vs,e,h=>by
  cases e<;>simp only[D.beq]at h<;>first|(cases h;done)|skip
  simp only[amk]at h;rw[D.beqs_eq _ _ h.1,D.beqs_eq _ _ h.2]
 |.pmap ks vs,e,h=>by
  cases e<;>simp only[D.beq]at h<;>first|(cases h;done)|skip
  simp only[amk]at h;rw[D.beqs_eq _ _ h.1,D.beqs_eq _ _ h.2]
 |.func fn a b,e,h=>by
  cases e<;>simp only[D.beq]at h<;>first|(cases h;done)|skip
  simp only[amk,amX]at h;rw[h.1.1,D.beqs_eq _ _ h.1.2,D.beqs_eq _ _ h.2]
 |.nilf,e,h=>by cases e<;>simp only[D.beq]at h<;>first|(cases h;done)|rfl
 |.iface t v,e,h=>by
  cases e<;>simp only[D.beq]at h<;>first|(cases h;done)|skip
  simp only[amk]at h;rw[bu h.1,D.beq_eq _ _ h.2]
 |.nili,e,h=>by cases e<;>simp only[D.beq]at h<;>first|(cases h;done)|rfl
 |.anyi,e,h=>by cases e<;>simp only[D.beq]at h<;>first|(cases h;done)|rfl
 |.agg cs,e,h=>by
  cases e<;>simp only[D.beq]at h<;>first|(cases h;done)|skip
  rw[D.beqs_eq _ _ h]
 |.tuple cs,e,h=>by
  cases e<;>simp only[D.beq]at h<;>first|(cases h;done)|skip
  rw[D.beqs_eq _ _ h]
 |.junk,e,h=>by cases e<;>simp only[D.beq]at h<;>first|(cases h;done)|rfl
def D.beqs_eq:∀(a b:List D),D.beqs a b=true->a=b
 |[],e,h=>by cases e<;>simp only[D.beqs]at h<;>first|(cases h;done)|rfl
 |x::r,e,h=>by
  cases e<;>simp only[D.beqs]at h<;>first|(cases h;done)|skip
  simp only[amk]at h;rw[D.beq_eq _ _ h.1,D.beqs_eq _ _ h.2]
end
def am.beq:am->am->Bool
 |.cells d f v,e=>match e with|.cells cs' f' v'=>Nat.beq f f'&&Nat.beq v v'&&D.beqs d cs'|_=>false
 |.map g h,e=>match e with|.map ks' vs'=>D.beqs g ks'&&D.beqs h vs'|_=>false
 |.siter s p,e=>match e with|.siter s' p'=>decide (s=s')&&Nat.beq p p'|_=>false
 |.miter a b r c,e=>match e with|.miter a' b' r' c'=>D.beqs a a'&&D.beqs b b'&&decide (r=r')&&decide (c=c')|_=>false
 |.dead,e=>match e with|.dead=>true|_=>false
 |.gone,e=>match e with|.gone=>true|_=>false
def am.beq_eq(a b:am)(h:a.beq b=true):a=b:=by
 cases a<;>cases b<;>simp only[am.beq]at h<;>first|(cases h;done)|skip
 ·simp only[amk]at h;rw[bu h.1.1,bu h.1.2,D.beqs_eq _ _ h.2]
 ·simp only[amk]at h;rw[D.beqs_eq _ _ h.1,D.beqs_eq _ _ h.2]
 ·simp_all
 ·simp only[amk,amX]at h;rw[D.beqs_eq _ _ h.1.1.1,D.beqs_eq _ _ h.1.1.2,h.1.2,h.2]
 ·rfl
 ·rfl
def Fx:Sto->Sto->Bool
 |[],l=>match l with|[]=>true|_=>false
 |x::r,l=>match l with|y::s=>x.beq y&&Fx r s|[]=>false
def Rp:∀(a b:Sto),Fx a b=true->a=b
 |[],e,h=>by cases e<;>simp only[Fx]at h<;>first|(cases h;done)|rfl
 |x::r,e,h=>by
  cases e<;>simp only[Fx]at h<;>first|(cases h;done)|skip
  simp only[amk]at h;rw[am.beq_eq _ _ h.1,Rp _ _ h.2]
abbrev sB:=FuncId->List D->Sto->Option (D×Sto)
def uf(P:Program)(call:sB):Prop:=∀f b σ d a,call f b σ=some (d,a)->fX P f/\ut P f b σ (λc s=>c=d/\s=a)
def xop(call:sB)(T:Tys)(τ:Env)(σ:Sto)(a:Op):Option (D×Sto):=
 match a with
 |.call c=>match Ro c.callee with
  |true=>aop T τ σ a
  |false=>match lO T τ c with
   |some (f,b)=>match lk T.ext f with
    |some k=>match Qk k b with
     |some d=>some (d,σ)
     |none=>none
    |none=>call f b σ
   |none=>none
 |_=>aop T τ σ a
section
variable {P:Program}{σ:Sto}
def aaz{T:Tys}(k:TOk T P){N:Nat}{o:Oper}{τ:Env}{c:Call}{f:FuncId}{ds:List D}{K:D->Sto->Prop}(z:o.op=.call c)(u:lO T τ c=some (f,ds))(x:fX P f)(h:ut P f ds σ K):AOp P N o τ σ K:=by
 intro B G w a m t next Q y
 obtain⟨j,g,b⟩:=DJ k (w:=w) (ty:=o.type) t u;rw[Ct x]at b;have i:(execOp a.eval o).run P w=.ok (.enter f j.toArray) w:=by
  unfold execOp;rw[z];exact b
 unfold Oper.wp;rw[i,Oper.upon_enter];refine(h B G w _ m g).mono ?_;rintro e A ⟨v,n,d,l,rfl,p,q,r,s⟩;exact y v A n d l (p.le m) q r s
def aaA{f:FuncId}{ds a:List D}{c:Sto}{K:D->Sto->Prop}(s:xW σ ds=some (a,c))(h:ut P f a c K):ut P f ds σ K:=by
 intro B G w b q r;obtain⟨k,t,i,u⟩:=Gk q s r;refine(h B k w b i u).mono ?_;rintro e x ⟨v,j,d,g,rfl,l,m,n,p⟩;exact⟨v,j,d,g,rfl,(t.trans (l.le i)).b,m,n,p⟩
end
section
variable {P:Program}{T:Tys}{call:sB}{N:Nat}{o:Oper}{τ:Env}{σ:Sto}
def aeR(a:TOk T P)(l:uf P call){d:D}{σ':Sto}(h:xop call T τ σ o.op=some (d,σ')):AOp P N o τ σ (λe s=>e=d/\s=σ'):=by
 unfold xop at h;split at h
 ·rename_i c b;split at h
  ·exact aT a h
  ·split at h<;>try (cases h;done)
   rename_i f p g;split at h
   ·rename_i k n;split at h<;>try (cases h;done)
    rename_i e m;cases h;exact KW a b g n m
   ·obtain⟨i,j⟩:=l _ _ _ _ _ h;exact aaz a b g i j
 ·exact aT a h
def Qm(call:sB)(T:Tys)(N:Nat)(all:Array Oper):List Oper->Env->Sto->Option (Env×Sto)
 |[],τ,σ=>some (τ,σ)
 |o::r,τ,σ=>match bA all τ o with
  |some true=>match xop call T τ σ o.op with
   |some (d,b)=>match eR N o.dst d τ with
    |some a=>Qm call T N all r a b
    |none=>none
   |none=>none
  |some false=>match eR N o.dst (.tuple []) τ with
   |some a=>Qm call T N all r a σ
   |none=>none
  |none=>none
def Qn(b:TOk T P)(e:uf P call){all:Array Oper}{j:Env->Sto->Prop}:∀(l:List Oper)(τ:Env)(σ:Sto)(τ':Env)(σ':Sto),Qm call T N all l τ σ=some (τ',σ')->j τ' σ'->fu P N all l τ σ j
 |[],τ,σ,τ',σ',h,c=>by
  simp only[Qm,amn,amJ]at h;obtain⟨rfl,rfl⟩:=h;exact c
 |o::r,τ,σ,τ',σ',h,c=>by
  simp only[Qm]at h;split at h<;>try (cases h;done)
  ·rename_i i;split at h<;>try (cases h;done)
   rename_i d k f;split at h<;>try (cases h;done)
   rename_i a g;refine .inl ⟨i,(aeR b e f).mono ?_⟩;rintro m s ⟨rfl,rfl⟩;exact⟨a,g,Qn b e r a _ τ' σ' h c⟩
  ·rename_i i;split at h<;>try (cases h;done)
   rename_i a g;exact .inr ⟨i,a,g,Qn b e r a _ τ' σ' h c⟩
def isX(call:sB)(T:Tys)(τ:Env)(σ:Sto)(b:Op)(d:D)(σ':Sto):Bool:=
 match xop call T τ σ b with
 |some (a,s)=>D.beq a d&&Fx s σ'
 |none=>false
def Ux(a:TOk T P)(c:uf P call){d:D}{σ':Sto}(h:isX call T τ σ o.op d σ'=true):AOp P N o τ σ (λb s=>b=d/\s=σ'):=by
 unfold isX at h;split at h
 ·rename_i b s e;simp only[amk]at h;rw[<-D.beq_eq _ _ h.1,<-Rp _ _ h.2];exact aeR a c e
 ·cases h
def SA(M:List Nat)(i:Nat)(σ':Sto):Res->Bool
 |[]=>true
 |x::A=>(Nat.testBit (M.getD i 0) x.1||match σ'[x.2.1]? with
   |some a=>a.beq (.cells x.2.2 0 0)
   |none=>false)&&SA M i σ' A
def KY(a:List Rc):Res->Bool
 |[]=>true
 |x::A=>(match a[x.1]? with
   |some r=>match r.kd with
    |.alloc l b=>Nat.beq l x.2.1&&D.beqs b x.2.2
    |_=>false
   |none=>false)&&KY a A
def Qo:Op->Option TypeId
 |.alloc e=>some e
 |_=>none
def xdr(call:sB)(T:Tys)(N:Nat)(ops:Array Oper)(A:Res)(M:List Nat):List Oper->Nat->Env->Sto->List Sto->List Nat->List Rc->Option (Env×Sto)
 |[],_,τ,σ,_,_,tab=>match KY tab A with
  |true=>some (τ,σ)
  |false=>none
 |o::r,i,τ,σ,S,C,tab=>match bA ops (rst ops o τ) o with
  |none=>none
  |some false=>match eR N o.dst (.tuple []) τ with
   |some b=>xdr call T N ops A M r (i+1) b σ S C (tab++[⟨o,rst ops o τ,.tuple [],.skip⟩])
   |none=>none
  |some true=>match Qo o.op with
   |some e=>match uw A i,lk T.zero e with
    |some (l,f),some c=>match D.beqs f c,eR N o.dst (.ptr l 0 0) τ with
     |true,some b=>xdr call T N ops A M r (i+1) b σ S C (tab++[⟨o,rst ops o τ,.ptr l 0 0,.alloc l f⟩])
     |_,_=>none
    |_,_=>none
   |none=>match xop call T (rst ops o τ) σ o.op with
    |some (d,a)=>match eR N o.dst d τ with
     |some b=>match Fx a σ with
      |true=>match ((nK (M.getD i 0) S C).flatMap λσ=>(fI A (M.getD i 0)).map (cw · σ)).all λs=>isX call T (rst ops o τ) s o.op d s with
       |true=>xdr call T N ops A M r (i+1) b σ S C (tab++[⟨o,rst ops o τ,d,.read⟩])
       |false=>none
      |false=>match F9 (M.getD i 0) C&&((fI A (M.getD i 0)).all λg=>isX call T (rst ops o τ) (cw g σ) o.op d (cw g a))&&
       ((reS A M (C++[i]) a 0 tab).all λx=>isX call T x.1.env x.2 x.1.o.op x.1.v x.2)&&SA M i a A with
        |true=>xdr call T N ops A M r (i+1) b a (S++[a]) (C++[i]) (tab++[⟨o,rst ops o τ,d,.chain C.length⟩])
        |false=>none
     |none=>none
    |none=>none
def A5{α:Type}{f:α->Prop}:∀{l:List α},(∀x∈l,f x)->gK f l
 |[],_=>trivial
 |x::_,h=>⟨h x (am0 ..),A5 λy a=>h y (amF _ a)⟩
def Uy{M:List Nat}{i:Nat}{σ':Sto}:∀{A:Res},SA M i σ' A=true->∀x∈A,match Nat.testBit (M.getD i 0) x.1 with|true=>True|false=>σ'[x.2.1]?=some (.cells x.2.2 0 0)
 |y::A,h,x,b=>by
  simp only[SA,amk]at h;rcases amN.1 b with rfl|b
  ·split
   ·trivial
   ·rename_i c;have a:=h.1;rw[c,Bool.false_or]at a;split at a
    ·rename_i e d;rw[d,am.beq_eq _ _ a]
    ·cases a
  ·exact Uy h.2 x b
def OR{b:List Rc}:∀{A:Res},KY b A=true->∀x∈A,∃r:Rc,b[x.1]?=some r/\r.kd=.alloc x.2.1 x.2.2
 |y::A,h,x,c=>by
  simp only[KY,amk]at h;rcases amN.1 c with rfl|c
  ·have a:=h.1;split at a
   ·rename_i r e;split at a
    ·rename_i l f d;simp only[amk]at a;exact⟨r,e,by rw[d,bu a.1,D.beqs_eq _ _ a.2]⟩
    ·cases a
   ·cases a
  ·exact OR h.2 x c
def J0(b:TOk T P)(g:uf P call){ops:Array Oper}{A:Res}{M:List Nat}{K:Env->Sto->Prop}:∀(l:List Oper)(i:Nat)(τ:Env)(σ:Sto)(S:List Sto)(C:List Nat)(f:List Rc)(τ':Env)(σ':Sto),
 S.getLast?=some σ->xdr call T N ops A M l i τ σ S C f=some (τ',σ')->K τ' σ'->ADr P N ops A M l i τ S C f K
 |[],i,τ,σ,S,C,f,τ',σ',hS,h,j=>by
  simp only[xdr]at h;split at h<;>try (cases h;done)
  rename_i H;cases h;exact⟨A5 (OR H),_,hS,j⟩
 |o::r,i,τ,σ,S,C,f,τ',σ',hS,h,j=>by
  simp only[xdr]at h;split at h<;>try (cases h;done)
  ·rename_i n;split at h<;>try (cases h;done)
   rename_i a k;exact .inl ⟨n,a,k,J0 b g r _ a σ S C _ τ' σ' hS h j⟩
  ·rename_i n;split at h
   ·rename_i e q;split at h<;>try (cases h;done)
    rename_i l v w F L;split at h<;>try (cases h;done)
    rename_i a t k;have m:o.op=.alloc e:=by
     unfold Qo at q;split at q
     ·rename_i Q G;cases q;exact G
     ·cases q
    refine .inr (.inr (.inr ⟨n,e,l,v,a,m,F,?_,k,J0 b g r _ a σ S C _ τ' σ' hS h j⟩));rw[D.beqs_eq _ _ t];exact gi b.zero L
   ·split at h<;>try (cases h;done)
    rename_i d p m;split at h<;>try (cases h;done)
    rename_i a k;split at h
    ·split at h<;>try (cases h;done)
     rename_i c;refine .inr (.inl ⟨n,d,a,A5 λs I=> ?_,k,J0 b g r _ a σ S C _ τ' σ' hS h j⟩);exact Ux b g (amM.1 c s I)
    ·split at h<;>try (cases h;done)
     rename_i c;simp only[amk]at c;obtain⟨⟨⟨y,z⟩,B⟩,E⟩:=c;refine .inr (.inr (.inl ⟨n,y,d,a,σ,p,hS,A5 λO u=> ?_,A5 λx J=> ?_,A5 (Uy E),k,J0 b g r _ a p _ _ _ τ' σ' siq h j⟩))
     ·exact Ux b g (amM.1 z O u)
     ·exact Ux b g (amM.1 B x J)
def KZ(T:Tys):List Oper->Nat->Nat->Option Res
 |[],_,_=>some []
 |o::r,i,l=>match Qo o.op with
  |some e=>match lk T.zero e,KZ T r (i+1) (l+1) with
   |some a,some A=>some ((i,l,a)::A)
   |_,_=>none
  |none=>KZ T r (i+1) l
def Ni:∀{l:List Oper}{i n:Nat}{A:Res},KZ T l i n=some A->A.map (·.2.1)=List.range' n A.length
 |[],_,_,_,h=>by simp only[KZ,amn]at h;subst h;rfl
 |o::r,i,n,A,h=>by
  simp only[KZ]at h;split at h
  ·split at h<;>try (cases h;done)
   rename_i c b d a;cases h;simp[Ni a,List.range'_succ]
  ·exact Ni h
def Yp(call:sB)(T:Tys)(N:Nat)(ops:Array Oper)(τ:Env)(σ:Sto):Option (Env×Sto):=
 match KZ T ops.toList 0 σ.length with
 |some A=>match eC ops (bq ops.toList []) with
  |true=>xdr call T N ops A (bq ops.toList []) ops.toList 0 τ (σ++A.map λx=>am.cells x.2.2 0 0) [σ++A.map λx=>am.cells x.2.2 0 0] [] []
  |false=>none
 |none=>none
def ac6{i:Nat}(a:TOk T P)(c:uf P call)(e:P.follows .mixedOrders=true){id:Nat}{ops:Array Oper}{τ':Env}{σ':Sto}{Q:AEx->Env->Sto->Prop}
 (h:Yp call T N ops τ σ=some (τ',σ'))(d:Q .normal τ' σ'):AWp i P N (.region id ops true) τ σ Q:=by
 unfold Yp at h;split at h<;>try (cases h;done)
 rename_i A b;split at h<;>try (cases h;done)
 rename_i f;exact Q3 e A rfl f (Ni b) (J0 a c _ _ _ _ _ _ _ _ _ siq h d)
end
end Go.Fw
def apm:=@Nat.beq_refl
namespace Go.Fw
open Go.RowKit
def LWp(i:Nat)(P:Program)(N:Nat)(c:Code)(τ:Env)(σ:Sto)(Q:AEx->Env->Sto->Prop):Prop:=
 ∀(B:bL P)(G:Gh)(w:World)(a:Act),Rel B G σ w->dD G N τ a->∀b k f,
  ∃e d g,jP i B G N Q e d g/\Arrives P (lone (b.at a (.code c:: .inLoop c::k)) f w) b k f e d g
section
variable {i:Nat}{P:Program}{N:Nat}{c:Code}{τ τ' :Env}{σ σ' :Sto}{Q:AEx→Env→Sto→Prop}
def Rq(h:LWp i P N c τ σ Q):AWp i P N (.loop c) τ σ Q:=by
 intro B G w a j l b k g;obtain⟨e,f,n,m,d⟩:=h B G w a j l b k g;exact⟨e,f,n,m,.of_steps (.one step_loop) d⟩
def J1(h:AWp i P N c τ σ (XN (λτ' σ'=>LWp i P N c τ' σ' Q) Q)):LWp i P N c τ σ Q:=by
 intro B G w a A C b k r;obtain⟨e,d,f,q,g⟩:=h B G w a A C b (.inLoop c::k) r;cases e with
 |normal=>
  obtain⟨s,E,D,t,u,v,z⟩:=q;obtain⟨n,m,o,p,j⟩:=z B s f d u v b k r;exact⟨n,m,o,lW t (λ_ _ _ y=>y) n m o p,.of_steps (Steps.trans g (.one step_inLoop)) j⟩
 |exit id=>exact⟨.exit id,d,f,(show jP i B G N Q (.exit id) d f from q),.pass (x:=.inLoop c) rfl (λ_ _=>.inl siq) g⟩
 |goto l=>exact⟨.goto l,d,f,(show jP i B G N Q (.goto l) d f from q),.pass (x:=.inLoop c) rfl (λ_ _=>.inl siq) g⟩
 |ret=>exact⟨.ret,d,f,(show jP i B G N Q .ret d f from q),.pass (x:=.inLoop c) rfl (λ_ _=>.inl siq) g⟩
 |panic F=>exact q.elim
 |outgrown=>exact q.elim
def LWp.mono{d:AEx->Env->Sto->Prop}(h:LWp i P N c τ σ Q)(p:∀e τ σ,Q e τ σ->d e τ σ):LWp i P N c τ σ d:=by
 intro B G w a n o b k j;obtain⟨e,f,g,l,m⟩:=h B G w a n o b k j;exact⟨e,f,g,lW (.refl G) p e f g l,m⟩
def afX(Q:AEx->Env->Sto->Prop):AEx->Env->Sto->Prop
 |.goto _,_,_=>False
 |.normal,τ,σ=>Q .normal τ σ
 |.exit id,τ,σ=>Q (.exit id) τ σ
 |.ret,τ,σ=>Q .ret τ σ
def Rr(h:AWp i P N c τ σ (afX Q)):AWp i P N (.scope c) τ σ Q:=by
 intro B G w a b d;refine wp_scope_straight (apY (h B G w a b d) λe f j x=> ?_);cases e with
 |normal=>exact x
 |exit id=>exact x
 |goto l=>obtain⟨_,_,_,_,_,_,h⟩:=x;exact h.elim
 |ret=>exact x
 |panic g=>exact x
 |outgrown=>exact x
variable{Z Y:Code}
def qg{x:Operand}(a:ev τ x=some (.bool true))(h:AWp i P N Y τ σ Q):AWp i P N (.cond x Y Z) τ σ Q:=Tj a h
def kg{x:Operand}(a:ev τ x=some (.bool false))(h:AWp i P N Z τ σ Q):AWp i P N (.cond x Y Z) τ σ Q:=Tj a h
end
def okF(P:Program)(f:FuncId):Option Func:=
 match P.funcs[f]? with
 |some a=>if a.body.isSome=true/\(a.name== "runtime.NumGoroutine")=false then some a else none
 |none=>none
def fD{P:Program}{f:FuncId}{fn:Func}(this:okF P f=some fn):P.funcs[f]?=some fn/\fX P f:=by
 unfold okF at this;split at this<;>try (cases this;done)
 rename_i d a;split at this<;>try (cases this;done)
 rename_i b;cases this;exact⟨a,fn,a,b.1,b.2⟩
def tidy:Env->List Nat->Env
 |[],_=>[]
 |(t,d)::r,seen=>match seen.any (Nat.beq t) with
  |true=>tidy r seen
  |false=>(t,d)::tidy r (t::seen)
def Nj:∀(τ:Env)(seen:List Nat)(t:Nat)(d:D),get (tidy τ seen) t=some d->seen.any (Nat.beq t)=false/\get τ t=some d
 |[],_,_,_,h=>by simp[tidy,get]at h
 |(i,x)::r,seen,t,d,h=>by
  simp only[tidy]at h;split at h
  ·rename_i f;obtain⟨a,b⟩:=Nj r seen t d h;refine⟨a,?_⟩;have:i≠t:=λe=>by subst e;rw[f]at a;cases a
   simp only[get,this,ani];exact b
  ·rename_i f;simp only[get]at h⊢;by_cases e:i=t
   ·subst e;simp only[ano]at h⊢;exact⟨f,h⟩
   ·simp only[e,ani]at h⊢;obtain⟨a,b⟩:=Nj r (i::seen) t d h;simp only[List.any_cons,apQ]at a;exact⟨a.2,b⟩
def gk(call:sB)(T:Tys)(N:Nat):Nat->Code->Env->Sto->Option (AEx×Env×Sto)
 |0,_,_,_=>none
 |n+1,c,τ,σ=>match c with
  |.skip=>some (.normal,τ,σ)
  |.label _=>some (.normal,τ,σ)
  |.ret=>some (.ret,τ,σ)
  |.exit id=>some (.exit id,τ,σ)
  |.seq a b=>match gk call T N n a τ σ with
   |some (.normal,τ',σ')=>gk call T N n b τ' σ'
   |r=>r
  |.cond x a b=>match ev τ x with
   |some (.bool true)=>gk call T N n a τ σ
   |some (.bool false)=>gk call T N n b τ σ
   |_=>none
  |.block id b=>match gk call T N n b τ σ with
   |some (.exit d,τ',σ')=>match Nat.beq d id with
    |true=>some (.normal,τ',σ')
    |false=>some (.exit d,τ',σ')
   |r=>r
  |.loop b=>match gk call T N n b (tidy τ []) σ with
   |some (.normal,τ',σ')=>gk call T N n (.loop b) τ' σ'
   |r=>r
  |.scope b=>match gk call T N n b τ σ with
   |some (.goto _,_,_)=>none
   |r=>r
  |.region _ ops false=>match Qm call T N ops ops.toList τ σ with
   |some (τ',σ')=>some (.normal,τ',σ')
   |none=>none
  |.region _ ops true=>match Yp call T N ops τ σ with
   |some (τ',σ')=>some (.normal,τ',σ')
   |none=>none
  |_=>none
section
variable {i:Nat}{P:Program}{T:Tys}{call:sB}{N:Nat}
def Uz(u:TOk T P)(w:uf P call)(A:P.follows .mixedOrders=true):∀(n:Nat),
 (∀(c:Code)(τ:Env)(σ:Sto)(e:AEx)(τ':Env)(σ':Sto),gk call T N n c τ σ=some (e,τ',σ')->AWp i P N c τ σ (λk j g=>k=e/\j=τ'/\g=σ'))/\
 (∀(c:Code)(τ:Env)(σ:Sto)(e:AEx)(τ':Env)(σ':Sto),gk call T N n (.loop c) τ σ=some (e,τ',σ')->LWp i P N c τ σ (λk j g=>k=e/\j=τ'/\g=σ'))
 |0=>⟨λ_ _ _ _ _ _ h=>by simp[gk]at h,λ_ _ _ _ _ _ h=>by simp[gk]at h⟩
 |n+1=>by
  obtain⟨f,z⟩:=Uz u w A n;have loop:∀(c:Code)(τ:Env)(σ:Sto)(e:AEx)(τ':Env)(σ':Sto),gk call T N (n+1) (.loop c) τ σ=some (e,τ',σ')->LWp i P N c τ σ (λk j g=>k=e/\j=τ'/\g=σ'):=by
   intro c τ σ e τ' σ' h;simp only[gk]at h;refine J1 (AWp.sub (τ':=tidy τ []) ?_ (λt d B=>(Nj τ [] t d B).2));split at h
   ·rename_i s r q;refine(f c _ σ _ _ _ q).mono ?_;rintro k p o ⟨rfl,rfl,rfl⟩;exact z c _ _ e τ' σ' h
   ·rename_i m;refine(f c _ σ _ _ _ h).mono ?_;rintro k p o ⟨rfl,rfl,rfl⟩;cases k with
    |normal=>exact absurd h (m _ _)
    |exit id=>exact⟨rfl,rfl,rfl⟩
    |goto l=>exact⟨rfl,rfl,rfl⟩
    |ret=>exact⟨rfl,rfl,rfl⟩
  refine⟨λc τ σ e τ' σ' h=> ?_,loop⟩;cases c<;>(try (simp only[gk]at h;cases h;done))
  case skip=>simp only[gk,amn,amJ]at h;exact nJ ⟨h.1▸rfl,h.2.1▸rfl,h.2.2▸rfl⟩
  case label=>simp only[gk,amn,amJ]at h;exact Q2 ⟨h.1▸rfl,h.2.1▸rfl,h.2.2▸rfl⟩
  case ret=>simp only[gk,amn,amJ]at h;exact oy ⟨h.1▸rfl,h.2.1▸rfl,h.2.2▸rfl⟩
  case exit id=>simp only[gk,amn,amJ]at h;exact MA ⟨h.1▸rfl,h.2.1▸rfl,h.2.2▸rfl⟩
  case seq a b=>
   simp only[gk]at h;refine du ?_;split at h
   ·rename_i s r q;refine(f a τ σ _ _ _ q).mono ?_;rintro k p o ⟨rfl,rfl,rfl⟩;exact f b _ _ e τ' σ' h
   ·rename_i m;refine(f a τ σ _ _ _ h).mono ?_;rintro k p o ⟨rfl,rfl,rfl⟩;cases k with
    |normal=>exact absurd h (m _ _)
    |exit id=>exact⟨rfl,rfl,rfl⟩
    |goto l=>exact⟨rfl,rfl,rfl⟩
    |ret=>exact⟨rfl,rfl,rfl⟩
  case cond x a b=>
   simp only[gk]at h;split at h<;>try (cases h;done)
   ·rename_i y;exact qg y (f a τ σ _ _ _ h)
   ·rename_i y;exact kg y (f b τ σ _ _ _ h)
  case block id b=>
   simp only[gk]at h;refine C0 ?_;split at h
   ·rename_i C s r q;refine(f b τ σ _ _ _ q).mono ?_;rintro k p o ⟨rfl,rfl,rfl⟩;simp only[NX];split at h
    ·rename_i v;have v:=bu v;cases h;rw[amE v];exact⟨rfl,rfl,rfl⟩
    ·rename_i v;cases h;rw[am4 (λe=>by subst e;rw[apm]at v;cases v)];exact⟨rfl,rfl,rfl⟩
   ·rename_i m;refine(f b τ σ _ _ _ h).mono ?_;rintro k p o ⟨rfl,rfl,rfl⟩;cases k with
    |normal=>exact⟨rfl,rfl,rfl⟩
    |exit id=>exact absurd h (m _ _ _)
    |goto l=>exact⟨rfl,rfl,rfl⟩
    |ret=>exact⟨rfl,rfl,rfl⟩
  case scope b=>
   simp only[gk]at h;refine Rr ?_;split at h
   ·cases h
   ·rename_i m;refine(f b τ σ _ _ _ h).mono ?_;rintro k p o ⟨rfl,rfl,rfl⟩;cases k with
    |normal=>exact⟨rfl,rfl,rfl⟩
    |exit id=>exact⟨rfl,rfl,rfl⟩
    |goto l=>exact absurd h (m _ _ _)
    |ret=>exact⟨rfl,rfl,rfl⟩
  case loop b=>exact Rq (loop b τ σ e τ' σ' h)
  case region id ops draw=>
   cases draw with
   |false=>
    simp only[gk]at h;split at h<;>try (cases h;done)
    rename_i s r q;cases h;exact bS (Qn u w _ _ _ _ _ q ⟨rfl,rfl,rfl⟩)
   |true=>
    simp only[gk]at h;split at h<;>try (cases h;done)
    rename_i s r q;cases h;exact ac6 u w A q ⟨rfl,rfl,rfl⟩
def ac7(T:Tys)(a:List ResultVar):Option (AEx×Env×Sto)->Option (D×Sto)
 |some (.normal,τ,σ)=>match uu T a τ σ with
  |some d=>some (d,σ)
  |none=>none
 |some (.ret,τ,σ)=>match uu T a τ σ with
  |some d=>some (d,σ)
  |none=>none
 |_=>none
def afY{b:List ResultVar}{r:Option (AEx×Env×Sto)}{d:D}{σ':Sto}(h:ac7 T b r=some (d,σ')):∃e τ,r=some (e,τ,σ')/\(e=.normal∨e=.ret)/\uu T b τ σ'=some d:=by
 unfold ac7 at h;split at h
 ·split at h<;>try (cases h;done)
  rename_i f a;cases h;exact⟨_,_,rfl,.inl rfl,a⟩
 ·split at h<;>try (cases h;done)
  rename_i f a;cases h;exact⟨_,_,rfl,.inr rfl,a⟩
 ·cases h
def xfn(call:sB)(T:Tys)(fn:Func)(ds:List D)(σ:Sto):Option (D×Sto):=
 match fn.body,Nat.ble ds.length fn.ntmps with
 |some c,true=>ac7 T fn.results.toList (gk call T fn.ntmps 100000 c (env0 0 ds) σ)
 |_,_=>none
def UA(a:TOk T P)(g:uf P call)(n:P.follows .mixedOrders=true){f:FuncId}{fn:Func}{ds:List D}{σ σ':Sto}{d:D}(m:P.funcs[f]?=some fn)
 (h:xfn call T fn ds σ=some (d,σ')):ut P f ds σ (λb s=>b=d/\s=σ'):=by
 unfold xfn at h;split at h<;>try (cases h;done)
 rename_i c j o;obtain⟨e,τ,p,l,k⟩:=afY h;refine F7 a m j (amx o) (((Uz a g n _).1 c _ σ e τ σ' p).mono ?_);rintro q τ' s ⟨rfl,rfl,rfl⟩;exact⟨l,d,k,rfl,rfl⟩
def Cv(O:FuncId->Bool)(K:FuncId->List D->Option D)(P:Program)(T:Tys):Nat->sB
 |0=>λ_ _ _=>none
 |n+1=>λf h σ=>match O f with
  |true=>match okF P f with
   |some e=>xfn (Cv O K P T n) T e h σ
   |none=>none
  |false=>match xW σ h with
   |some (a,b)=>match K f a with
    |some d=>some (d,b)
    |none=>match okF P f with
     |some e=>match br a with
      |true=>match xfn (Cv O K P T n) T e a [] with
       |some (d,σ')=>match D3 σ' d with
        |some (g,_)=>match g.pure with
         |true=>some (g,b)
         |false=>none
        |none=>none
       |none=>none
      |false=>xfn (Cv O K P T n) T e a b
     |none=>none
   |none=>none
abbrev aj7(K:FuncId->List D->Option D)(P:Program)(T:Tys):Nat->sB:=Cv (λ_=>false) K P T
def Rs{O:FuncId->Bool}{K:FuncId->List D->Option D}(a:TOk T P)(t:KOk P K)(k:P.follows .mixedOrders=true):∀n,uf P (Cv O K P T n)
 |0=>λ_ _ _ _ _ h=>by simp[Cv]at h
 |n+1=>by
  have q:=Rs (O:=O) a t k n;intro f C σ d σ' h;simp only[Cv]at h;split at h
  ·split at h<;>try (cases h;done)
   rename_i u b;obtain⟨e,g⟩:=fD b;exact⟨g,UA a q k e h⟩
  ·split at h<;>try (cases h;done)
   rename_i m r o;have j:fX P f/\ut P f m r (λl s=>l=d/\s=σ'):=by
    split at h
    ·rename_i l v;cases h;obtain⟨e,g⟩:=t _ _ _ v;exact⟨e,g.acall _⟩
    ·split at h<;>try (cases h;done)
     rename_i u b;obtain⟨e,g⟩:=fD b;refine⟨g,?_⟩;split at h
     ·rename_i w;split at h<;>try (cases h;done)
      rename_i B z x;split at h<;>try (cases h;done)
      rename_i d2 A y;split at h<;>try (cases h;done)
      rename_i p;cases h;have:=Cu (P:=P) (f:=f) (d:=d) w ((UA a q k e x).mono (by rintro l s ⟨rfl,rfl⟩;exact⟨_,y,p⟩));exact this.acall _
     ·exact UA a q k e h
   exact⟨j.1,aaA o j.2⟩
def Ei{K:FuncId->List D->Option D}(a:TOk T P)(g:KOk P K)(j:P.follows .mixedOrders=true){n:Nat}{f:FuncId}{ds:List D}{d:D}
 (k:br ds=true)(b:d.pure=true)(l:D3 [] d=some (d,[]))(h:aj7 K P T n f ds []=some (d,[])):cy P f ds d:=by
 obtain⟨o,e⟩:=Rs a g j n _ _ _ _ _ h;exact Cu k (e.mono (by rintro m s ⟨rfl,rfl⟩;exact⟨_,l,b⟩))
end
end Go.Fw
def ap8:=@List.pairwise_iff_getElem
def ap9:=@Nat.lt_trichotomy
namespace Go.Fw
open Go.RowKit
def mv(ks:List Nat):D->D
 |.ptr j u o=>.ptr (ks.getD j 0) u o
 |.sl j u o n a f=>.sl (ks.getD j 0) u o n a f
 |.map j=>.map (ks.getD j 0)
 |d=>d
def okv(n:Nat):D->Bool
 |.ptr j _ _=>Nat.blt j n
 |.sl j _ _ _ _ _=>Nat.blt j n
 |.map j=>Nat.blt j n
 |d=>d.pure
def mvO(ks:List Nat):am->am
 |.cells a f v=>.cells (a.map (mv ks)) f v
 |b=>b
def okO(n:Nat):am->Bool
 |.cells c _ _=>c.all (okv n)
 |.map a b=>br a&&br b
 |.miter a b _ _=>br a&&br b
 |_=>true
def Gh.sel(G:Gh)(ks:List Nat):Gh:={G with blk:=λj u=>match ks[j]? with
 |some l=>G.blk l u
 |none=>none}
def PJ{G:Gh}{ks:List Nat}{j u b:Nat}(a:j<ks.length)(h:G.blk (ks.getD j 0) u=some b):(G.sel ks).blk j u=some b:=by
 have e:ks[j]?=some (ks.getD j 0):=by rw[amH,aml a];rfl
 simp only[Gh.sel,e];exact h
def ZS{G:Gh}{ks:List Nat}{d:D}{v:Value}(a:okv ks.length d=true)(h:Rep G (mv ks d) v):Rep (G.sel ks) d v:=by
 have pure:d.pure=true->mv ks d=d->Rep (G.sel ks) d v:=λk e=>by
  rw[e]at h;exact Rep.pure (G:=G) (G':=G.sel ks) (λ_ _ _ x=>x) (λ_ _ x=>x) d v k h
 cases d
 case ptr j u o=>
  have a:j<ks.length:=amx a;simp only[mv,Rep]at h⊢;obtain⟨b,c,e⟩:=h;exact⟨b,PJ a c,e⟩
 case sl j u o n sz f=>
  have a:j<ks.length:=amx a;simp only[mv,Rep]at h⊢;rcases h with⟨b,g,i,c,e⟩|h
  ·exact .inl ⟨b,g,i,PJ a c,e⟩
  ·exact .inr h
 case map j=>
  have a:j<ks.length:=amx a;simp only[mv,Rep]at h⊢;obtain⟨b,c,e⟩:=h;exact⟨b,PJ a c,e⟩
 all_goals exact pure a rfl
def Ws{G:Gh}{ks:List Nat}:∀{ds:List D}{vs:List Value},ds.all (okv ks.length)=true->af G (ds.map (mv ks)) vs->af (G.sel ks) ds vs
 |[],_,_,h=>by simpa only[anG,af] using h
 |d::ds,_,a,h=>by
  simp only[anJ,amk]at a;simp only[amz,af]at h⊢;obtain⟨v,r,e,b,c⟩:=h;exact⟨v,r,e,ZS a.1 b,Ws a.2 c⟩
def aft{G:Gh}{ks:List Nat}{w:World}{b:Nat}{ob:am}(d:okO ks.length ob=true)(h:pl G w b (mvO ks ob)):pl (G.sel ks) w b ob:=by
 cases ob with
 |cells z f v=>
  obtain⟨y,n,e,g,u,t,i,k⟩:=h;exact⟨y,n,e,g,u,t,i,Ws d k⟩
 |map a c=>
  simp only[okO,amk]at d;obtain⟨j,e,g,i⟩:=h;exact⟨j,e,af.pure (G:=G) (G':=G.sel ks) (λ_ _ _ x=>x) (λ_ _ x=>x) _ _ d.1 g,af.pure (G:=G) (G':=G.sel ks) (λ_ _ _ x=>x) (λ_ _ x=>x) _ _ d.2 i⟩
 |siter s p=>exact h
 |miter a c r l=>
  simp only[okO,amk]at d;obtain⟨m,j,seen,e,g,i,k,o,q⟩:=h;exact⟨m,j,seen,e,g,af.pure (G:=G) (G':=G.sel ks) (λ_ _ _ x=>x) (λ_ _ x=>x) _ _ d.1 i,af.pure (G:=G) (G':=G.sel ks) (λ_ _ _ x=>x) (λ_ _ x=>x) _ _ d.2 k,o,q⟩
 |dead=>exact h
 |gone=>exact h
def EB{ks:List Nat}(ob:am):(mvO ks ob).ver=ob.ver/\(mvO ks ob).frz=ob.frz/\(mvO ks ob).len=ob.len:=by
 cases ob<;>simp[mvO,am.ver,am.frz,am.len]
def Rel.sel{P:Program}{B:bL P}{G:Gh}{σ σ':Sto}{w:World}(i:Rel B G σ w){ks:List Nat}(t:ks.Nodup)(s:σ'.length=ks.length)
 (o:∀(j l:Nat)(ob:am),ks[j]?=some l->σ'[j]?=some ob->σ[l]?=some (mvO ks ob)/\okO ks.length ob=true):Rel B (G.sel ks) σ' w:=by
 have q:∀{j u b:Nat},(G.sel ks).blk j u=some b->∃l,ks[j]?=some l/\G.blk l u=some b:=by
  intro j u b h;simp only[Gh.sel]at h;split at h
  ·rename_i l d;exact⟨l,d,h⟩
  ·cases h
 have r:∀{j:Nat}{ob:am},σ'[j]?=some ob->∃l,ks[j]?=some l:=by
  intro j ob h;have:=ai h;exact⟨ks[j]'(by omega),aml omq⟩
 refine⟨i.below,i.imm,i.mimm,i.siz,λj u b h=> ?_,λj u x A b h v=> ?_,λj ob b n h=> ?_,λj z f u b n h=> ?_,λj a c b n h=> ?_,λj ob n=> ?_,λj ob n=> ?_,i.bimm,i.bmimm⟩
 ·obtain⟨l,d,h⟩:=q h;exact⟨by rw[s];exact ai d,(i.blk _ _ _ h).2⟩
 ·obtain⟨l,d,h⟩:=q h;obtain⟨y,k,v⟩:=q v;have e:=i.inj _ _ _ _ _ h v;subst e;have g:=ai d;have p:=ai k;rw[aml g]at d;rw[aml p]at k;have e:=(anm d).trans (anm k).symm;rcases ap9 j x with m|m|m
  ·exact absurd e (ap8.1 t j x g p m)
  ·exact m
  ·exact absurd e.symm (ap8.1 t x j p g m)
 ·obtain⟨l,d,h⟩:=q h;obtain⟨g,p⟩:=o j l ob d n;exact aft p (i.obj l _ b g (by rw[(EB ob).1];exact h))
 ·obtain⟨l,d,h⟩:=q h;obtain⟨g,p⟩:=o j l _ d n;exact i.own l _ f u b g h
 ·obtain⟨l,d,h⟩:=q h;obtain⟨g,p⟩:=o j l _ d n;exact i.ownm l _ _ b g h
 ·obtain⟨l,d⟩:=r n;obtain⟨g,p⟩:=o j l ob d n;have m:=i.ver l _ g;rw[(EB ob).1,(EB ob).2.2]at m;refine⟨m.1,λu b h=> ?_⟩;obtain⟨y,k,h⟩:=q h;rw[d]at k;cases k;exact m.2 u b h
 ·obtain⟨l,d⟩:=r n;obtain⟨g,p⟩:=o j l ob d n;have m:=i.frzle l _ g;rw[(EB ob).2.1,(EB ob).2.2]at m;exact m
def dD.sel{G:Gh}{N:Nat}{τ τ':Env}{a:Act}(b:dD G N τ a){ks:List Nat}(h:∀t d,get τ' t=some d->get τ t=some (mv ks d)/\okv ks.length d=true):dD (G.sel ks) N τ' a:=
 ⟨b.size,b.defers,λt d c=>ZS (h t d c).2 (b.slot t _ (h t d c).1)⟩
def AWp.gc{i:Nat}{P:Program}{N:Nat}{c:Code}{τ τ':Env}{σ σ':Sto}{Q:AEx->Env->Sto->Prop}(ks:List Nat)(p:∀l,l<i->ks[l]?=some l)(g:ks.Nodup)(f:σ'.length=ks.length)
 (k:∀(j l:Nat)(ob:am),ks[j]?=some l->σ'[j]?=some ob->σ[l]?=some (mvO ks ob)/\okO ks.length ob=true)
 (m:∀t d,get τ' t=some d->get τ t=some (mv ks d)/\okv ks.length d=true)(h:AWp i P N c τ' σ' Q):AWp i P N c τ σ Q:=by
 intro B G w a n o;refine apY (h B (G.sel ks) w a (n.sel g f k) (o.sel m)) λe a w x=>lW ?_ (λ_ _ _ y=>y) e a w x;exact⟨λ_ _ _ x=>x,λ_ _ x=>x,λ_ _ x=>x,λl u b q x=>by simp only[Gh.sel,p l q];exact x⟩
end Go.Fw
def an2:=@Bool.and_self
def aoP:=@List.all_append
def aoT:=@List.drop_succ_cons
def apc:=@List.drop_length_add_append
def ap1:=@List.take_length_add_append
namespace Go.Fw
open Go.RowKit
structure Enc(α:Type) where
 sz:Nat
 cells:α->List D
 flat:List α->List D
 fnil:flat []=[]
 fcons:∀a r,flat (a::r)=cells a++flat r
 len:∀a,(cells a).length=sz
 pure:∀a,br (cells a)=true
 cell:∀a,(cells a).all D.isCell=true
def ZX{α:Type}(cells:α->List D):List α->List D
 |[]=>[]
 |a::r=>cells a++ZX cells r
def mkE{α:Type}(sz:Nat)(cells:α->List D)(len:∀a,(cells a).length=sz)(pure:∀a,br (cells a)=true)(cell:∀a,(cells a).all D.isCell=true):Enc α:=
 ⟨sz,cells,ZX cells,rfl,λ_ _=>rfl,len,pure,cell⟩
def bN{α:Type}(E:Enc α)(xs:List α):List D:=E.flat xs
section
variable {α:Type}
def gU(E:Enc α):bN E []=[]:=E.fnil
def gz(E:Enc α)(a:α)(r:List α):bN E (a::r)=E.cells a++bN E r:=E.fcons a r
def fe(E:Enc α):∀xs:List α,(bN E xs).length=xs.length*E.sz
 |[]=>by simp[gU]
 |a::r=>by simp[gz,E.len,fe E r,aoo,apC]
def Cf:∀a b:List D,br (a++b)=(br a&&br b)
 |[],b=>by simp[br]
 |d::a,b=>by simp[br,Cf a b,Bool.and_assoc]
def flat_pure(E:Enc α):∀xs:List α,br (bN E xs)=true
 |[]=>by rw[gU];rfl
 |a::r=>by simp[gz,Cf,E.pure,flat_pure E r]
def DC(E:Enc α):∀xs:List α,(bN E xs).all D.isCell=true
 |[]=>by rw[gU];rfl
 |a::r=>by simp only[gz,aoP,E.cell,DC E r,an2]
def Cg(E:Enc α):∀xs b:List α,bN E (xs++b)=bN E xs++bN E b
 |[],b=>by simp[gU]
 |a::r,b=>by simp[gz,Cg E r b]
def Ou(E:Enc α):∀(n:Nat)(xs:List α),(bN E xs).take (n*E.sz)=bN E (xs.take n)
 |0,xs=>by simp[gU]
 |n+1,[]=>by simp[gU]
 |n+1,a::r=>by
  have e:(n+1)*E.sz=(E.cells a).length+n*E.sz:=by rw[E.len,aoo,Nat.one_mul,apC]
  simp only[gz,aol];rw[e,ap1,Ou E n r]
def GU(E:Enc α):∀(n:Nat)(xs:List α),(bN E xs).drop (n*E.sz)=bN E (xs.drop n)
 |0,xs=>by simp
 |n+1,[]=>by simp[gU]
 |n+1,a::r=>by
  have e:(n+1)*E.sz=(E.cells a).length+n*E.sz:=by rw[E.len,aoo,Nat.one_mul,apC]
  simp only[gz,aoT];rw[e,apc,GU E n r]
def Q6{E:Enc α}{xs:List α}{i:Nat}{a:α}(h:xs[i]?=some a):((bN E xs).drop (i*E.sz)).take E.sz=E.cells a:=by
 have b:=ai h;rw[GU,amP b];rw[aml b]at h;cases h;rw[gz];have e:E.sz=(E.cells xs[i]).length:=(E.len _).symm;rw[e,List.take_left]
def ix(xs:List α)(i:Int):Option α:=if 0<=i then xs[i.toNat]? else none
def T0{xs:List α}{i:Int}{a:α}(h:ix xs i=some a):0<=i/\i<xs.length/\xs[i.toNat]?=some a:=by
 unfold ix at h;split at h<;>try (cases h;done)
 rename_i b;have:=ai h;exact⟨b,omq,h⟩
variable {T:Tys}{τ:Env}{σ:Sto}{E:Enc α}{xs:List α}
end
section
variable {P:Program}{T:Tys}{N:Nat}{all:Array Oper}{o:Oper}{r:List Oper}{τ τ' :Env}{σ σ' :Sto}{d:D}{Kt:Env→Sto→Prop}
def goA(tok:TOk T P)(a:bA all τ o=some true)(b:aop T τ σ o.op=some (d,σ'))(c:eR N o.dst d τ=some τ')(h:fu P N all r τ' σ' Kt):fu P N all (o::r) τ σ Kt:=
 .inl ⟨a,(aT tok b).mono (by rintro e s ⟨rfl,rfl⟩;exact⟨τ',c,h⟩)⟩
end
def ami(k:IntKind)(n:Int):Bool:=decide (k.wrap n=n)
def ak{α c:Type}{x:Option α}{f:α->Option c}{b:c}(h:x.bind f=some b):∃a,x=some a/\f a=some b:=by
 cases x with
 |none=>cases h
 |some a=>exact⟨a,rfl,h⟩
end Go.Fw
