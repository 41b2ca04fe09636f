/- A framework for proofs about Go programs in this model: part E. Everything is proved; no condition is added. -/
import Derived.Test.YtlicgchfbhkelaaGreatDoorFwD
set_option linter.unusedVariables false
set_option linter.unusedSimpArgs false
set_option linter.defProp false
namespace Go.Fw
noncomputable section
open Go.RowKit
section
variable {α:Type}{P:Program}{T:Tys}{N:Nat}{o:Oper}{S:ae}{σ:Sto}{τ:ax}{τ' :Env}{K:SV→ae→Option α}{r:α}
def Xy(S:ae)(a:TC)(v:SV):Option (List a.Den):=match v with
 |.own l g=>match S[l]? with
  |some (.arr t c _ b)=>match decEq t a with
   |isTrue h=>match Nat.beq g b with
    |true=>some (h▸c)
    |false=>none
   |isFalse _=>none
  |_=>none
 |.str s=>match a with
  |.byte=>some s
  |_=>none
 |v=>iY a v
variable{Z:TC}
def VK(y:StR S σ){v:SV}{a:List Z.Den}{d:D}(h:Xy S Z v=some a)(b:VR S σ v d):∀s:Sto,(∀l∈fpV v,s[l]?=σ[l]?)->oA s Z.sz d=some (Z.flat a,a.length):=by
 have j:∀a:List Z.Den,(Z.flat a).length=a.length*Z.sz:=λa=>eK _ _;have c:iY Z v=some a->∀s:Sto,oA s Z.sz d=some (Z.flat a,a.length):=by
  intro h s;obtain⟨f,rfl⟩:=np h b;simp only[oA,j,al1]
 unfold Xy at h;split at h
 ·split at h<;>try (cases h;done)
  rename_i l g _ t z w x k;split at h<;>try (cases h;done)
  rename_i e _;subst e;split at h<;>try (cases h;done)
  rename_i i;have i:=bq i;subst i;cases h;simp only[VR]at b;obtain⟨q,u,n,rfl⟩:=(b.2 _ _ _ _ k).2 rfl;intro s p;have:=p l (by simp[fpV]);simp only[oA,this,n];rw[ali ⟨trivial,trivial,by rw[j];omega⟩];simp only[alR];rw[alw (by rw[j];exact ak7 _)]
 ·split at h<;>try (cases h;done)
  have h:=alX h;subst h;simp only[VR]at b;subst b;rename_i m _;intro s _;show oA s 1 (.str m)=some (bH mA m,m.length);rw[GW];simp only[oA,al1]
 ·exact λs _=>c h s
def VL{d:Type}{by':Nat}{xs a b:List d}(h:app by' xs a=some b):((xs.length+a.length)*by'<=ba/\xs.length+a.length<=ba)/\b=xs++a:=by
 unfold app at h;split at h<;>try (cases h;done)
 rename_i c;cases h;exact⟨c,rfl⟩
def acx{xs a b:List Z.Den}{s:Sto}{l fr u by':Nat}{x:D}(f:s[l]?=some (.cells (Z.flat xs) fr u))(j:oA s Z.sz x=some (Z.flat a,a.length))(h:app by' xs a=some b):
 IY s Z.sz by' (.sl l u 0 xs.length Z.sz false) x=some (.sl l (if a.length=0 then u else(Z.flat b).length) 0 b.length Z.sz false,s.set l (.cells (Z.flat b) fr (if a.length=0 then u else(Z.flat b).length))):=by
 obtain⟨g,rfl⟩:=VL h;have i:(Z.flat a).all D.isCell=true:=CE _ _;have c:(Z.flat xs).length=xs.length*Z.sz:=eK _ _;simp only[IY,j,i,al1,f];rw[ali ⟨trivial,trivial,omq⟩];by_cases d:a.length=0
 ·have k:a=[]:=alF d;subst k;simp only[alq,al1,alm];rw[abF f]
 ·rw[alJ d,ali g];have e:Z.flat (xs++a)=Z.flat xs++Z.flat a:=Bi _ _ _;simp only[alU,alV,e,alJ d];rw[ali ⟨trivial,c.symm⟩];simp only[ak2]
def Pn(by' sz:Nat)(S:ae)(l g:Nat)(x:SV)(K:SV->ae->Option α):Option α:=match S[l]? with
 |some (.arr b d c a)=>cond (Nat.beq g a&&Nat.beq sz b.sz) ((Xy S b x).bind λe=>(app by' d e).bind λf=>K (.own l (a+1)) (S.set l (.arr b f c (a+1)))) none
 |_=>none
def wZ(by':Nat)(S:ae)(a:TC)(xs:List a.Den)(x:SV)(K:SV->ae->Option α):Option α:=
 (Xy S a x).bind λb=>(app by' xs b).bind λc=>K (.sl a c false) (S++[.junk])
def Xz(T:Tys)(H:Tr TC)(S:ae)(t b:TypeId)(v x:SV)(K:SV->ae->Option α):Option α:=
 (lk2 T.app t b).bind λp=>match v with
   |.own l g=>Pn p.2 p.1 S l g x K
   |.sl a c f=>cond (f&&Nat.beq p.1 a.sz) (wZ p.2 S a c x K) none
   |.nils=>(lk H t).bind λa=>cond (Nat.beq p.1 a.sz) (wZ p.2 S a [] x K) none
   |_=>none
def XA{xs c C:List Z.Den}{s:Sto}{by':Nat}{x:D}(tok:TOk T P){t i:TypeId}{a b:Operand}(L:o.op=.call {callee:=.builtin .append,args:= #[a,b],argTypes:= #[t,i]})(E:lk2 T.app t i=some (Z.sz,by'))
 (F:ev τ' a=some (.list (Z.flat xs) xs.length true))(H:ev τ' b=some x)(M:oA s Z.sz x=some (Z.flat c,c.length))(h:app by' xs c=some C):AOp P N o τ' s λO z=>O=.list (Z.flat C) C.length false/\z=s++[.gone]:=by
 obtain⟨V,rfl⟩:=VL h;have I:(Z.flat c).all D.isCell=true:=CE _ _;have f:(Z.flat xs).length=xs.length*Z.sz:=eK _ _;have g:(Z.flat c).length=c.length*Z.sz:=eK _ _;have e:Z.flat (xs++c)=Z.flat xs++Z.flat c:=Bi _ _ _;by_cases J:c.length=0
 ·have W:c=[]:=alF J;subst W;have n:aop T τ' s o.op=some (.list (Z.flat xs) xs.length true,s):=by
   rw[L];show nS T τ' s [a,b] [t,i]=_;simp only[nS,E,F,H,IY,M,I,al1,f,alq]
  intro B G w k l m next Q p
  refine aO tok n B G w k l m next Q ?_
  rintro v A j d z q u y ⟨rfl,rfl⟩;exact p v A j _ _ q (Rel.oneMore (ob:=.cells [] 0 0) rfl u.newObj) (by rw[alm];exact aB.list _ _ y) ⟨rfl,rfl⟩
 ·have n:aop T τ' s o.op=some (.sl s.length 0 0 (xs.length+c.length) Z.sz false,s++[.cells (Z.flat xs++Z.flat c) 0 0]):=by
   rw[L];show nS T τ' s [a,b] [t,i]=_;simp only[nS,E,F,H,IY,M,I,al1,f];rw[alJ J,ali ⟨trivial,V⟩]
  have X:H8 (s++[.cells (Z.flat xs++Z.flat c) 0 0]) (.sl s.length 0 0 (xs.length+c.length) Z.sz false)=some (.list (Z.flat (xs++c)) (xs++c).length false,s++[.cells (Z.flat (xs++c)) (Z.flat (xs++c)).length 0]):=by
   have R:(s++[aq.cells (Z.flat xs++Z.flat c) 0 0])[s.length]?=some (.cells (Z.flat xs++Z.flat c) 0 0):=by simp
   simp only[H8,R];rw[ali ⟨trivial,by simp only[ak2,f,g,am3];omega⟩];have U:((Z.flat xs++Z.flat c).drop 0).take ((xs.length+c.length)*Z.sz)=Z.flat (xs++c):=by
    rw[e,alR,alw (by simp only[ak2,f,g,am3];omega)]
   rw[U];simp[e]
  intro B G w k l m next Q p
  refine(aO tok n).frz X B G w k l m next Q ?_
  rintro v A j d z q u y ⟨rfl,rfl⟩;exact p v A j _ _ q (Rel.oneMore rfl u) y ⟨rfl,rfl⟩
def Ll(tok:TOk T P)(d:StR S σ){t k:TypeId}{a b:Operand}{x:SV}{xs:List Z.Den}{by':Nat}{i:D}{j:List Nat}(v:o.op=.call {callee:=.builtin .append,args:= #[a,b],argTypes:= #[t,k]})
 (n:lk2 T.app t k=some (Z.sz,by'))(p:ev τ' a=some (.list (Z.flat xs) xs.length true))(q:ev τ' b=some i)(y:VR S σ x i)(e:∀l∈fpV x,l∈j)(h:wZ by' S Z xs x K=some r):WOk P N o S σ τ' j K r:=by
 unfold wZ at h;obtain⟨z,f,h⟩:=am h;obtain⟨m,g,h⟩:=am h;have c:=VK d f y;refine⟨_,_,.list (Z.flat m) m.length false,.push .gone,h,λs w _=> ?_,by simp only[VR];exact⟨false,rfl,λh=>by cases h⟩,d.push rfl,aK.push d.len _ _,trivial⟩;exact XA tok v n p q (c s λl u=>w l (e l u)) g
def VM(tok:TOk T P)(q:StR S σ)(Y:ER S σ τ τ'){H:Tr TC}{t X:TypeId}{a b:Operand}{v x:SV}(Q:o.op=.call {callee:=.builtin .append,args:= #[a,b],argTypes:= #[t,X]})(ha:sev τ a=some v)(hb:sev τ b=some x)
 (h:Xz T H S t X v x K=some r):WOk P N o S σ τ' (fpV v++fpV x) K r:=by
 unfold Xz at h;obtain⟨p,R,n⟩:=am h;clear h;obtain⟨W,m⟩:=p;obtain⟨dv,w,c⟩:=eZ Y ha;obtain⟨dx,y,z⟩:=eZ Y hb;cases v<;>(try (simp at n;done))
 case own l g=>
  have i:Pn m W S l g x K=some r:=n;clear n;unfold Pn at i;split at i<;>try (cases i;done)
  rename_i tc xs fz g' e;rcases aR i with⟨k,d⟩|⟨_,d⟩<;>try (cases d;done)
  clear i;simp only[akY]at k;have hg:=bq k.1;have I:=bq k.2;subst hg I;obtain⟨ys,U,A⟩:=am d;obtain⟨B,V,h5⟩:=am A;clear d A;have G:=VK q U z;simp only[VR]at c;obtain⟨fr,u,k4,rfl⟩:=(c.2 _ _ _ _ e).2 rfl;obtain⟨a',C,e9,u',J,M⟩:=q.obj _ _ e;rw[k4]at C;cases C;cases J;let u2:=if ys.length=0 then u else(tc.flat B).length
  have F:aK S σ (S.set l (.arr tc B fz (g+1))) (σ.set l (.cells (tc.flat B) fr u2)):=aK.setNext q e;have O:=aj e;have E:=q.lt e;refine⟨_,_,.sl l u2 0 B.length tc.sz false,.set l (.cells (tc.flat B) fr u2),h5,λs Z _=> ?_,?_,q.set e F ⟨fr,u2,rfl,M⟩,F,?_⟩
  ·have e1:=Z l (by simp[fpV]);refine aO tok ?_;rw[Q];show nS T τ' s [a,b] [t,X]=_;simp only[nS,R,w,y];exact acx (by rw[e1,k4]) (G s λj hj=>Z j (by simp[hj])) V
  ·simp only[VR];exact .mk (xs:=B) (fz:=fz) (fr:=fr) (u:=u2) (by rw[gq O,ali rfl]) (by simp only[Upd.ap];rw[gq E,ali rfl]) rfl
  ·simp[Upd.inFp,fpV]
 case sl tc xs f=>
  have i:cond (f&&Nat.beq W tc.sz) (wZ m S tc xs x K) none=some r:=n;clear n;rcases aR i with⟨k,d⟩|⟨_,d⟩<;>try (cases d;done)
  simp only[akY]at k;have I:=bq k.2;subst I;simp only[VR]at c;obtain⟨f',rfl,L⟩:=c;have L:=L k.1;subst L;exact Ll tok q Q R w y z (λl e=>by simp[e]) d
 case nils=>
  have i:((lk H t).bind λtc=>cond (Nat.beq W tc.sz) (wZ m S tc [] x K) none)=some r:=n;clear n;obtain⟨tc,_,d⟩:=am i;rcases aR d with⟨k,A⟩|⟨_,A⟩<;>try (cases A;done)
  have I:=bq k;subst I;simp only[VR]at c;subst c;have e0:D.list (tc.flat []) ([]:List tc.Den).length true=.list [] 0 true:=by
   show D.list (bH _ []) _ _=_;rw[gH];rfl
  exact Ll tok q Q R (by rw[e0];exact w) y z (λl e=>by simp[e]) A
def Qr(a:TC)(x:a.Den):∀n,ie (a.cells x) n=a.flat (List.replicate n x)
 |0=>by simp only[ie,List.replicate_zero];exact(gH _).symm
 |n+1=>by
  simp only[ie,List.replicate_succ,Qr a x n];exact(gn _ _ _).symm
def Qs{z cs:List D}(h:bp z cs):∀n,bp (ie z n) (ie cs n)
 |0=>rfl
 |n+1=>bp.append h (Qs h n)
def aB.slFull{l u o n sz:Nat}{f:Bool}:aB (.sl l u o n sz f) (.sl l u o n sz false):=by
 intro G v h;simp only[Rep]at h⊢;rcases h with⟨b,a,c,d,e,g,i,_,j⟩|h
 ·exact .inl ⟨b,a,c,d,e,g,i,by simp,j⟩
 ·exact .inr h
def XC(T:Tys)(H:Tr TC)(S:ae)(t:TypeId)(n m:Int)(K:SV->ae->Option α):Option α:=
 (lk T.bs t).bind λc=>(lk T.msl t).bind λmk=>(lk H t).bind λb=>cond (Nat.beq c.2 b.sz&&decide (0<=n/\n<=m/\m<=ba/\m.toNat*mk.2<=ba))
   (b.take (ky c.1) λx a=>match a with
     |[]=>K (.own S.length 0) (S++[.arr b (List.replicate n.toNat x) false 0])
     |_=>none) none
def acy(tok:TOk T P)(f:StR S σ)(C:ER S σ τ τ'){H:Tr TC}{t:TypeId}{a b:Operand}{n m:Int}{W X:IntKind}(M:o.op=.makeSlice t a b)(J:sev τ a=some (.int W n))(L:sev τ b=some (.int X m))
 (h:XC T H S t n m K=some r):WOk P N o S σ τ' [] K r:=by
 unfold XC at h;obtain⟨G,l,y⟩:=am h;obtain⟨mk,v,A⟩:=am y;obtain⟨c,R,B⟩:=am A;clear h y A;rcases aR B with⟨g,j⟩|⟨_,j⟩<;>try (cases j;done)
 clear B;simp only[akY,alL]at g;obtain⟨i,g⟩:=g;have i:=bq i;obtain⟨z,sz⟩:=G;simp only at i;subst i;obtain⟨x,F,Z,d2,k,D,U,E⟩:=TC.take_ok c _ _ _ _ j (jl S σ z);split at k<;>try (cases k;done)
 simp only[VRs]at E;subst E;rw[alm]at D;subst D;obtain⟨da,p,d⟩:=eZ C J;obtain⟨db,q,e⟩:=eZ C L;simp only[VR]at d e;subst d e;have V:=Qr c x n.toNat;have O:=aK.push f.len (.arr c (List.replicate n.toNat x) false 0) (.cells (c.flat (List.replicate n.toNat x)) 0 0);refine⟨_,_,.sl σ.length 0 0 (List.replicate n.toNat x).length c.sz false,.push (.cells (c.flat (List.replicate n.toNat x)) 0 0),k,λs _ Q=> ?_,?_,f.push ⟨0,0,rfl,λ_=>rfl⟩,O,trivial⟩
 ·have w:AOp P N o τ' s λI Y=>I=.sl σ.length 0 0 n.toNat c.sz (decide (n=m))/\Y=s++[.cells (ie z n.toNat) 0 0]:=by
   refine aO tok ?_;rw[M];simp only[aop,E3,p,q,Rl,l,v,kw];rw[ali g,Q]
  rw[<-V];simp only[List.length_replicate];exact(w.weak aB.slFull).weakPush (Qs U _)
 ·simp only[VR];exact .mk (xs:=List.replicate n.toNat x) (fz:=false) (fr:=0) (u:=0) siq (by simp[Upd.ap,f.len]) (by simp[f.len])
end
end
end Go.Fw
namespace Go.Fw
noncomputable section
open Go.RowKit
def Gho(P:Program)(σ σ':Sto)(d b:D):Prop:=∀(B:bE P)(G:Gh)(w:World)(v:Value),Rel B G σ w->Rep G d v->∃a,G.Le a/\Rel B a σ' w/\Rep a b v
def qW(P:Program)(σ σ':Sto)(d b:List D):Prop:=∀(B:bE P)(G:Gh)(w:World)(v:List Value),Rel B G σ w->af G d v->∃a,G.Le a/\Rel B a σ' w/\af a b v
def Gho.refl{P:Program}(σ:Sto)(d:D):Gho P σ σ d d:=λ_ G _ _ a b=>⟨G,.refl G,a,b⟩
def Gho.weak{P:Program}{σ:Sto}{d e:D}(h:aB d e):Gho P σ σ d e:=λ_ G _ _ a b=>⟨G,.refl G,a,h _ _ b⟩
def Gho.trans{P:Program}{σ a σ2:Sto}{d e f:D}(h:Gho P σ a d e)(k:Gho P a σ2 e f):Gho P σ σ2 d f:=λB G w v j l=>by
 obtain⟨b,m,g,p⟩:=h B G w v j l;obtain⟨c,n,i,q⟩:=k B b w v g p;exact⟨c,m.trans n,i,q⟩
def AOp.ghost{P:Program}{N:Nat}{o:Oper}{τ:Env}{σ:Sto}{K e:D->Sto->Prop}(h:AOp P N o τ σ K)(u:∀d s,K d s->∃b c,e b c/\Gho P s c d b):AOp P N o τ σ e:=by
 intro B G w a q t next Q x
 refine h B G w a q t next Q ?_
 intro v f g d s j k l m;obtain⟨b,c,n,p⟩:=u d s m;obtain⟨i,y,z,A⟩:=p B g f v k l;exact x v f i b c (j.trans y) z A n
def Post{α:Type}(S:ae)(σ:Sto)(K:SV->ae->Option α)(r:α):D->Sto->Prop:=λd s=>∃v a,K v a=some r/\VR a s v d/\StR a s/\aK S σ a s
def GOk{α:Type}(P:Program)(N:Nat)(o:Oper)(S:ae)(σ:Sto)(τ':Env)(K:SV->ae->Option α)(r:α):Prop:=AOp P N o τ' σ (Post S σ K r)
section
variable {α:Type}{P:Program}{T:Tys}{N:Nat}{o:Oper}{S:ae}{σ:Sto}{τ:ax}{τ' :Env}{K:SV→ae→Option α}{r:α}
variable{Z:List Nat}
def ROk.g(tok:TOk T P)(f:StR S σ)(h:ROk T S σ τ' o.op Z (λv=>K v S) r):GOk P N o S σ τ' K r:=by
 obtain⟨v,i,d,a,b,c,e⟩:=h;refine((aO tok (e σ λ_ _=>rfl)).weak c).mono ?_;rintro g s ⟨rfl,rfl⟩;exact⟨v,S,a,b,f,.refl _ _⟩
def WOk.g(h:WOk P N o S σ τ' Z K r):GOk P N o S σ τ' K r:=by
 obtain⟨v,a,d,j,b,c,e,f,g,_⟩:=h;refine(c σ (λ_ _=>rfl) rfl).mono ?_;rintro i s ⟨rfl,rfl⟩;exact⟨v,a,b,e,f,g⟩
inductive OH where
 |val(tc:TC)|cells(l:List (Nat×TC))|build(tc:TC)|frz|res|frzv|agg(l:List (Nat×TC))
 deriving Inhabited
def Gs(i:Nat):List (Nat×TC)->ae->(ae->Option α)->Option α
 |[],S,K=>K S
 |(o,c)::r,S,K=>match S[i]? with
  |some (.cells a b)=>match a[o]? with
   |some .nils=>Gs i r ((S.set i (.cells (a.set o (.own S.length 0)) b))++[.arr c [] false 0]) K
   |_=>none
  |_=>none
def VRs.set{S:ae}{σ:Sto}{v:SV}{d:D}(h:VR S σ v d):∀{cs:List SV}{ds:List D}{o:Nat},VRs S σ cs ds->VRs S σ (cs.set o v) (ds.set o d)
 |[],_,_,a=>by simp only[VRs]at a;subst a;simp[VRs]
 |c::cs,_,0,a=>by
  simp only[VRs]at a;obtain⟨e,b,rfl,g,f⟩:=a;simp only[am7,VRs];exact⟨d,b,rfl,h,f⟩
 |c::cs,_,o+1,a=>by
  simp only[VRs]at a;obtain⟨e,b,rfl,g,f⟩:=a;simp only[anJ,VRs];exact⟨e,b.set o d,rfl,g,VRs.set h f⟩
def J9{S:ae}{σ:Sto}(b:StR S σ)(a:TC):StR (S++[.arr a [] false 0]) (σ++[.cells [] 0 0])/\aK S σ (S++[.arr a [] false 0]) (σ++[.cells [] 0 0])/\VR (S++[.arr a [] false 0]) (σ++[.cells [] 0 0]) (.own S.length 0) (.sl σ.length 0 0 0 a.sz false):=by
 have e:a.flat []=[]:=gH _;refine⟨b.push ⟨0,0,by rw[e],λ_=>rfl⟩,aK.push b.len _ _,?_⟩;simp only[VR];exact .mk (t:=a) (xs:=[]) (fz:=false) (fr:=0) (u:=0) siq (by rw[e,b.len];simp) (by rw[b.len];rfl)
def Lm{i:Nat}{K:ae->Option α}:∀{l:List (Nat×TC)}{S:ae}{σ:Sto},Gs i l S K=some r->StR S σ->∃g b,K g=some r/\StR g b/\aK S σ g b/\∀d,(∀v,d=.ptr i 0 0->Gho P σ b d v->True)/\Gho P σ b d d
 |[],S,σ,h,hS=>⟨S,σ,h,hS,.refl _ _,λd=>⟨λ_ _ _=>trivial,.refl _ _⟩⟩
 |(o,f)::l,S,σ,h,hS=>by
  simp only[Gs]at h;split at h<;>try (cases h;done)
  rename_i s x A;split at h<;>try (cases h;done)
  rename_i R;obtain⟨a,D,t,u,rfl,z,k⟩:=hS.obj _ _ A;obtain⟨E,F,V⟩:=J9 hS f;obtain⟨e,U,m⟩:=k.get R;simp only[VR]at m;subst m;have n:=aj A;have p:=aj D;have C:(S++[il.arr f [] false 0])[i]?=some (.cells s x):=by rw[ak8 n];exact A
  have c:=aK.setCells E (cs':=s.set o (.own S.length 0)) (fz':=x) (a:=.cells (t.set o (.sl σ.length 0 0 0 f.sz false)) u 0) C;have j:=E.set C c ⟨_,u,rfl,z,VRs.set (VR.pres c _ _ V) (VRs.pres (F.trans c) _ _ k)⟩;have H:(S++[il.arr f [] false 0]).set i (.cells (s.set o (.own S.length 0)) x)=(S.set i (.cells (s.set o (.own S.length 0)) x))++[.arr f [] false 0]:=by rw[List.set_append_left _ _ n]
  have I:(σ++[aq.cells [] 0 0]).set i (.cells (t.set o (.sl σ.length 0 0 0 f.sz false)) u 0)=(σ.set i (.cells (t.set o (.sl σ.length 0 0 0 f.sz false)) u 0))++[.cells [] 0 0]:=by rw[List.set_append_left _ _ p]
  rw[H,I]at j c;obtain⟨g,b,J,L,M,O⟩:=Lm h j;refine⟨g,b,J,L,(F.trans c).trans M,λd=>⟨λ_ _ _=>trivial,Gho.trans ?_ (O d).2⟩⟩;intro B G w v Q q;have y:=(Q.weakObj D (cs':=t.set o (.sl σ.length 0 0 0 f.sz false)) siq λW q=>af.set_weak (λv q=>Ew q) U q).newObj;exact⟨G,.refl G,y,q⟩
def NV:List (Nat×TC)->List SV->ae->(List SV->ae->Option α)->Option α
 |[],a,S,K=>K a S
 |(o,b)::r,a,S,K=>match a[o]? with
  |some .nils=>NV r (a.set o (.own S.length 0)) (S++[.arr b [] false 0]) K
  |_=>none
def Qt{K:List SV->ae->Option α}:∀{l:List (Nat×TC)}{cs:List SV}{ds:List D}{S:ae}{σ:Sto},NV l cs S K=some r->StR S σ->VRs S σ cs ds->∃b c d a,K b d=some r/\StR d a/\aK S σ d a/\VRs d a b c/\qW P σ a ds c
 |[],cs,ds,S,σ,h,hS,f=>⟨cs,ds,S,σ,h,hS,.refl _ _,f,λ_ G _ _ i j=>⟨G,.refl G,i,j⟩⟩
 |(o,z)::l,cs,ds,S,σ,h,hS,f=>by
  simp only[NV]at h;split at h<;>try (cases h;done)
  rename_i t;obtain⟨x,k,y⟩:=J9 hS z;obtain⟨e,u,g⟩:=f.get t;simp only[VR]at g;subst g;obtain⟨b,c,d,a,m,n,p,q,s⟩:=Qt h x (VRs.set y (VRs.pres k _ _ f));refine⟨b,c,d,a,m,n,k.trans p,q,?_⟩;intro B G w v i j;exact s B G w v i.newObj (af.set_weak (λv f=>Ew f) u j)
mutual
def lZ(S:ae):SV->Option (SV×ae)
 |.own l g=>match S[l]? with
  |some (.arr tc xs _ g')=>match Nat.beq g g' with
   |true=>some (.sl tc xs false,S.set l (.arr tc xs true g'))
   |false=>none
  |_=>none
 |.agg cs=>match zN S cs with
  |some (cs',S')=>some (.agg cs',S')
  |none=>none
 |.tup cs=>match zN S cs with
  |some (cs',S')=>some (.tup cs',S')
  |none=>none
 |v=>some (v,S)
def zN (S:ae):List SV->Option (List SV×ae)
 |[]=>some ([],S)
 |v::vs=>match lZ S v with
  |some (v',S1)=>match zN S1 vs with
   |some (vs',S2)=>some (v'::vs',S2)
   |none=>none
  |none=>none
end
mutual
def EO:∀(v:SV){S S':ae}{σ:Sto}{v':SV}{d:D},lZ S v=some (v',S')->StR S σ->VR S σ v d->∃d' σ',VR S' σ' v' d'/\StR S' σ'/\aK S σ S' σ'/\Gho P σ σ' d d'
 |.own l g,S,S',σ,v',d,h,hS,hv=>by
  simp only[lZ]at h;split at h<;>try (cases h;done)
  rename_i tc xs fz g' hl;split at h<;>try (cases h;done)
  rename_i hg;have hg:=bq hg;subst hg;cases h;simp only[VR]at hv;obtain⟨fr,u,k4,rfl⟩:=(hv.2 _ _ _ _ hl).2 rfl;have hfl:(tc.flat xs).length=xs.length*tc.sz:=eK _ _;have hpr:aK S σ (S.set l (.arr tc xs true g)) (σ.set l (.cells (tc.flat xs) (tc.flat xs).length u)):=aK.setSame hS hl k4 rfl;refine⟨.list (tc.flat xs) xs.length false,_,by simp only[VR];exact⟨false,rfl,λh=>by cases h⟩,hS.set hl hpr ⟨_,u,rfl,λh=>by cases h⟩,hpr,?_⟩;intro B G w v hR hv;obtain⟨G',h1,h2,h3⟩:=B5 hR k4 (by rw[hfl];omega) hv;refine⟨G',h1,h2,?_⟩;rw[alR,alw (by rw[hfl];exact ak7 _)]at h3;exact h3
 |.agg cs,S,S',σ,v',d,h,hS,hv=>by
  simp only[lZ]at h;split at h<;>try (cases h;done)
  rename_i cs' S1 hc;cases h;simp only[VR]at hv;obtain⟨ds,rfl,hv⟩:=hv;obtain⟨ds',σ',h1,h2,h3,h4⟩:=xb cs hc hS hv;refine⟨.agg ds',σ',by simp only[VR];exact⟨ds',rfl,h1⟩,h2,h3,?_⟩;intro B G w v hR hr;simp only[Rep]at hr;obtain⟨a,rfl,hr⟩:=hr;obtain⟨G',k1,k2,k3⟩:=h4 B G w _ hR hr;exact⟨G',k1,k2,by simp only[Rep];exact⟨a,rfl,k3⟩⟩
 |.tup cs,S,S',σ,v',d,h,hS,hv=>by
  simp only[lZ]at h;split at h<;>try (cases h;done)
  rename_i cs' S1 hc;cases h;simp only[VR]at hv;obtain⟨ds,rfl,hv⟩:=hv;obtain⟨ds',σ',h1,h2,h3,h4⟩:=xb cs hc hS hv;refine⟨.tuple ds',σ',by simp only[VR];exact⟨ds',rfl,h1⟩,h2,h3,?_⟩;intro B G w v hR hr;simp only[Rep]at hr;obtain⟨a,rfl,hr⟩:=hr;obtain⟨G',k1,k2,k3⟩:=h4 B G w _ hR hr;exact⟨G',k1,k2,by simp only[Rep];exact⟨a,rfl,k3⟩⟩
 |.int _ _,S,S',σ,v',d,h,hS,hv=>by simp only[lZ]at h;cases h;exact⟨d,σ,hv,hS,.refl _ _,.refl _ _⟩
 |.bool _,S,S',σ,v',d,h,hS,hv=>by simp only[lZ]at h;cases h;exact⟨d,σ,hv,hS,.refl _ _,.refl _ _⟩
 |.str _,S,S',σ,v',d,h,hS,hv=>by simp only[lZ]at h;cases h;exact⟨d,σ,hv,hS,.refl _ _,.refl _ _⟩
 |.sl _ _ _,S,S',σ,v',d,h,hS,hv=>by simp only[lZ]at h;cases h;exact⟨d,σ,hv,hS,.refl _ _,.refl _ _⟩
 |.nils,S,S',σ,v',d,h,hS,hv=>by simp only[lZ]at h;cases h;exact⟨d,σ,hv,hS,.refl _ _,.refl _ _⟩
 |.lst _ _ _,S,S',σ,v',d,h,hS,hv=>by simp only[lZ]at h;cases h;exact⟨d,σ,hv,hS,.refl _ _,.refl _ _⟩
 |.func _ _ _,S,S',σ,v',d,h,hS,hv=>by simp only[lZ]at h;cases h;exact⟨d,σ,hv,hS,.refl _ _,.refl _ _⟩
 |.iface _ _,S,S',σ,v',d,h,hS,hv=>by simp only[lZ]at h;cases h;exact⟨d,σ,hv,hS,.refl _ _,.refl _ _⟩
 |.ap _ _ _ _,S,S',σ,v',d,h,hS,hv=>by simp only[lZ]at h;cases h;exact⟨d,σ,hv,hS,.refl _ _,.refl _ _⟩
 |.rp _ _ _,S,S',σ,v',d,h,hS,hv=>by simp only[lZ]at h;cases h;exact⟨d,σ,hv,hS,.refl _ _,.refl _ _⟩
 |.rc _ _,S,S',σ,v',d,h,hS,hv=>by simp only[lZ]at h;cases h;exact⟨d,σ,hv,hS,.refl _ _,.refl _ _⟩
 |.raw _,S,S',σ,v',d,h,hS,hv=>by simp only[lZ]at h;cases h;exact⟨d,σ,hv,hS,.refl _ _,.refl _ _⟩
def xb:∀(vs:List SV){S S':ae}{σ:Sto}{vs':List SV}{ds:List D},zN S vs=some (vs',S')->StR S σ->VRs S σ vs ds->∃ds' σ',VRs S' σ' vs' ds'/\StR S' σ'/\aK S σ S' σ'/\qW P σ σ' ds ds'
 |[],S,S',σ,vs',ds,h,hS,hv=>by
  simp only[zN,ak1,aln]at h;obtain⟨rfl,rfl⟩:=h;exact⟨ds,σ,hv,hS,.refl _ _,λ_ G _ _ hR hr=>⟨G,.refl G,hR,hr⟩⟩
 |v::vs,S,S',σ,vs',ds,h,hS,hv=>by
  simp only[zN]at h;split at h<;>try (cases h;done)
  rename_i v1 S1 h1;split at h<;>try (cases h;done)
  rename_i vs1 S2 h2;cases h;simp only[VRs]at hv;obtain⟨e,es,rfl,hve,hvs⟩:=hv;obtain⟨d',σ1,a1,a2,a3,a4⟩:=EO v h1 hS hve;obtain⟨ds',σ2,b1,b2,b3,b4⟩:=xb vs h2 a2 (VRs.pres a3 _ _ hvs);refine⟨d'::ds',σ2,by simp only[VRs];exact⟨d',ds',rfl,VR.pres b3 _ _ a1,b1⟩,b2,a3.trans b3,?_⟩;intro B G w xs hR hr;simp only[af]at hr;obtain⟨x,xr,rfl,hx,hxr⟩:=hr;obtain⟨G1,l1,R1,r1⟩:=a4 B G w x hR hx;obtain⟨G2,l2,R2,r2⟩:=b4 B G1 w xr R1 (af.mono l1 _ _ hxr);exact⟨G2,l1.trans l2,R2,by simp only[af];exact⟨x,xr,rfl,Rep.mono l2 _ _ r1,r2⟩⟩
end
end
end
end Go.Fw
def alz:=@List.mem_of_getElem?
namespace Go.Fw
noncomputable section
open Go.RowKit
def Gh.cutTo(G:Gh)(m:Nat):Gh:={G with blk:=λl u=>if l<m then G.blk l u else none}
mutual
def Rep.cutTo{G:Gh}{m:Nat}:∀(d:D)(v:Value),D.lo m d=true->Rep G d v->Rep (G.cutTo m) d v
 |.bool _,_,_,x=>by simpa only[Rep] using x
 |.int _ _,_,_,x=>by simpa only[Rep] using x
 |.str _,_,_,x=>by simpa only[Rep] using x
 |.nilp,_,_,x=>by simpa only[Rep] using x
 |.ptr l _ _,_,h,x=>by
  have h:l<m:=alb h;simp only[Rep,Gh.cutTo,ali h]at x⊢;exact x
 |.rptr cs _,_,h,x=>by
  simp only[Rep]at x⊢;obtain⟨b,o',e,r⟩:=x;exact⟨b,o',e,Cells.cutTo b _ cs h r⟩
 |.list cs _ _,_,h,x=>by
  simp only[Rep]at x⊢;obtain⟨a,cap,e,h1,h2,h3,h4⟩:=x;refine⟨a,cap,e,h1,h2,h3,h4.imp ?_ id⟩;rintro⟨b,o,ha,hc⟩;exact⟨b,o,ha,Cells.cutTo b _ cs h hc⟩
 |.sl l _ _ _ _ _,_,h,x=>by
  have h:l<m:=alb h;simp only[Rep,Gh.cutTo,ali h]at x⊢;exact x
 |.map l,_,h,x=>by
  have h:l<m:=alb h;simp only[Rep,Gh.cutTo,ali h]at x⊢;exact x
 |.nilmap,_,_,x=>by simpa only[Rep] using x
 |.cmap ks vs,_,h,x=>by
  simp only[D.lo,akY]at h;simp only[Rep]at x⊢;obtain⟨b,es,e,hm,h1,h2⟩:=x;exact⟨b,es,e,hm,af.cutTo ks _ h.1 h1,af.cutTo vs _ h.2 h2⟩
 |.pmap ks vs,_,h,x=>by
  simp only[D.lo,akY]at h;simp only[Rep]at x⊢;obtain⟨b,es,π,e,hm,hπ,h1,h2⟩:=x;exact⟨b,es,π,e,hm,hπ,af.cutTo ks _ h.1 h1,af.cutTo vs _ h.2 h2⟩
 |.func _ a b,_,h,x=>by
  simp only[D.lo,akY]at h;simp only[Rep]at x⊢;obtain⟨f,c,e,h1,h2⟩:=x;exact⟨f,c,e,af.cutTo a _ h.1 h1,af.cutTo b _ h.2 h2⟩
 |.nilf,_,_,x=>by simpa only[Rep] using x
 |.iface _ d,_,h,x=>by
  simp only[Rep]at x⊢;obtain⟨y,e,h1⟩:=x;exact⟨y,e,Rep.cutTo d _ h h1⟩
 |.nili,_,_,x=>by simpa only[Rep] using x
 |.anyi,_,_,x=>by simpa only[Rep] using x
 |.agg cs,_,h,x=>by
  simp only[Rep]at x⊢;obtain⟨a,e,h1⟩:=x;exact⟨a,e,af.cutTo cs _ h h1⟩
 |.tuple cs,_,h,x=>by
  simp only[Rep]at x⊢;obtain⟨a,e,h1⟩:=x;exact⟨a,e,af.cutTo cs _ h h1⟩
 |.junk,_,_,_=>by simp only[Rep]
def Cells.cutTo {G:Gh} {m:Nat} (b:Nat):∀(o:Nat)(ds:List D),D.los m ds=true->Cells G b o ds->Cells (G.cutTo m) b o ds
 |_,[],_,_=>by simp only[Cells]
 |o,d::ds,h,x=>by
  simp only[D.los,akY]at h;simp only[Cells]at x⊢;obtain⟨⟨v,e,r⟩,hs⟩:=x;exact⟨⟨v,e,Rep.cutTo d v h.1 r⟩,Cells.cutTo b _ ds h.2 hs⟩
def af.cutTo {G:Gh} {m:Nat}:∀(ds:List D)(vs:List Value),D.los m ds=true->af G ds vs->af (G.cutTo m) ds vs
 |[],_,_,x=>by simpa only[af] using x
 |d::ds,_,h,x=>by
  simp only[D.los,akY]at h;simp only[af]at x⊢;obtain⟨v,r,e,h1,h2⟩:=x;exact⟨v,r,e,Rep.cutTo d v h.1 h1,af.cutTo ds r h.2 h2⟩
end
def oP.cutTo{G:Gh}{m:Nat}{w:World}{b:Nat}{ob:aq}(d:ob.lo m=true)(h:oP G w b ob):oP (G.cutTo m) w b ob:=by
 cases ob with
 |cells z f v=>
  obtain⟨y,o,e,g,x,u,j,l⟩:=h;exact⟨y,o,e,g,x,u,j,af.cutTo _ _ d l⟩
 |map a c=>
  simp only[aq.lo,akY]at d;obtain⟨k,e,g,j⟩:=h;exact⟨k,e,af.cutTo _ _ d.1 g,af.cutTo _ _ d.2 j⟩
 |siter s p=>exact h
 |miter a c r n=>
  simp only[aq.lo,akY]at d;obtain⟨m,k,seen,e,g,j,l,q,t⟩:=h;exact⟨m,k,seen,e,g,af.cutTo _ _ d.1 j,af.cutTo _ _ d.2 l,q,t⟩
 |dead=>exact h
 |gone=>exact h
def Rel.cutTo{P:Program}{B:bE P}{G:Gh}{σ g:Sto}{w:World}(d:Rel B G (σ++g) w)(p:∀j∈σ,j.lo σ.length=true):Rel B (G.cutTo σ.length) σ w:=by
 have k:∀{l u b:Nat},(G.cutTo σ.length).blk l u=some b->l<σ.length/\G.blk l u=some b:=by
  intro l u b h;simp only[Gh.cutTo]at h;split at h
  ·exact⟨by assumption,h⟩
  ·cases h
 have m:∀{l:Nat}{j:aq},σ[l]?=some j->(σ++g)[l]?=some j:=λh=>by rw[ak8 (aj h)];exact h
 refine⟨d.below,d.imm,d.mimm,d.siz,λl u b h=>⟨(k h).1,(d.blk _ _ _ (k h).2).2⟩,λl u q r b h o=>d.inj _ _ _ _ _ (k h).2 (k o).2,λl j b e h=>(d.obj l j b (m e) (k h).2).cutTo (p _ (alz e)),
  λl n f u b e h=>d.own l n f u b (m e) (k h).2,λl a c b e h=>d.ownm l a c b (m e) (k h).2,λl j e=>⟨(d.ver l j (m e)).1,λu b h=>(d.ver l j (m e)).2 u b (k h).2⟩,λl j e=>d.frzle l j (m e),d.bimm,d.bmimm⟩
def XD(P:Program)(i N:Nat)(τ:Env)(σ:Sto)(τ':Env)(σ':Sto):Prop:=∀(B:bE P)(G:Gh)(w:World)(a:Act),Rel B G σ w->de G N τ a->∃b,G.LeB i b/\Rel B b σ' w/\de b N τ' a
section
variable {i N:Nat}{P:Program}{c:Code}{τ τ2:Env}{σ σ2:Sto}{Q:AEx→Env→Sto→Prop}
def LWp.sgho(s:XD P i N τ σ τ2 σ2)(h:LWp i P N c τ2 σ2 Q):LWp i P N c τ σ Q:=by
 intro B G w a q r b k n;obtain⟨m,g,d,f⟩:=s B G w a q r;obtain⟨e,j,l,o,p⟩:=h B m w a d f b k n;exact⟨e,j,l,lP g (λ_ _ _ y=>y) e j l o,p⟩
def AWp.post(h:AWp i P N c τ σ λe d b=>∃τ2 σ2,XD P i N d b τ2 σ2/\Q e τ2 σ2):AWp i P N c τ σ Q:=by
 intro B G w a o p;refine aoH (h B G w a o p) λe a w x=> ?_;cases e<;>simp only[jH]at x⊢<;>first
  |exact x
  |(obtain⟨f,d,b,j,k,l,τ2,σ2,m,n⟩:=x
    obtain⟨g,q,r,s⟩:=m B f w a k l;exact⟨g,τ2,σ2,j.trans q,r,s,n⟩)
end
structure DV where
 t:TC
 x:t.Den
@[reducible] def Tup:List TC->Type
  |[]=>Unit
  |[t]=>t.Den
  |t::u::a=>t.Den×Tup (u::a)
def kK:(a:List TC)->List DV->Option (Tup a)
 |[],[]=>some ()
 |[t],[v]=>match decEq v.t t with
  |isTrue h=>some (h▸v.x)
  |isFalse _=>none
 |t::u::a,v::b=>match decEq v.t t with
  |isTrue h=>match kK (u::a) b with
   |some y=>some (h▸v.x,y)
   |none=>none
  |isFalse _=>none
 |_,_=>none
def eH:(a:List TC)->Tup a->List DV
 |[],_=>[]
 |[t],x=>[⟨t,x⟩]
 |t::u::a,x=>⟨t,x.1⟩::eH (u::a) x.2
def io:∀(a:List TC){l:List DV}{x:Tup a},kK a l=some x->eH a x=l
 |[],l,x,h=>by
  cases l with
  |nil=>rfl
  |cons _ _=>simp[kK]at h
 |[t],l,x,h=>by
  match l,h with
  |[v],h=>
   obtain⟨d,f⟩:=v;simp only[kK]at h;split at h<;>try (cases h;done)
   rename_i e _;subst e;cases h;rfl
  |[],h=>simp[kK]at h
  |_::_::_,h=>simp[kK]at h
 |t::u::a,l,x,h=>by
  match l,h with
  |v::g,h=>
   obtain⟨d,f⟩:=v;simp only[kK]at h;split at h<;>try (cases h;done)
   rename_i e _;subst e;split at h<;>try (cases h;done)
   rename_i y b;cases h;simp only[eH,io (u::a) b]
  |[],h=>simp[kK]at h
@[reducible] def XS:List (List TC)->Type
  |[]=>Empty
  |[a]=>Tup a
  |a::b::r=>Tup a⊕XS (b::r)
def Ji:(ls:List (List TC))->Nat->List DV->Option (XS ls)
 |[],_,_=>none
 |[a],0,l=>kK a l
 |[_],_+1,_=>none
 |a::b::r,0,l=>match kK a l with
  |some x=>some (.inl x)
  |none=>none
 |a::b::r,n+1,l=>match Ji (b::r) n l with
  |some x=>some (.inr x)
  |none=>none
def zO{α:Type}:(ls:List (List TC))->XS ls->(Nat->List DV->Option α)->Option α
 |[],_,_=>none
 |[a],x,f=>f 0 (eH a x)
 |a::b::r,x,f=>match x with
  |.inl y=>f 0 (eH a y)
  |.inr z=>zO (b::r) z λn=>f (n+1)
def Qu{α:Type}:∀(ls:List (List TC)){n:Nat}{l:List DV}{x:XS ls}{f:Nat->List DV->Option α},Ji ls n l=some x->zO ls x f=f n l
 |[],n,l,x,f,h=>by simp[Ji]at h
 |[a],n,l,x,f,h=>by
  cases n with
  |zero=>simp only[Ji]at h;simp only[zO,io _ h]
  |succ n=>simp[Ji]at h
 |a::b::r,n,l,x,f,h=>by
  cases n with
  |zero=>
   simp only[Ji]at h;split at h<;>try (cases h;done)
   rename_i y d;cases h;simp only[zO,io _ d]
  |succ n=>
   simp only[Ji]at h;split at h<;>try (cases h;done)
   rename_i y d;cases h;simp only[zO];exact Qu (b::r) d
end
end Go.Fw
def alQ:=@List.length_map
def alY:=@Nat.ble_eq_true_of_le
namespace Go.Fw
noncomputable section
open Go.RowKit
def ahn:Bool->Bool->Bool
 |true,b=>b
 |false,b=> !b
inductive PV where
 |hole(t:TC)
 |raw(d:D)
 |ptr(l o:Nat)
 |nils
 |own(l:Nat)
 |agg(ps:List PV)
 |tup(ps:List PV)
 |func(fn:Fn)(a b:List PV)
 |iface(t:TypeId)(p:PV)
 |rc(ps:List PV)(o:Nat)
 |rp(t:TC)(o:Nat)
 |ilit(k:IntKind)(n:Int)
 |slit(s:List UInt8)
 |blit(b:Bool)
 |mp(l:Nat)
 |junk
 deriving Inhabited
inductive PO where
 |cells(ps:List PV)(fz:Bool)
 |arr(t:TC)(fz:Bool)(kp:Bool)
 |it
 |smap
 |dead
 |junk
 deriving Inhabited
mutual
def PV.tcs:PV->List TC
 |.hole t=>[t]
 |.agg ps=>PV.tcss ps
 |.tup ps=>PV.tcss ps
 |.func _ a b=>PV.tcss a++PV.tcss b
 |.iface _ p=>p.tcs
 |.rc ps _=>PV.tcss ps
 |.rp t _=>[t]
 |_=>[]
def PV.tcss:List PV->List TC
 |[]=>[]
 |p::ps=>p.tcs++PV.tcss ps
end
def PO.tcs:PO->List TC
 |.cells a _=>PV.tcss a
 |.arr t _ _=>[.sl t]
 |.it=>[.str,.int .i64]
 |.smap=>[.sl .str]
 |.dead=>[]
 |.junk=>[]
mutual
def PV.chk(objs:List PO):PV->Bool
 |.raw d=>D.lo 0 d
 |.ptr l _=>Nat.blt l objs.length
 |.mp l=>Nat.blt l objs.length
 |.own l=>match objs[l]? with
  |some (.arr _ _ _)=>true
  |_=>false
 |.agg ps=>PV.chks objs ps
 |.tup ps=>PV.chks objs ps
 |.func _ a b=>PV.chks objs a&&PV.chks objs b
 |.iface _ p=>p.chk objs
 |.rc ps _=>PV.chks objs ps
 |_=>true
def PV.chks (objs:List PO):List PV->Bool
 |[]=>true
 |p::ps=>p.chk objs&&PV.chks objs ps
end
def TC.takeO:(t:TC)->List SV->Option (t.Den×List SV)
 |.byte,_=>none
 |.int k,d=>match d with
  |.int g n::r=>match decEq g k with
   |isTrue _=>some (n,r)
   |isFalse _=>none
  |_=>none
 |.bool,d=>match d with
  |.bool b::r=>some (b,r)
  |_=>none
 |.str,d=>match d with
  |.str s::r=>some (s,r)
  |_=>none
 |.sl t,d=>match d with
  |v::r=>match iY t v with
   |some j=>some (j,r)
   |none=>none
  |_=>none
 |.pair a b,d=>match a.takeO d with
  |some (x,r)=>match b.takeO r with
   |some (y,h)=>some ((x,y),h)
   |none=>none
  |none=>none
 |.unit,d=>some ((),d)
 |.node,d=>match d with
  |.int .i64 c:: .int .i64 m:: .bool k::v::w::r=>match iY .byte v,iY .node w with
   |some b,some f=>some (.mk c m k b f,r)
   |_,_=>none
  |_=>none
 |.spot,d=>match d with
  |.int .i64 a:: .int .i64 e:: .int .i64 c:: .int .i64 m:: .bool k::v::w::u::r=>match iY .byte v,iY .node w,iY .spot u with
   |some b,some f,some i=>some (.mk a e (.mk c m k b f) i,r)
   |_,_,_=>none
  |_=>none
def TC.takeO_take{α:Type}:∀(t:TC)(cs:List SV)(K:t.Den->List SV->Option α){x:t.Den}{r:List SV},t.takeO cs=some (x,r)->t.take cs K=K x r
 |.byte,_,_,_,_,h=>by simp[TC.takeO]at h
 |.int k,cs,K,x,r,h=>by
  simp only[TC.takeO]at h;split at h<;>try (cases h;done)
  split at h<;>try (cases h;done)
  rename_i e g;subst e;cases h;simp only[TC.take,g]
 |.bool,cs,K,x,r,h=>by
  simp only[TC.takeO]at h;split at h<;>try (cases h;done)
  cases h;rfl
 |.str,cs,K,x,r,h=>by
  simp only[TC.takeO]at h;split at h<;>try (cases h;done)
  cases h;rfl
 |.sl t,cs,K,x,r,h=>by
  simp only[TC.takeO]at h;split at h<;>try (cases h;done)
  split at h<;>try (cases h;done)
  rename_i f;cases h;simp only[TC.take,f]
 |.pair a b,cs,K,x,r,h=>by
  simp only[TC.takeO]at h;split at h<;>try (cases h;done)
  rename_i f;split at h<;>try (cases h;done)
  rename_i j;cases h;simp only[TC.take,TC.takeO_take a _ _ f,TC.takeO_take b _ _ j]
 |.unit,cs,K,x,r,h=>by
  simp only[TC.takeO]at h;cases h;rfl
 |.node,cs,K,x,r,h=>by
  simp only[TC.takeO]at h;split at h<;>try (cases h;done)
  split at h<;>try (cases h;done)
  rename_i c d;cases h;simp only[TC.take,c,d]
 |.spot,cs,K,x,r,h=>by
  simp only[TC.takeO]at h;split at h<;>try (cases h;done)
  split at h<;>try (cases h;done)
  rename_i c d i;cases h;simp only[TC.take,c,d,i]
def TS(t:TC)(v:SV):Option DV:=match t with
 |.int k=>match v with
  |.int c n=>match decEq c k with
   |isTrue _=>some ⟨.int k,n⟩
   |isFalse _=>none
  |_=>none
 |.bool=>match v with
  |.bool b=>some ⟨.bool,b⟩
  |_=>none
 |.str=>match v with
  |.str s=>some ⟨.str,s⟩
  |_=>none
 |.sl u=>match iY u v with
  |some d=>some ⟨.sl u,d⟩
  |none=>none
 |t=>match v with
  |.agg a=>match t.takeO a with
   |some (x,[])=>some ⟨t,x⟩
   |_=>none
  |_=>none
def kV(v:DV):SV:=match v with
 |⟨.int k,n⟩=>.int k n
 |⟨.bool,b⟩=>.bool b
 |⟨.str,s⟩=>.str s
 |⟨.sl t,a⟩=>.sl t a false
 |⟨t,x⟩=>.agg (t.scells x)
def TC.pure_lo(m:Nat):∀{d:D},d.pure=true->D.lo m d=true:=by
 intro d;exact D.rec (motive_1:=λd=>d.pure=true->D.lo m d=true) (motive_2:=λj=>bo j=true->D.los m j=true)
  (λ_ _=>rfl) (λ_ _ _=>rfl) (λ_ _=>rfl) (λ_=>rfl) (λ_ _ _ h=>by simp[D.pure]at h) (λi o g h=>g h) (λi n f g h=>g h)
  (λ_ _ _ _ _ _ h=>by simp[D.pure]at h) (λ_ h=>by simp[D.pure]at h) (λ_=>rfl) (λa b c e h=>by simp only[D.pure,akY]at h;simp[D.lo,c h.1,e h.2]) (λa b c e h=>by simp only[D.pure,akY]at h;simp[D.lo,c h.1,e h.2])
  (λp a b c e h=>by simp only[D.pure,akY]at h;simp[D.lo,c h.1,e h.2]) (λ_=>rfl) (λt v g h=>g h) (λ_=>rfl) (λ_=>rfl) (λi g h=>g h) (λi g h=>g h) (λ_=>rfl)
  (λ_=>rfl) (λd j k l h=>by simp only[bo,akY]at h;simp[D.los,k h.1,l h.2]) d
def ZD{S:ae}{σ:Sto}{t:TC}{v:SV}{x:DV}{d:D}(h:TS t v=some x)(c:VR S σ v d):∃g,aB d g/\g.pure=true/\∀(S2:ae)(σ2:Sto),VR S2 σ2 (kV x) g:=by
 have j:∀(t:TC)(i:List SV),(∀y:t.Den,kV ⟨t,y⟩=.agg (t.scells y))->v=.agg i->(match t.takeO i with
  |some (y,[])=>some (⟨t,y⟩:DV)
  |_=>none)=some x->∃g,aB d g/\g.pure=true/\∀(S2:ae)(σ2:Sto),VR S2 σ2 (kV x) g:=by
  intro t i l e k;subst e;split at k<;>try (cases k;done)
  rename_i y w;cases k;simp only[VR]at c;obtain⟨F,rfl,c⟩:=c;have q:=TC.takeO_take t i (λa b=>some (a,b)) w;obtain⟨G,o,E,d2,p,rfl,r,n⟩:=TC.take_ok t i _ _ _ q c;cases p;simp only[VRs]at n;subst n;rw[alm];exact⟨.agg (t.cells y),aB.agg r,t.enc.pure y,λS2 σ2=>by rw[l];simp only[VR];exact⟨_,rfl,TC.scells_ok S2 σ2 t y⟩⟩
 unfold TS at h;split at h
 ·split at h<;>try (cases h;done)
  split at h<;>try (cases h;done)
  rename_i e _;subst e;cases h;simp only[VR]at c;subst c;exact⟨_,aB.refl _,rfl,λ_ _=>by simp[kV,VR]⟩
 ·split at h<;>try (cases h;done)
  cases h;simp only[VR]at c;subst c;exact⟨_,aB.refl _,rfl,λ_ _=>by simp[kV,VR]⟩
 ·split at h<;>try (cases h;done)
  cases h;simp only[VR]at c;subst c;exact⟨_,aB.refl _,rfl,λ_ _=>by simp[kV,VR]⟩
 ·split at h<;>try (cases h;done)
  rename_i u _ m s;cases h;obtain⟨f,rfl⟩:=np s c;exact⟨.list (u.flat m) m.length false,aB.list,u.flat_pure m,λ_ _=>by simp only[kV,VR];exact⟨false,rfl,λh=>by cases h⟩⟩
 ·rename_i t z A B C;split at h<;>try (cases h;done)
  refine j _ _ (λy=> ?_) rfl h;unfold kV;split
  ·rename_i e;cases e;exact absurd rfl (z _)
  ·rename_i e;cases e;exact absurd rfl A
  ·rename_i e;cases e;exact absurd rfl B
  ·rename_i e;cases e;exact absurd rfl (C _)
  ·rename_i e;cases e;rfl
mutual
def PV.get(S:ae):PV->SV->Option (List DV)
 |.hole t,v=>match TS t v with
  |some x=>some [x]
  |none=>none
 |.raw d,v=>match v with
  |.raw e=>match D.beq e d with
   |true=>some []
   |false=>none
  |_=>none
 |.ptr l o,v=>match v with
  |.raw (.ptr l' u o')=>match Nat.beq l' l&&Nat.beq u 0&&Nat.beq o' o with
   |true=>some []
   |false=>none
  |_=>none
 |.nils,v=>match v with
  |.nils=>some []
  |_=>none
 |.own l,v=>match v with
  |.own l' g=>match Nat.beq l' l&&rN S l' g with
   |true=>some []
   |false=>none
  |_=>none
 |.agg ps,v=>match v with
  |.agg vs=>PV.gets S ps vs
  |_=>none
 |.tup ps,v=>match v with
  |.tup vs=>PV.gets S ps vs
  |_=>none
 |.func fn a b,v=>match v with
  |.func fn' va vb=>match decEq fn' fn with
   |isTrue _=>match PV.gets S a va,PV.gets S b vb with
    |some x,some y=>some (x++y)
    |_,_=>none
   |isFalse _=>none
  |_=>none
 |.iface t p,v=>match v with
  |.iface t' w=>match Nat.beq t' t with
   |true=>PV.get S p w
   |false=>none
  |_=>none
 |.rc ps o,v=>match v with
  |.rc vs o'=>match Nat.beq o' o with
   |true=>PV.gets S ps vs
   |false=>none
  |_=>none
 |.rp t o,v=>match v with
  |.rp t' x o'=>match decEq t' t,Nat.beq o' o with
   |isTrue _,true=>some [⟨t',x⟩]
   |_,_=>none
  |_=>none
 |.ilit k n,v=>match v with
  |.int k' m=>match decEq k' k,m==n with
   |isTrue _,true=>some []
   |_,_=>none
  |_=>none
 |.blit b,v=>match v with
  |.bool c=>match ahn c b with
   |true=>some []
   |false=>none
  |_=>none
 |.slit s,v=>match v with
  |.str t=>match t==s with
   |true=>some []
   |false=>none
  |_=>none
 |.mp l,v=>match v with
  |.raw (.map l')=>match Nat.beq l' l with
   |true=>some []
   |false=>none
  |_=>none
 |.junk,_=>some []
def PV.gets (S:ae):List PV->List SV->Option (List DV)
 |[],vs=>match vs with
  |[]=>some []
  |_=>none
 |p::ps,vs=>match vs with
  |v::vs=>match PV.get S p v,PV.gets S ps vs with
   |some x,some y=>some (x++y)
   |_,_=>none
  |[]=>none
end
mutual
def PV.put(G:Nat->Nat):PV->List DV->Option (SV×List DV)
 |.hole _,l=>match l with
  |x::r=>some (kV x,r)
  |[]=>none
 |.raw d,l=>some (.raw d,l)
 |.ptr i o,l=>some (.raw (.ptr i 0 o),l)
 |.nils,l=>some (.nils,l)
 |.own i,l=>some (.own i (G i),l)
 |.agg ps,l=>match PV.puts G ps l with
  |some (vs,r)=>some (.agg vs,r)
  |none=>none
 |.tup ps,l=>match PV.puts G ps l with
  |some (vs,r)=>some (.tup vs,r)
  |none=>none
 |.func fn a b,l=>match PV.puts G a l with
  |some (va,r)=>match PV.puts G b r with
   |some (vb,r')=>some (.func fn va vb,r')
   |none=>none
  |none=>none
 |.iface t p,l=>match PV.put G p l with
  |some (v,r)=>some (.iface t v,r)
  |none=>none
 |.rc ps o,l=>match PV.puts G ps l with
  |some (vs,r)=>some (.rc vs o,r)
  |none=>none
 |.rp _ o,l=>match l with
  |x::r=>some (.rp x.t x.x o,r)
  |[]=>none
 |.ilit k n,l=>some (.int k n,l)
 |.slit s,l=>some (.str s,l)
 |.blit b,l=>some (.bool b,l)
 |.mp i,l=>some (.raw (.map i),l)
 |.junk,l=>some (.raw .junk,l)
def PV.puts (G:Nat->Nat):List PV->List DV->Option (List SV×List DV)
 |[],l=>some ([],l)
 |p::ps,l=>match PV.put G p l with
  |some (v,r)=>match PV.puts G ps r with
   |some (vs,r')=>some (v::vs,r')
   |none=>none
  |none=>none
end
def HO(G:Nat->Nat)(S:ae)(σ:Sto)(objs:List PO)(S2:ae)(σ2:Sto):Prop:=
 ∀(l:Nat)(f:TC)(c e:Bool),objs[l]?=some (.arr f c e)->∀t b d g,S[l]?=some (.arr t b d g)->(∃a,S2[l]?=some (.arr t b a (G l)))/\σ2[l]?=σ[l]?
def aB.func{fn:Fn}{a d b g:List D}(h:bp a d)(k:bp b g):aB (.func fn a b) (.func fn d g):=by
 intro G v i;simp only[Rep]at i⊢;obtain⟨f,c,e,j,l⟩:=i;exact⟨f,c,e,h.reps j,k.reps l⟩
def aB.iface{t:TypeId}{d e:D}(h:aB d e):aB (.iface t d) (.iface t e):=by
 intro G v a;simp only[Rep]at a⊢;obtain⟨x,e,b⟩:=a;exact⟨x,e,h _ _ b⟩
def aB.rptr{cs ds:List D}{o:Nat}(h:bp cs ds):aB (.rptr cs o) (.rptr ds o):=by
 intro G v a;simp only[Rep]at a⊢;obtain⟨b,d,e,c⟩:=a;exact⟨b,d,e,c.weak h⟩
def aB.junk(d:D):aB d .junk:=λ_ _ _=>by simp only[Rep]
mutual
def D.lo_mono{m n:Nat}(h:m<=n):∀d:D,D.lo m d=true->D.lo n d=true
 |.ptr l _ _,x=>by
  have x:l<m:=alb x;exact alY (alO x h)
 |.sl l _ _ _ _ _,x=>by
  have x:l<m:=alb x;exact alY (alO x h)
 |.map l,x=>by
  have x:l<m:=alb x;exact alY (alO x h)
 |.rptr cs _,x=>D.los_mono h cs x
 |.list cs _ _,x=>D.los_mono h cs x
 |.cmap a b,x=>by simp only[D.lo,akY]at x⊢;exact⟨D.los_mono h a x.1,D.los_mono h b x.2⟩
 |.pmap a b,x=>by simp only[D.lo,akY]at x⊢;exact⟨D.los_mono h a x.1,D.los_mono h b x.2⟩
 |.func _ a b,x=>by simp only[D.lo,akY]at x⊢;exact⟨D.los_mono h a x.1,D.los_mono h b x.2⟩
 |.iface _ v,x=>D.lo_mono h v x
 |.agg cs,x=>D.los_mono h cs x
 |.tuple cs,x=>D.los_mono h cs x
 |.bool _,_=>rfl
 |.int _ _,_=>rfl
 |.str _,_=>rfl
 |.nilp,_=>rfl
 |.nilmap,_=>rfl
 |.nilf,_=>rfl
 |.nili,_=>rfl
 |.anyi,_=>rfl
 |.junk,_=>rfl
def D.los_mono {m n:Nat} (h:m<=n):∀ds:List D,D.los m ds=true->D.los n ds=true
 |[],_=>rfl
 |d::ds,x=>by simp only[D.los,akY]at x⊢;exact⟨D.lo_mono h d x.1,D.los_mono h ds x.2⟩
end
def D.los_junk(m:Nat):∀a:List D,D.los m (a.map λ_=>.junk)=true
 |[]=>rfl
 |_::a=>by simp[D.los,D.lo,D.los_junk m a]
def bp.junk:∀a:List D,bp a (a.map λ_=>.junk)
 |[]=>rfl
 |d::a=>⟨aB.junk d,bp.junk a⟩
mutual
def PV.get_ok{S:ae}{σ:Sto}{objs:List PO}:∀(p:PV)(v:SV)(l:List DV)(d:D),p.get S v=some l->p.chk objs=true->VR S σ v d->
 ∃d',aB d d'/\D.lo objs.length d'=true/\∀G,∃v',(∀rest,p.put G (l++rest)=some (v',rest))/\∀S2 σ2,HO G S σ objs S2 σ2->VR S2 σ2 v' d'
 |.hole t,v,l,d,h,hc,hv=>by
  simp only[PV.get]at h;split at h<;>try (cases h;done)
  rename_i x hx;cases h;obtain⟨d',h1,h2,h3⟩:=ZD hx hv;exact⟨d',h1,TC.pure_lo _ h2,λG=>⟨kV x,λrest=>rfl,λS2 σ2 _=>h3 S2 σ2⟩⟩
 |.raw e,v,l,d,h,hc,hv=>by
  simp only[PV.get]at h;split at h<;>try (cases h;done)
  split at h<;>try (cases h;done)
  rename_i hb;cases h;have:=D.beq_eq _ _ hb;subst this;simp only[VR]at hv;subst hv;exact⟨d,aB.refl _,D.lo_mono (al2 _) _ hc,λG=>⟨.raw d,λrest=>rfl,λS2 σ2 _=>by simp only[VR]⟩⟩
 |.ptr i o,v,l,d,h,hc,hv=>by
  simp only[PV.get]at h;split at h<;>try (cases h;done)
  split at h<;>try (cases h;done)
  rename_i hb;cases h;simp only[akY]at hb;have e1:=bq hb.1.1;have e2:=bq hb.1.2;have e3:=bq hb.2;subst e1 e2 e3;simp only[VR]at hv;subst hv;exact⟨_,aB.refl _,hc,λG=>⟨_,λrest=>rfl,λS2 σ2 _=>by simp only[VR]⟩⟩
 |.nils,v,l,d,h,hc,hv=>by
  simp only[PV.get]at h;split at h<;>try (cases h;done)
  cases h;simp only[VR]at hv;subst hv;exact⟨_,aB.refl _,rfl,λG=>⟨_,λrest=>rfl,λS2 σ2 _=>by simp only[VR]⟩⟩
 |.ilit k n,v,l,d,h,hc,hv=>by
  simp only[PV.get]at h;split at h<;>try (cases h;done)
  split at h<;>try (cases h;done)
  rename_i e _ he;cases h;have he:=eq_of_beq he;subst e he;simp only[VR]at hv;subst hv;exact⟨_,aB.refl _,rfl,λG=>⟨_,λrest=>rfl,λS2 σ2 _=>by simp only[VR]⟩⟩
 |.mp i,v,l,d,h,hc,hv=>by
  simp only[PV.get]at h;split at h<;>try (cases h;done)
  split at h<;>try (cases h;done)
  rename_i hb;cases h;have e1:=bq hb;subst e1;simp only[VR]at hv;subst hv;exact⟨_,aB.refl _,hc,λG=>⟨_,λrest=>rfl,λS2 σ2 _=>by simp only[VR]⟩⟩
 |.blit b,.bool c,l,d,h,hc,hv=>by
  simp only[PV.get]at h;split at h<;>try (cases h;done)
  rename_i hb;cases h;simp only[VR]at hv;subst hv;have e1:c=b:=by
   revert hb;cases c<;>cases b<;>simp[ahn]
  subst e1;exact⟨_,aB.refl _,rfl,λG=>⟨_,λrest=>rfl,λS2 σ2 _=>by simp only[VR]⟩⟩
 |.blit b,.int _ _,l,d,h,hc,hv=>by simp only[PV.get]at h;cases h
 |.slit s,v,l,d,h,hc,hv=>by
  simp only[PV.get]at h;split at h<;>try (cases h;done)
  split at h<;>try (cases h;done)
  rename_i he;cases h;have he:=eq_of_beq he;subst he;simp only[VR]at hv;subst hv;exact⟨_,aB.refl _,rfl,λG=>⟨_,λrest=>rfl,λS2 σ2 _=>by simp only[VR]⟩⟩
 |.rp t o,v,l,d,h,hc,hv=>by
  simp only[PV.get]at h;split at h<;>try (cases h;done)
  split at h<;>try (cases h;done)
  rename_i t' x o' _ _ e _ he;cases h;have he:=bq he;subst e he;simp only[VR]at hv;obtain⟨hd,tl,rfl⟩:=hv;refine⟨.rptr (hd.map (λ_=>.junk)++t'.cells x++tl.map (λ_=>.junk)) (hd.length+o'),aB.rptr (((bp.junk hd).append (bp.refl _)).append (bp.junk tl)),?_,λG=>⟨.rp t' x o',λrest=>rfl,λS2 σ2 _=>by simp only[VR];exact⟨_,_,by rw[alQ]⟩⟩⟩;have app:∀{a b:List D}{m:Nat},D.los m a=true->D.los m b=true->D.los m (a++b)=true:=by
   intro a b m h1 h2;induction a with
   |nil=>exact h2
   |cons y a ih=>simp only[alT,D.los,akY]at h1⊢;exact⟨h1.1,ih h1.2⟩
  exact app (app (D.los_junk _ _) (by have:=TC.pure_lo objs.length (d:=.agg (t'.cells x)) (t'.enc.pure x);exact this)) (D.los_junk _ _)
 |.own i,v,l,d,h,hc,hv=>by
  simp only[PV.get]at h;split at h<;>try (cases h;done)
  split at h<;>try (cases h;done)
  rename_i l' g _ hb;cases h;simp only[akY]at hb;have e1:=bq hb.1;subst e1;simp only[VR]at hv;obtain⟨t,xs,fz,fr,u,h1,h2,rfl⟩:=Jg hb.2 hv;simp only[PV.chk]at hc;split at hc<;>try (cases hc;done)
  rename_i t0 f0 k0 ho;refine⟨_,aB.refl _,alY (aj ho),λG=>⟨.own l' (G l'),λrest=>rfl,λS2 σ2 H=> ?_⟩⟩;obtain⟨⟨fz',k1⟩,k2⟩:=H l' t0 f0 k0 ho t xs fz g h1;simp only[VR];exact .mk k1 (by rw[k2];exact h2) rfl
 |.agg ps,v,l,d,h,hc,hv=>by
  simp only[PV.get]at h;split at h<;>try (cases h;done)
  simp only[VR]at hv;obtain⟨ds,rfl,hv⟩:=hv;obtain⟨ds',h2,h3,hG⟩:=PV.gets_ok ps _ l ds h hc hv;refine⟨.agg ds',aB.agg h2,h3,λG=> ?_⟩;obtain⟨vs',h1,h4⟩:=hG G;exact⟨.agg vs',λrest=>by simp only[PV.put,h1],λS2 σ2 H=>by simp only[VR];exact⟨ds',rfl,h4 S2 σ2 H⟩⟩
 |.tup ps,v,l,d,h,hc,hv=>by
  simp only[PV.get]at h;split at h<;>try (cases h;done)
  simp only[VR]at hv;obtain⟨ds,rfl,hv⟩:=hv;obtain⟨ds',h2,h3,hG⟩:=PV.gets_ok ps _ l ds h hc hv;refine⟨.tuple ds',aB.tuple h2,h3,λG=> ?_⟩;obtain⟨vs',h1,h4⟩:=hG G;exact⟨.tup vs',λrest=>by simp only[PV.put,h1],λS2 σ2 H=>by simp only[VR];exact⟨ds',rfl,h4 S2 σ2 H⟩⟩
 |.func fn a b,v,l,d,h,hc,hv=>by
  simp only[PV.get]at h;split at h<;>try (cases h;done)
  split at h<;>try (cases h;done)
  rename_i fn' va vb _ e _;subst e;split at h<;>try (cases h;done)
  rename_i x y hx hy;cases h;simp only[PV.chk,akY]at hc;simp only[VR]at hv;obtain⟨da,db,rfl,hva,hvb⟩:=hv;obtain⟨da',a2,a3,aG⟩:=PV.gets_ok a _ x da hx hc.1 hva;obtain⟨db',b2,b3,bG⟩:=PV.gets_ok b _ y db hy hc.2 hvb;refine⟨.func fn' da' db',aB.func a2 b2,by simp only[D.lo,a3,b3,amJ],λG=> ?_⟩;obtain⟨va',a1,a4⟩:=aG G;obtain⟨vb',b1,b4⟩:=bG G;exact⟨.func fn' va' vb',λrest=>by simp only[PV.put,alp,a1,b1],λS2 σ2 H=>by simp only[VR];exact⟨da',db',rfl,a4 S2 σ2 H,b4 S2 σ2 H⟩⟩
 |.iface t p,v,l,d,h,hc,hv=>by
  simp only[PV.get]at h;split at h<;>try (cases h;done)
  split at h<;>try (cases h;done)
  rename_i t' w _ hb;have e:=bq hb;subst e;simp only[VR]at hv;obtain⟨e,rfl,hv⟩:=hv;obtain⟨d',h2,h3,hG⟩:=PV.get_ok p _ l e h hc hv;refine⟨.iface t' d',aB.iface h2,h3,λG=> ?_⟩;obtain⟨v',h1,h4⟩:=hG G;exact⟨.iface t' v',λrest=>by simp only[PV.put,h1],λS2 σ2 H=>by simp only[VR];exact⟨d',rfl,h4 S2 σ2 H⟩⟩
 |.rc ps o,v,l,d,h,hc,hv=>by
  simp only[PV.get]at h;split at h<;>try (cases h;done)
  split at h<;>try (cases h;done)
  rename_i vs o' _ hb;have e:=bq hb;subst e;simp only[VR]at hv;obtain⟨ds,rfl,hv⟩:=hv;obtain⟨ds',h2,h3,hG⟩:=PV.gets_ok ps _ l ds h hc hv;refine⟨.rptr ds' o',aB.rptr h2,h3,λG=> ?_⟩;obtain⟨vs',h1,h4⟩:=hG G;exact⟨.rc vs' o',λrest=>by simp only[PV.put,h1],λS2 σ2 H=>by simp only[VR];exact⟨ds',rfl,h4 S2 σ2 H⟩⟩
 |.junk,v,l,d,h,hc,hv=>by
  simp only[PV.get,ak1]at h;subst h;exact⟨.junk,aB.junk d,rfl,λG=>⟨.raw .junk,λrest=>rfl,λS2 σ2 _=>by simp only[VR]⟩⟩
def PV.gets_ok {S:ae} {σ:Sto} {objs:List PO}:∀(ps:List PV)(vs:List SV)(l:List DV)(ds:List D),PV.gets S ps vs=some l->PV.chks objs ps=true->VRs S σ vs ds->
 ∃ds',bp ds ds'/\D.los objs.length ds'=true/\∀G,∃vs',(∀rest,PV.puts G ps (l++rest)=some (vs',rest))/\∀S2 σ2,HO G S σ objs S2 σ2->VRs S2 σ2 vs' ds'
 |[],vs,l,ds,h,hc,hv=>by
  simp only[PV.gets]at h;split at h<;>try (cases h;done)
  cases h;simp only[VRs]at hv;subst hv;exact⟨[],rfl,rfl,λG=>⟨[],λrest=>rfl,λ_ _ _=>by simp only[VRs]⟩⟩
 |p::ps,vs,l,ds,h,hc,hv=>by
  simp only[PV.gets]at h;split at h<;>try (cases h;done)
  split at h<;>try (cases h;done)
  rename_i v vs _ _ x y hx hy;cases h;simp only[PV.chks,akY]at hc;simp only[VRs]at hv;obtain⟨e,es,rfl,h1,h2⟩:=hv;obtain⟨d',a2,a3,aG⟩:=PV.get_ok p v x e hx hc.1 h1;obtain⟨ds',b2,b3,bG⟩:=PV.gets_ok ps vs y es hy hc.2 h2;refine⟨d'::ds',⟨a2,b2⟩,by simp only[D.los,a3,b3,amJ],λG=> ?_⟩;obtain⟨v',a1,a4⟩:=aG G;obtain⟨vs',b1,b4⟩:=bG G;exact⟨v'::vs',λrest=>by simp only[PV.puts,alp,a1,b1],λS2 σ2 H=>by simp only[VRs];exact⟨d',ds',rfl,a4 S2 σ2 H,b4 S2 σ2 H⟩⟩
end
end
end Go.Fw
namespace Go.Fw
noncomputable section
open Go.RowKit
def O8(m:Nat)(ks:List (List UInt8)):(aq.map (ks.map .str) (ks.map λ_=>.bool true)).lo m=true:=by
 have b:D.los m (ks.map .str)=true:=by
  induction ks with
  |nil=>rfl
  |cons k ks a=>simp only[alc,D.los,D.lo,a,amJ]
 have c:D.los m (ks.map λ_=>.bool true)=true:=by
  clear b;induction ks with
  |nil=>rfl
  |cons k ks a=>simp only[alc,D.los,D.lo,a,amJ]
 simp only[aq.lo,b,c,amJ]
def aq.lo_mono{m n:Nat}(h:m<=n){a:aq}(x:a.lo m=true):a.lo n=true:=by
 cases a with
 |cells c f u=>exact D.los_mono h c x
 |map a b=>simp only[aq.lo,akY]at x⊢;exact⟨D.los_mono h a x.1,D.los_mono h b x.2⟩
 |miter a b _ _=>simp only[aq.lo,akY]at x⊢;exact⟨D.los_mono h a x.1,D.los_mono h b x.2⟩
 |siter _ _=>rfl
 |dead=>rfl
 |gone=>rfl
def ae1(m:Nat)(t:TC)(xs:List t.Den):D.los m (t.flat xs)=true:=TC.pure_lo m (d:=.agg (t.flat xs)) (t.flat_pure xs)
def ED(a a2:aq):Prop:=a2=a∨∃c b f u,a=.cells c f u/\a2=.cells b f u/\bp c b
def ED.same{a a2:aq}(h:ED a a2):a2.ver=a.ver/\a2.frz=a.frz/\a2.len=a.len:=by
 rcases h with rfl|⟨d,b,f,u,rfl,rfl,c⟩
 ·exact⟨rfl,rfl,rfl⟩
 ·exact⟨rfl,rfl,c.length.symm⟩
def Rel.weakAll{P:Program}{B:bE P}{G:Gh}{σ σ2:Sto}{w:World}(c:Rel B G σ w)(D:σ2.length=σ.length)(h:∀(l:Nat)(a a2:aq),σ[l]?=some a->σ2[l]?=some a2->ED a a2):Rel B G σ2 w:=by
 have g:∀{l:Nat}{a2:aq},σ2[l]?=some a2->∃a,σ[l]?=some a/\ED a a2:=by
  intro l a2 p;have m:=aj p;rw[D]at m;exact⟨_,akZ m,h l _ a2 (akZ m) p⟩
 refine⟨c.below,c.imm,c.mimm,c.siz,λl u b k=>by rw[D];exact c.blk l u b k,c.inj,λl E b j k=> ?_,λl x s u b j k o v C=> ?_,λl N t b j k=> ?_,λl E j=> ?_,λl E j=> ?_,c.bimm,c.bmimm⟩
 ·obtain⟨a,i,d⟩:=g j;have M:=d.same.1;have A:=c.obj l a b i (by rw[<-M];exact k);rcases d with rfl|⟨x,F,f,u,rfl,rfl,d⟩
  ·exact A
  ·obtain⟨t,H,I,p,O,L,J,K⟩:=A;exact⟨t,H,I,p,O,L,J,d.reps K⟩
 ·obtain⟨a,i,d⟩:=g j;rcases d with e|⟨n,q,f,Q,rfl,e,d⟩
  ·subst e;exact c.own l x s u b i k o v C
  ·cases e;exact c.own l n _ _ b i k o v C
 ·obtain⟨a,i,d⟩:=g j;rcases d with e|⟨n,q,f,Q,rfl,e,d⟩
  ·subst e;exact c.ownm l N t b i k
  ·cases e
 ·obtain⟨a,i,d⟩:=g j;obtain⟨y,z,r⟩:=d.same;rw[y,r];exact c.ver l a i
 ·obtain⟨a,i,d⟩:=g j;obtain⟨y,z,r⟩:=d.same;rw[z,r];exact c.frzle l a i
def PO.chk(objs:List PO):PO->Bool
 |.cells a _=>PV.chks objs a
 |_=>true
def Ab(S0:ae)(j g:Nat):Bool:=match S0[j]? with
 |some (.arr _ _ _ a)=>Nat.beq g a
 |_=>false
def PO.get(S S0:ae)(j:Nat):PO->il->Option (List DV)
 |.cells f b,o=>match o with
  |.cells h a=>match !a||b with
   |true=>PV.gets S f h
   |false=>none
  |_=>none
 |.arr t b d,o=>match o with
  |.arr c i a g=>match decEq c t,(!a||b)&&(!d||Ab S0 j g) with
   |isTrue _,true=>some [⟨.sl c,i⟩]
   |_,_=>none
  |_=>none
 |.it,o=>match o with
  |.it s p=>some [⟨.str,s⟩,⟨.int .i64,p⟩]
  |_=>none
 |.dead,o=>match o with
  |.raw .dead=>some []
  |_=>none
 |.smap,o=>match o with
  |.smap e=>some [⟨.sl .str,e⟩]
  |_=>none
 |.junk,o=>match o with
  |.raw _=>none
  |_=>some []
def PO.gets(S S0:ae):Nat->List PO->List il->Option (List DV)
 |_,[],_=>some []
 |j,p::b,a=>match a with
  |o::a=>match p.get S S0 j o,PO.gets S S0 (j+1) b a with
   |some x,some y=>some (x++y)
   |_,_=>none
  |[]=>none
def PO.put(G:Nat->Nat)(j:Nat):PO->List DV->Option (il×List DV)
 |.cells c a,l=>match PV.puts G c l with
  |some (d,r)=>some (.cells d a,r)
  |none=>none
 |.arr _ a _,l=>match l with
  |⟨.sl t,e⟩::r=>some (.arr t e a (G j),r)
  |_=>none
 |.it,l=>match l with
  |⟨.str,s⟩::⟨.int .i64,p⟩::r=>some (.it s p,r)
  |_=>none
 |.dead,l=>some (.raw .dead,l)
 |.smap,l=>match l with
  |⟨.sl .str,b⟩::r=>some (.smap b,r)
  |_=>none
 |.junk,l=>some (.junk,l)
def PO.puts(G:Nat->Nat):Nat->List PO->List DV->Option (ae×List DV)
 |_,[],l=>some ([],l)
 |j,p::b,l=>match p.put G j l with
  |some (o,r)=>match PO.puts G (j+1) b r with
   |some (a,c)=>some (o::a,c)
   |none=>none
  |none=>none
def PO.get_ok{S S0:ae}{σ:Sto}{objs:List PO}{j:Nat}{p:PO}{o:il}{l:List DV}{a:aq}(h:p.get S S0 j o=some l)(P:p.chk objs=true)(c:ObR S σ o a):
 ∃y,ED a y/\y.lo objs.length=true/\(∀w v B,p=.arr w v B->∀t k d g,o=.arr t k d g->y=a)/\(∀w v,p=.arr w v true->∃t k d g,o=.arr t k d g/\Ab S0 j g=true)/\
  ∀G,∃C,(∀b,p.put G j (l++b)=some (C,b))/\(∀x m,HO G S σ objs x m->ObR x m C y)/\
  (∀w v B,p=.arr w v B->∀t k d g,o=.arr t k d g->∃f,C=.arr t k f (G j)):=by
 cases p with
 |cells T d=>
  simp only[PO.get]at h;split at h<;>try (cases h;done)
  split at h<;>try (cases h;done)
  rename_i U f _ z;obtain⟨r,n,rfl,i,c⟩:=c;obtain⟨q,L,M,O⟩:=PV.gets_ok T _ l r h P c;refine⟨.cells q n 0,.inr ⟨r,q,n,0,rfl,rfl,L⟩,M,λ_ _ _ e=>(by cases e),λ_ _ e=>(by cases e),λG=> ?_⟩;obtain⟨E,K,N⟩:=O G;refine⟨.cells E d,λb=>by simp only[PO.put,K],λx m H=>⟨q,n,rfl,λQ=>i ?_,N x m H⟩,λ_ _ _ e=>(by cases e)⟩;cases f<;>simp_all
 |arr t d X=>
  simp only[PO.get]at h;split at h<;>try (cases h;done)
  split at h<;>try (cases h;done)
  rename_i I k f g _ _ e _ z;subst e;cases h;simp only[akY]at z;obtain⟨z,R⟩:=z;obtain⟨n,u,rfl,i⟩:=c;refine⟨.cells (I.flat k) n u,.inl rfl,ae1 _ _ _,λ_ _ _ _ _ _ _ _ _=>rfl,λw v e=> ?_,λG=>⟨.arr I k d (G j),λb=>rfl,λx m H=>⟨n,u,rfl,λQ=>i ?_⟩,λ_ _ _ _ Y V J W e=>by cases e;exact⟨d,rfl⟩⟩⟩
  ·cases e;exact⟨_,_,_,_,rfl,by simpa using R⟩
  ·cases f<;>simp_all
 |it=>
  simp only[PO.get]at h;split at h<;>try (cases h;done)
  rename_i s p;cases h;exact⟨a,.inl rfl,by rw[show a=_ from c];rfl,λ_ _ _ e=>(by cases e),λ_ _ e=>(by cases e),λG=>⟨.it s p,λb=>rfl,λ_ _ _=>c,λ_ _ _ e=>(by cases e)⟩⟩
 |dead=>
  simp only[PO.get]at h;split at h<;>try (cases h;done)
  cases h;exact⟨a,.inl rfl,by rw[show a=_ from c];rfl,λ_ _ _ e=>(by cases e),λ_ _ e=>(by cases e),λG=>⟨.raw .dead,λb=>rfl,λ_ _ _=>c,λ_ _ _ e=>(by cases e)⟩⟩
 |smap=>
  simp only[PO.get]at h;split at h<;>try (cases h;done)
  rename_i F;cases h;exact⟨a,.inl rfl,by rw[show a=_ from c];exact O8 _ _,λ_ _ _ e=>(by cases e),λ_ _ e=>(by cases e),λG=>⟨.smap F,λb=>rfl,λ_ _ _=>c,λ_ _ _ e=>(by cases e)⟩⟩
 |junk=>
  simp only[PO.get]at h;split at h<;>try (cases h;done)
  rename_i A;cases h;cases o with
  |cells U d=>
   obtain⟨r,n,rfl,i,c⟩:=c;exact⟨.cells (r.map λ_=>.junk) n 0,.inr ⟨_,_,_,_,rfl,rfl,bp.junk r⟩,D.los_junk _ _,λ_ _ _ e=>(by cases e),λ_ _ e=>(by cases e),λG=>⟨.junk,λb=>rfl,λ_ _ _=>D.los_junk 0 r,λ_ _ _ e=>(by cases e)⟩⟩
  |arr t k d g=>
   obtain⟨n,u,rfl,i⟩:=c;exact⟨.cells ((t.flat k).map λ_=>.junk) n u,.inr ⟨_,_,_,_,rfl,rfl,bp.junk _⟩,D.los_junk _ _,λ_ _ _ e=>(by cases e),λ_ _ e=>(by cases e),λG=>⟨.junk,λb=>rfl,λ_ _ _=>D.los_junk 0 _,λ_ _ _ e=>(by cases e)⟩⟩
  |raw a=>exact absurd rfl (A a)
  |it s p=>exact⟨a,.inl rfl,by rw[show a=_ from c];rfl,λ_ _ _ e=>(by cases e),λ_ _ e=>(by cases e),λG=>⟨.junk,λb=>rfl,λ_ _ _=>(by rw[show a=_ from c];rfl:a.lo 0=true),λ_ _ _ e=>(by cases e)⟩⟩
  |smap F=>exact⟨a,.inl rfl,by rw[show a=_ from c];exact O8 _ _,λ_ _ _ e=>(by cases e),λ_ _ e=>(by cases e),λG=>⟨.junk,λb=>rfl,λ_ _ _=>(by rw[show a=_ from c];exact O8 _ _:a.lo 0=true),λ_ _ _ e=>(by cases e)⟩⟩
  |junk=>exact⟨a,.inl rfl,aq.lo_mono (al2 _) c,λ_ _ _ e=>(by cases e),λ_ _ e=>(by cases e),λG=>⟨.junk,λb=>rfl,λ_ _ _=>c,λ_ _ _ e=>(by cases e)⟩⟩
def PO.gets_ok{S S0:ae}{σ:Sto}{objs:List PO}:∀(j:Nat)(w:List PO)(A:List il)(B:List aq)(l:List DV),PO.gets S S0 j w A=some l->w.all (PO.chk objs)=true->(∀(k:Nat)(o:il),A[k]?=some o->∃a,B[k]?=some a/\ObR S σ o a)->
 ∃e:List aq,e.length=w.length/\(∀(k:Nat)(a a2:aq),B[k]?=some a->e[k]?=some a2->ED a a2)/\(∀a2∈e,a2.lo objs.length=true)/\
  (∀(k:Nat) c b v,w[k]?=some (.arr c b v)->∀t d f g,A[k]?=some (.arr t d f g)->e[k]?=B[k]?)/\
  (∀(k:Nat) c b,w[k]?=some (.arr c b true)->∃t d f g,A[k]?=some (.arr t d f g)/\Ab S0 (j+k) g=true)/\
 ∀G,∃n,(∀i,PO.puts G j w (l++i)=some (n,i))/\n.length=w.length/\
  (∀D q,HO G S σ objs D q->∀(k:Nat)(F:il),n[k]?=some F->∃a2,e[k]?=some a2/\ObR D q F a2)/\
  (∀(k:Nat) c b v,w[k]?=some (.arr c b v)->∀t d f g,A[k]?=some (.arr t d f g)->∃r,n[k]?=some (.arr t d r (G (j+k))))
 |j,[],A,B,l,h,I,L=>by
  simp only[PO.gets,ak1]at h;subst h;refine⟨[],rfl,?_,?_,?_,?_,λG=>⟨[],λi=>rfl,rfl,?_,?_⟩⟩
  ·intro k a a2 _ h;simp at h
  ·intro a2 h;simp at h
  ·intro k c b v h;simp at h
  ·intro k c b h;simp at h
  ·intro D q _ k F h;simp at h
  ·intro k c b v h;simp at h
 |j,p::w,A,B,l,h,I,L=>by
  simp only[PO.gets]at h;split at h<;>try (cases h;done)
  split at h<;>try (cases h;done)
  rename_i o A _ _ x y hx hy;cases h;simp only[amw,akY]at I;obtain⟨a,J,M⟩:=L 0 o rfl;cases B with
  |nil=>simp at J
  |cons a0 B=>
   simp at J;subst J;obtain⟨N,a2,P,T,U,V⟩:=PO.get_ok hx I.1 M;obtain⟨e,X,Z,b5,b8,b9,bG⟩:=PO.gets_ok (j+1) w A B y hy I.2 (λk o E=>by simpa using L (k+1) o (by simpa using E));refine⟨N::e,by simp[X],?_,?_,?_,?_,λG=> ?_⟩
   ·intro k u u2 m z;cases k with
    |zero=>simp at m z;subst m z;exact a2
    |succ k=>exact Z k u u2 (by simpa using m) (by simpa using z)
   ·intro u K;rcases alr.1 K with rfl|K
    ·exact P
    ·exact b5 u K
   ·intro k c b v s t d f g C;cases k with
    |zero=>
     simp at s C;simp[T c b v s t d f g C]
    |succ k=>simpa using b8 k c b v (by simpa using s) t d f g (by simpa using C)
   ·intro k c b s;cases k with
    |zero=>
     simp at s;obtain⟨t,d,f,g,m,z⟩:=U c b s;exact⟨t,d,f,g,by simp[m],by simpa using z⟩
    |succ k=>
     obtain⟨t,d,f,g,m,z⟩:=b9 k c b (by simpa using s);exact⟨t,d,f,g,by simpa using m,by rw[show j+(k+1)=j+1+k from omq];exact z⟩
   obtain⟨o',O,Q,R⟩:=V G;obtain⟨n,W,Y,b6,b7⟩:=bG G;refine⟨o'::n,λi=>by simp only[PO.puts,alp,O,W],by simp[Y],?_,?_⟩
   ·intro D q H k F E;cases k with
    |zero=>simp at E;subst E;exact⟨N,by simp,Q D q H⟩
    |succ k=>obtain⟨u,m,z⟩:=b6 D q H k F (by simpa using E);exact⟨u,by simpa using m,z⟩
   ·intro k c b v s t d f g C;cases k with
    |zero=>
     simp at s C;obtain⟨r,m⟩:=R c b v s t d f g C;exact⟨r,by simp[m]⟩
    |succ k=>
     obtain⟨r,m⟩:=b7 k c b v (by simpa using s) t d f g (by simpa using C);exact⟨r,by rw[show j+(k+1)=j+1+k from omq];simpa using m⟩
def Tq(S:ae)(τ:ax):List (Nat×PV)->Option (List DV)
 |[]=>some []
 |(t,p)::r=>match kT τ t with
  |some v=>match p.get S v,Tq S τ r with
   |some x,some y=>some (x++y)
   |_,_=>none
  |none=>none
def Xg(G:Nat->Nat):List (Nat×PV)->List DV->Option (ax×List DV)
 |[],l=>some ([],l)
 |(t,p)::r,l=>match p.put G l with
  |some (v,b)=>match Xg G r b with
   |some (c,a)=>some ((t,v)::c,a)
   |none=>none
  |none=>none
def Vw{S:ae}{σ:Sto}{objs:List PO}{τ:ax}{τ':Env}(n:ER S σ τ τ'):∀(m:List (Nat×PV))(l:List DV),Tq S τ m=some l->m.all (λq=>q.2.chk objs)=true->
 ∃c:Env,(∀t g,get c t=some g->∃d,get τ' t=some d/\aB d g/\D.lo objs.length g=true)/\∀G,∃f,(∀a,Xg G m (l++a)=some (f,a))/\∀i b,HO G S σ objs i b->ER i b f c
 |[],l,h,j=>by
  simp only[Tq,ak1]at h;subst h;exact⟨[],λt g h=>by simp[get]at h,λG=>⟨[],λa=>rfl,λ_ _ _ t v h=>by simp[kT]at h⟩⟩
 |(t,p)::r,l,h,j=>by
  simp only[Tq]at h;split at h<;>try (cases h;done)
  rename_i v J;split at h<;>try (cases h;done)
  rename_i x y K L;cases h;simp only[amw,akY]at j;obtain⟨d,F,k⟩:=n t v J;obtain⟨g,s,u,z⟩:=PV.get_ok p v x d K j.1 k;obtain⟨c,B,E⟩:=Vw n r y L j.2;refine⟨(t,g)::c,?_,λG=> ?_⟩
  ·intro M e h;simp only[get]at h;split at h
   ·rename_i I;subst I;cases h;exact⟨d,F,s,u⟩
   ·exact B M e h
  ·obtain⟨N,o,w⟩:=z G;obtain⟨f,A,C⟩:=E G;exact⟨(t,N)::f,λa=>by simp only[Xg,alp,o,A],λi b H=>(C i b H).push (w i b H)⟩
structure Pat where
 env:List (Nat×PV)
 objs:List PO
 deriving Inhabited
def Pat.tcs(p:Pat):List TC:=PV.tcss (p.env.map (·.2))++p.objs.flatMap PO.tcs
def Pat.get(p:Pat)(i:Nat)(S0:ae)(τ:ax)(S:ae):Option (List DV):=
 match Nat.ble i p.objs.length&&Nat.ble p.objs.length S.length&&p.env.all (λq=>q.2.chk p.objs)&&p.objs.all (PO.chk p.objs) with
 |true=>match Tq S τ p.env,PO.gets S S0 0 p.objs S with
  |some x,some y=>some (x++y)
  |_,_=>none
 |false=>none
def Pat.put(p:Pat)(G:Nat->Nat)(l:List DV):Option (ax×ae):=match Xg G p.env l with
 |some (a,r)=>match PO.puts G 0 p.objs r with
  |some (S,[])=>some (a,S)
  |_=>none
 |none=>none
def KpR(p:Pat)(S0 S:ae)(σ σ2:Sto):Prop:=∀(l:Nat) t0 f0,p.objs[l]?=some (.arr t0 f0 true)->∃t b a g,S[l]?=some (.arr t b a g)/\Ab S0 l g=true/\σ2[l]?=σ[l]?
def Pat.norm{P:Program}{i N:Nat}{p:Pat}{S0 S:ae}{σ:Sto}{τ:ax}{τ':Env}{l:List DV}(h:p.get i S0 τ S=some l)(hE:ER S σ τ τ')(T:StR S σ):
 ∃v c,XD P i N τ' σ v c/\KpR p S0 S σ c/\∀G,∃z f,p.put G l=some (z,f)/\i<=f.length/\ER f c z v/\StR f c/\(∀(j:Nat) s q,p.objs[j]?=some (.arr s q true)->∀t n r g,S[j]?=some (.arr t n r g)->∃J,f[j]?=some (.arr t n J (G j))):=by
 unfold Pat.get at h;split at h<;>try (cases h;done)
 rename_i U;simp only[akY]at U;obtain⟨⟨⟨hc1,hc2⟩,hc3⟩,hc4⟩:=U;have hc1:=alb hc1;have hc2:=alb hc2;split at h<;>try (cases h;done)
 rename_i x y hx hy;cases h;obtain⟨v,Y,aG⟩:=Vw (objs:=p.objs) hE p.env x hx hc3;obtain⟨c,E,b4,b5,R,b9,bG⟩:=PO.gets_ok 0 p.objs S σ y hy hc4 (λk o hk=>T.obj k o hk);refine⟨v,c,?_,λl s q A=> ?_,λG=> ?_⟩
 ·intro B D w a hR K;have V:c.length<=σ.length:=by rw[E,<-T.len];exact hc2
  have hW:Rel B D (c++σ.drop c.length) w:=by
   refine hR.weakAll soq λl o o2 C m=> ?_;rcases alf l c.length with O|L
   ·rw[ak8 O]at m;exact b4 l o o2 C m
   ·rw[ale L,aoc]at m;rw[show c.length+(l-c.length)=l from omq]at m;rw[C]at m;cases m;exact .inl rfl
  have M:∀ob∈c,ob.lo c.length=true:=by rw[E];exact b5
  refine⟨D.cutTo c.length,⟨λ_ _ _ x=>x,λ_ _ x=>x,λ_ _ x=>x,λl u b A hb=> ?_⟩,hW.cutTo M,K.size,K.defers,λt d hg=> ?_⟩
  ·have:l<c.length:=by rw[E];omega
   simp only[Gh.cutTo,ali this];exact hb
  ·obtain⟨d0,C,m,h3⟩:=Y t d hg;exact Rep.cutTo d _ (by rw[E];exact h3) (m _ _ (K.slot t d0 C))
 ·obtain⟨t,n,r,g,C,m⟩:=b9 l s q A;exact⟨t,n,r,g,C,by simpa using m,R l s q true A t n r g C⟩
 ·obtain⟨z,X,Z⟩:=aG G;obtain⟨f,b1,Q,b6,b7⟩:=bG G;have H:HO G S σ p.objs f c:=λl s q W A t n r g I=>⟨by simpa using b7 l s q W A t n r g I,R l s q W A t n r g I⟩;have F:=X y;have e:=b1 [];rw[alm]at e;exact⟨z,f,by simp only[Pat.put,F,e],by rw[Q];exact hc1,Z f c H,⟨by rw[E,Q],λl o A=>b6 f c H l o A⟩,λj s q hp t n r g I=>by simpa using b7 j s q true hp t n r g I⟩
end
end Go.Fw
namespace Go.Fw
noncomputable section
open Go.RowKit
mutual
def SV.can:SV->D
 |.int k n=>.int k n
 |.bool b=>.bool b
 |.str s=>.str s
 |.sl t xs f=>.list (t.flat xs) xs.length f
 |.nils=>.list [] 0 true
 |.lst cs n f=>.list (SV.cans cs) n f
 |.agg cs=>.agg (SV.cans cs)
 |.tup cs=>.tuple (SV.cans cs)
 |.func fn a b=>.func fn (SV.cans a) (SV.cans b)
 |.iface t v=>.iface t v.can
 |.rc cs o=>.rptr (SV.cans cs) o
 |.raw d=>d
 |_=>.junk
def SV.cans:List SV->List D
 |[]=>[]
 |v::vs=>v.can::SV.cans vs
end
def aB.listF{cs:List D}{n:Nat}{f g:Bool}(h:g=true->f=true):aB (.list cs n f) (.list cs n g):=by
 cases g
 ·exact aB.list
 ·rw[h rfl];exact aB.refl _
def aB.trans{a b c:D}(h:aB a b)(k:aB b c):aB a c:=λG v x=>k G v (h G v x)
mutual
def SV.can_ok{S S2:ae}{σ σ2:Sto}:∀(v:SV)(d:D),v.pure=true->VR S σ v d->aB d v.can/\VR S2 σ2 v v.can/\v.can.pure=true
 |.int _ _,_,_,x=>by simp only[VR]at x;subst x;exact⟨aB.refl _,by simp only[SV.can,VR],rfl⟩
 |.bool _,_,_,x=>by simp only[VR]at x;subst x;exact⟨aB.refl _,by simp only[SV.can,VR],rfl⟩
 |.str _,_,_,x=>by simp only[VR]at x;subst x;exact⟨aB.refl _,by simp only[SV.can,VR],rfl⟩
 |.sl t xs f,_,_,x=>by simp only[VR]at x;obtain⟨f',rfl,h⟩:=x;exact⟨aB.listF h,by simp only[SV.can,VR];exact⟨f,rfl,id⟩,t.flat_pure xs⟩
 |.nils,_,_,x=>by simp only[VR]at x;subst x;exact⟨aB.refl _,by simp only[SV.can,VR],rfl⟩
 |.lst cs n f,_,p,x=>by
  simp only[VR]at x;obtain⟨ds,f',rfl,hf,hv⟩:=x;obtain⟨h1,h2,h3⟩:=SV.cans_ok (S2:=S2) (σ2:=σ2) cs ds p hv;exact⟨(aB.listF hf).trans (aB.cellsList h1),by simp only[SV.can,VR];exact⟨_,f,rfl,id,h2⟩,h3⟩
 |.agg cs,_,p,x=>by
  simp only[VR]at x;obtain⟨ds,rfl,hv⟩:=x;obtain⟨h1,h2,h3⟩:=SV.cans_ok (S2:=S2) (σ2:=σ2) cs ds p hv;exact⟨aB.agg h1,by simp only[SV.can,VR];exact⟨_,rfl,h2⟩,h3⟩
 |.tup cs,_,p,x=>by
  simp only[VR]at x;obtain⟨ds,rfl,hv⟩:=x;obtain⟨h1,h2,h3⟩:=SV.cans_ok (S2:=S2) (σ2:=σ2) cs ds p hv;exact⟨aB.tuple h1,by simp only[SV.can,VR];exact⟨_,rfl,h2⟩,h3⟩
 |.func _ a b,_,p,x=>by
  simp only[VR]at x;simp only[SV.pure,akY]at p;obtain⟨da,db,rfl,ha,hb⟩:=x;obtain⟨a1,a2,a3⟩:=SV.cans_ok (S2:=S2) (σ2:=σ2) a da p.1 ha;obtain⟨b1,b2,b3⟩:=SV.cans_ok (S2:=S2) (σ2:=σ2) b db p.2 hb;exact⟨aB.func a1 b1,by simp only[SV.can,VR];exact⟨_,_,rfl,a2,b2⟩,by simp[SV.can,D.pure,a3,b3]⟩
 |.iface _ v,_,p,x=>by
  simp only[VR]at x;obtain⟨e,rfl,hv⟩:=x;obtain⟨h1,h2,h3⟩:=SV.can_ok (S2:=S2) (σ2:=σ2) v e p hv;exact⟨aB.iface h1,by simp only[SV.can,VR];exact⟨_,rfl,h2⟩,h3⟩
 |.own _ _,_,p,_=>by cases p
 |.ap _ _ _ _,_,p,_=>by cases p
 |.rp _ _ _,_,p,_=>by cases p
 |.rc cs o,_,p,x=>by
  simp only[VR]at x;obtain⟨ds,rfl,hv⟩:=x;obtain⟨h1,h2,h3⟩:=SV.cans_ok (S2:=S2) (σ2:=σ2) cs ds p hv;exact⟨aB.rptr h1,by simp only[SV.can,VR];exact⟨_,rfl,h2⟩,h3⟩
 |.raw e,_,p,x=>by simp only[VR]at x;subst x;exact⟨aB.refl _,by simp only[SV.can,VR],p⟩
def SV.cans_ok {S S2:ae} {σ σ2:Sto}:∀(vs:List SV)(ds:List D),SV.pures vs=true->VRs S σ vs ds->bp ds (SV.cans vs)/\VRs S2 σ2 vs (SV.cans vs)/\bo (SV.cans vs)=true
 |[],_,_,x=>by simp only[VRs]at x;subst x;exact⟨rfl,by simp only[SV.cans,VRs],rfl⟩
 |v::vs,_,p,x=>by
  simp only[VRs]at x;simp only[SV.pures,akY]at p;obtain⟨e,es,rfl,h1,h2⟩:=x;obtain⟨a1,a2,a3⟩:=SV.can_ok (S2:=S2) (σ2:=σ2) v e p.1 h1;obtain⟨b1,b2,b3⟩:=SV.cans_ok (S2:=S2) (σ2:=σ2) vs es p.2 h2;exact⟨⟨a1,b1⟩,by simp only[SV.cans,VRs];exact⟨_,_,rfl,a2,b2⟩,by simp[SV.cans,bo,a3,b3]⟩
end
structure Ctr where
 ap:List PV
 rp:PV
 fn:Tup (PV.tcss ap)->Option (Tup rp.tcs)
abbrev aZ:=List (AEx×Pat)
abbrev aZ.tcs(x:aZ):List (List TC):=x.map λp=>p.2.tcs
structure fA where
 fid:Nat
 key:Nat
 i:Nat
 head:Pat
 exits:aZ
 fn:Tup head.tcs->Option (XS exits.tcs)
structure lY where
 ap:List PV
 t:TC
 fn:Tup (PV.tcss ap)->Option (List t.Den)
structure qU where
 ap:List PV
 rps:List PV
 fn:Tup (PV.tcss ap)->Option (XS (rps.map PV.tcs))
structure Cx where
 P:Program
 T:Tys
 H:Tr TC:=.nil
 ow:Tr OH:=.nil
 C:List (FuncId×Ctr):=[]
 CO:List (FuncId×lY):=[]
 CX:List (FuncId×qU):=[]
 L:List fA:=[]
 J:Tr aZ:=.nil
def uX:Code->Nat
 |.region id _ _=>id
 |.seq a b=>match uX a with
  |65535=>uX b
  |n=>n
 |.cond _ a _=>uX a
 |.block _ b=>uX b
 |.loop b=>uX b
 |.scope b=>uX b
 |_=>65535
def CP(lr:Nat):Code->Nat
 |.region id _ _=>id
 |.seq a b=>CP (CP lr a) b
 |.cond _ a b=>Nat.add (CP (CP lr a) b) 1024
 |.block _ b=>CP lr b
 |.loop b=>CP lr b
 |.scope b=>CP lr b
 |_=>lr
def cI(k:Nat):Code->List Code
 |.loop b=>(match Nat.beq (uX b) k with|true=>[b]|false=>[])++cI k b
 |.seq a b=>cI k a++cI k b
 |.cond _ a b=>cI k a++cI k b
 |.block _ b=>cI k b
 |.scope b=>cI k b
 |_=>[]
def wW(T:Tys)(τ:ax)(c:Call):Option (FuncId×List SV):=
 match c.callee with
 |.value x=>match sev τ x,Ds τ c.args.toList with
  |some (.func (.func f) a b),some d=>some (f,a++d++b)
  |_,_=>none
 |.invoke x name=>match sev τ x,Ds τ c.args.toList with
  |some (.iface t v),some d=>match lkM T.meth t name with
   |some f=>some (f,v::d)
   |none=>none
  |_,_=>none
 |_=>none
def zJ{T:Tys}{S:ae}{σ:Sto}{τ:ax}{τ':Env}(k:ER S σ τ τ'){c:Call}{f:FuncId}{vs:List SV}(h:wW T τ c=some (f,vs)):∃i,lI T τ' c=some (f,i)/\VRs S σ vs i:=by
 unfold wW at h;unfold lI;cases p:c.callee<;>rw[p]at h<;>simp only at h
 case value x=>
  split at h<;>try (cases h;done)
  rename_i u a b s q g;cases h;obtain⟨d,l,j⟩:=eZ k q;obtain⟨i,m,n⟩:=wX k g;simp only[VR]at j;obtain⟨B,C,rfl,w,y⟩:=j;exact⟨_,by simp only[l,m],(w.append n).append y⟩
 case invoke x name=>
  split at h<;>try (cases h;done)
  rename_i t v s q g;split at h<;>try (cases h;done)
  rename_i u z;cases h;obtain⟨d,l,j⟩:=eZ k q;obtain⟨i,m,n⟩:=wX k g;simp only[VR]at j;obtain⟨e,rfl,A⟩:=j;exact⟨e::i,by simp only[l,m,z],by simp only[VRs];exact⟨e,i,rfl,A,n⟩⟩
 case builtin=>cases h
def pK{P:Program}{T:Tys}{N:Nat}{o:Oper}{τ:Env}{σ l:Sto}(m:TOk T P){c:Call}{f:FuncId}{ds i:List D}{K:D->Sto->Prop}(H:o.op=.call c)(C:lI T τ c=some (f,ds))
 (I:qW P σ l ds i)(E:fI P f)(h:tD P f i l K):AOp P N o τ σ K:=by
 intro B G w a z A next Q F
 obtain⟨g,j,b⟩:=CL m (w:=w) (ty:=o.type) A C;rw[Bu E]at b;obtain⟨s,J,p,L⟩:=I B G w g z j;have k:(execOp a.eval o).run P w=.ok (.enter f g.toArray) w:=by
  unfold execOp;rw[H];exact b
 unfold Oper.wp;rw[k,Oper.upon_enter];refine(h B s w _ p L).mono ?_;rintro e M ⟨v,q,d,n,rfl,t,u,x,y⟩;exact F v M q d n (J.trans (t.le p)) u x y
def qW.weak{P:Program}{σ:Sto}{ds es:List D}(h:bp ds es):qW P σ σ ds es:=λ_ G _ _ a b=>⟨G,.refl G,a,h.reps b⟩
def qW.trans{P:Program}{σ a σ2:Sto}{d e f:List D}(h:qW P σ a d e)(k:qW P a σ2 e f):qW P σ σ2 d f:=λB G w v j l=>by
 obtain⟨b,m,g,p⟩:=h B G w v j l;obtain⟨c,n,i,q⟩:=k B b w v g p;exact⟨c,m.trans n,i,q⟩
def cD(P:Program)(f:FuncId)(c:Ctr):Prop:=fI P f/\PV.chks [] c.ap=true/\PV.chk [] c.rp=true/\
 ∀x y,c.fn x=some y->∃v,c.rp.put (λ_=>0) (eH _ y)=some (v,[])/\(∀S σ,VR S σ v v.can)/\∀b,PV.puts (λ_=>0) c.ap (eH _ x)=some (b,[])->∀a,VRs [] [] b a->cq P f a v.can
def Ro(P:Program)(f:FuncId)(ds cs:List D)(n sz:Nat):Prop:=∀σ:Sto,tD P f ds σ λd s=>d=.sl σ.length cs.length 0 n sz false/\s=σ++[.cells cs 0 cs.length]
def I8{P:Program}{f:FuncId}{ds cs:List D}{n sz:Nat}(hp:bo ds=true)(Y:bo cs=true)(h:qX 0 P f ds [] λd s=>∃l u,d=.sl l u 0 n sz false/\s[l]?=some (.cells cs 0 u)):Ro P f ds cs n sz:=by
 intro σ B G w I k hv;let B0:bE P:=⟨w,G,k.glob,λb o v h=>ed (k.imm b o v h),λb es h=>bB (k.mimm b es h).1⟩;have W:Rel B0 G.strip [] w:=by
  refine⟨amh _ _,k.imm,k.mimm,k.siz,?_,?_,?_,?_,?_,?_,?_,λ_ _ _=>rfl,λ_ _=>rfl⟩
  ·intro l u b a;cases a
  ·intro l u j y b a;cases a
  ·intro l E b i;simp at i
  ·intro l cs j3 u b i;simp at i
  ·intro l ks vs b i;simp at i
  ·intro l E i;simp at i
  ·intro l E i;simp at i
 refine(h B0 G.strip w I W (af.pure (G:=G) (G':=G.strip) (λ_ _ _ x=>x) (λ_ _ x=>x) ds I hp hv)).mono ?_;rintro e w' ⟨v,F,d',j5,rfl,L,z,U,l,u,rfl,hl⟩;let J:Gh:={F with blk:=λj y=>if j<σ.length then G.blk j y else if j=σ.length/\y=cs.length then F.blk l u else none};have M:G.Le J:=⟨L.imm,L.mimm,λj y b a=>by simp only[J,ali (k.blk _ _ _ a).1];exact a,L.siz⟩;have p:∀{j y b:Nat},J.blk j y=some b->(j<σ.length/\G.blk j y=some b)∨((j=σ.length/\y=cs.length)/\F.blk l u=some b):=by
  intro j y b a;simp only[J]at a;split at a
  ·exact .inl ⟨by assumption,a⟩
  ·split at a
   ·exact .inr ⟨by assumption,a⟩
   ·cases a
 have t:∀{j y b:Nat},G.blk j y=some b->b<w.heap.size:=λh=>(k.blk _ _ _ h).2.2;have C:∀{b:Nat},F.blk l u=some b->w.heap.size<=b/\b<w'.heap.size:=λh=>(z.blk _ _ _ h).2;have j4:w.heap.size<=w'.heap.size:=z.below.size;have m:∀{j:Nat}{E:aq},(σ++[aq.cells cs 0 cs.length])[j]?=some E->j<σ.length->σ[j]?=some E:=λh X=>by rw[ak8 X]at h;exact h
 have q:∀{E:aq},(σ++[aq.cells cs 0 cs.length])[σ.length]?=some E->E=.cells cs 0 cs.length:=λh=>by simp at h;exact h.symm
 have H:∀b o,b<w.heap.size->F.imm b o=G.imm b o:=λb o a=>z.bimm b o a;have A:∀b,b<w.heap.size->F.mimm b=G.mimm b:=λb a=>z.bmimm b a;refine⟨v,J,.sl σ.length cs.length 0 n sz false,σ++[.cells cs 0 cs.length],rfl,M.b,?_,?_,rfl,rfl⟩
 ·refine⟨k.below.trans (z.below.mono k.below.size),z.imm,z.mimm,z.siz,?_,?_,?_,?_,?_,?_,?_,?_,?_⟩
  ·intro j y b a;rcases p a with⟨c,g⟩|⟨c,g⟩
   ·have:=k.blk _ _ _ g;exact⟨by simp;omega,this.2.1,omq⟩
   ·have:=C g;exact⟨by simp;omega,by have:=k.below.size;omega,this.2⟩
  ·intro l1 u1 l2 u2 b c g;rcases p c with⟨a1,Q⟩|⟨a1,Q⟩<;>rcases p g with⟨c1,R⟩|⟨c1,R⟩
   ·exact k.inj _ _ _ _ _ Q R
   ·have:=t Q;have:=C R;omega
   ·have:=t R;have:=C Q;omega
   ·omega
  ·intro j E b i a;rcases p a with⟨c,g⟩|⟨c,g⟩
   ·exact(k.obj _ _ _ (m i c) g).keep M (z.below.block b (t g))
   ·obtain⟨c,O⟩:=c;subst c;have:=q i;subst this;obtain⟨vs,et,o1,o2,tl,hd,o3,o4⟩:=z.obj _ _ _ hl g;exact⟨vs,et,o1,o2,tl,hd,o3,af.pure (G:=F) (G':=J) (λ_ _ _ x=>x) (λ_ _ x=>x) cs hd Y o4⟩
  ·intro j e9 f' y b i a o x hi;rcases p a with⟨c,g⟩|⟨c,g⟩
   ·exact k.own _ _ _ _ _ (m i c) g o x (by rw[<-H b o (t g)];exact hi)
   ·obtain⟨c,O⟩:=c;subst c;have:=q i;cases this;exact z.own _ _ _ _ _ hl g o x hi
  ·intro j ks vs b i a;rcases p a with⟨c,g⟩|⟨c,g⟩
   ·have:=k.ownm _ _ _ _ (m i c) g;show F.mimm b=none;rw[A b (t g)];exact this
   ·obtain⟨c,O⟩:=c;subst c;have:=q i;cases this
  ·intro j E i;rcases alf j σ.length with c|c
   ·refine⟨(k.ver _ _ (m i c)).1,λy b a=> ?_⟩;rcases p a with⟨_,g⟩|⟨g,_⟩
    ·exact(k.ver _ _ (m i c)).2 _ _ g
    ·omega
   ·have g:j=σ.length:=by
     have:=aj i;simp at this;omega
    subst g;have:=q i;subst this;refine⟨ak7 _,λy b a=> ?_⟩;rcases p a with⟨g,_⟩|⟨⟨_,rfl⟩,_⟩
    ·omega
    ·exact ak7 _
  ·intro j E i;rcases alf j σ.length with c|c
   ·exact k.frzle _ _ (m i c)
   ·have g:j=σ.length:=by
     have:=aj i;simp at this;omega
    subst g;have:=q i;subst this;exact al2 _
  ·intro b o a;show F.imm b o=_;rw[H b o (alO a k.below.size)];exact k.bimm b o a
  ·intro b a;show F.mimm b=_;rw[A b (alO a k.below.size)];exact k.bmimm b a
 ·simp only[Rep]at U⊢;rcases U with⟨b,V,Z,c,g,h3,h4,h5,h6,h7⟩|U
  ·exact .inl ⟨b,V,Z,by simp only[J,ama,alV,and_self,al1];exact c,g,h3,h4,h5,h6,h7⟩
  ·exact .inr U
def pL(P:Program)(f:FuncId)(c:lY):Prop:=fI P f/\PV.chks [] c.ap=true/\
 ∀x y,c.fn x=some y->∀b,PV.puts (λ_=>0) c.ap (eH _ x)=some (b,[])->∀a,VRs [] [] b a->Ro P f a (c.t.flat y) y.length c.t.sz
def JU{α:Type}(f:FuncId)(S:ae)(vs:List SV)(K:SV->ae->Option α):List (FuncId×lY)->Option α
 |[]=>none
 |(g,c)::r=>match Nat.beq g f with
  |false=>JU f S vs K r
  |true=>match (zN S vs).bind λp=>((PV.gets p.2 c.ap p.1).bind (kK _)).bind λx=>some (x,p.2) with
   |some q=>(c.fn q.1).bind λy=>K (.own q.2.length 0) (q.2++[.arr c.t y false 0])
   |none=>JU f S vs K r
def xX(P:Program)(f:FuncId)(c:qU):Prop:=fI P f/\PV.chks [] c.ap=true/\
 ∀x y,c.fn x=some y->∃m b l v,c.rps[m]?=some b/\(∀(α:Type)(F:Nat->List DV->Option α),zO _ y F=F m l)/\b.put (λ_=>0) l=some (v,[])/\(∀S σ,VR S σ v v.can)/\
  ∀d,PV.puts (λ_=>0) c.ap (eH _ x)=some (d,[])->∀a,VRs [] [] d a->cq P f a v.can
def NJ{α:Type}(f:FuncId)(S:ae)(vs:List SV)(K:SV->ae->Option α)(a:Option α):List (FuncId×qU)->Option α
 |[]=>a
 |(g,c)::r=>match Nat.beq g f with
  |false=>NJ f S vs K a r
  |true=>match (zN S vs).bind λp=>((PV.gets p.2 c.ap p.1).bind (kK _)).bind λx=>some (x,p.2) with
   |some q=>(c.fn q.1).bind λy=>zO _ y λm l=>(c.rps[m]?).bind λb=>(b.put (λ_=>0) l).bind λw=>K w.1 q.2
   |none=>NJ f S vs K a r
def Ts{α:Type}(f:FuncId)(S:ae)(vs:List SV)(K:SV->ae->Option α)(a:Option α):List (FuncId×Ctr)->Option α
 |[]=>a
 |(g,c)::r=>match Nat.beq g f with
  |false=>Ts f S vs K a r
  |true=>match (zN S vs).bind λp=>((PV.gets p.2 c.ap p.1).bind (kK _)).bind λx=>some (x,p.2) with
   |some q=>(c.fn q.1).bind λy=>(c.rp.put (λ_=>0) (eH _ y)).bind λw=>K w.1 q.2
   |none=>Ts f S vs K a r
section
variable {α:Type}{P:Program}{T:Tys}{N:Nat}{o:Oper}{S:ae}{σ:Sto}{τ:ax}{τ' :Env}{K:SV→ae→Option α}{r:α}
def EE(G:Nat->Nat)(S:ae)(σ:Sto)(S2:ae)(σ2:Sto):HO G S σ [] S2 σ2:=λl _ _ _ h=>by simp at h
variable{Z:Call}
def O9(tok:TOk T P){f:FuncId}{vs:List SV}{ds:List D}{J:Option α}(A:o.op=.call Z)(n:lI T τ' Z=some (f,ds))(m:StR S σ)(B:VRs S σ vs ds)(e:J=some r->GOk P N o S σ τ' K r):
 ∀(C:List (FuncId×Ctr)),(∀g c,(g,c)∈C->cD P g c)->Ts f S vs K J C=some r->GOk P N o S σ τ' K r
 |[],_,h=>e h
 |(g,c)::C,a,h=>by
  simp only[Ts]at h;split at h
  ·exact O9 tok A n m B e C (λg c z=>a g c (alj _ z)) h
  ·rename_i u;have u:=bq u;subst u;split at h
   ·rename_i q hq;obtain⟨p,hp,R⟩:=am hq;obtain⟨x,hx,U⟩:=am R;obtain⟨l,hl,V⟩:=am hx;cases U;obtain⟨y,hy,W⟩:=am h;obtain⟨w,I,X⟩:=am W;obtain⟨hf,t,e9,a⟩:=a g c (alG ..);obtain⟨v,E,F,a⟩:=a x y hy;obtain⟨k,H,L,M,O,Q⟩:=xb vs hp m B;have b:=io _ V;obtain⟨j,k2,k3,kG⟩:=PV.gets_ok (objs:=[]) _ _ l k hl t L;obtain⟨G,i,k4⟩:=kG λ_=>0;have i:=i [];rw[alm,<-b]at i;have Y:=a G i j (k4 [] [] (EE _ _ _ _ _));rw[E]at I;cases I;refine(pK tok A n (Q.trans (qW.weak k2)) hf (Y.acall H)).mono ?_;rintro d s ⟨rfl,rfl⟩;exact⟨v,p.2,X,F _ _,M,O⟩
   ·exact O9 tok A n m B e C (λg c z=>a g c (alj _ z)) h
def Md(tok:TOk T P){f:FuncId}{vs:List SV}{ds:List D}(A:o.op=.call Z)(n:lI T τ' Z=some (f,ds))(m:StR S σ)(B:VRs S σ vs ds):
 ∀(C:List (FuncId×lY)),(∀g c,(g,c)∈C->pL P g c)->JU f S vs K C=some r->GOk P N o S σ τ' K r
 |[],_,h=>by simp[JU]at h
 |(g,c)::C,a,h=>by
  simp only[JU]at h;split at h
  ·exact Md tok A n m B C (λg c z=>a g c (alj _ z)) h
  ·rename_i w;have w:=bq w;subst w;split at h
   ·rename_i q W;obtain⟨p,V,J⟩:=am W;obtain⟨x,X,L⟩:=am J;obtain⟨l,U,M⟩:=am X;cases L;obtain⟨y,Y,O⟩:=am h;obtain⟨R,v,a⟩:=a g c (alG ..);have a:=a x y Y;obtain⟨k,F,G,e,H,I⟩:=xb vs V m B;have b:=io _ M;obtain⟨j,k2,k3,kG⟩:=PV.gets_ok (objs:=[]) _ _ l k U v G;obtain⟨E,i,k4⟩:=kG λ_=>0;have i:=i [];rw[alm,<-b]at i;have Q:=a E i j (k4 [] [] (EE _ _ _ _ _));refine(pK tok A n (I.trans (qW.weak k2)) R (Q F)).mono ?_;rintro d s ⟨rfl,rfl⟩;refine⟨_,_,O,?_,e.push ⟨0,_,rfl,λ_=>rfl⟩,H.trans (aK.push e.len _ _)⟩;simp only[VR];exact .mk (t:=c.t) (xs:=y) (fz:=false) (fr:=0) (u:=(c.t.flat y).length) siq (by rw[e.len];simp) (by rw[e.len])
   ·exact Md tok A n m B C (λg c z=>a g c (alj _ z)) h
def Me(tok:TOk T P){f:FuncId}{vs:List SV}{ds:List D}{M:Option α}(E:o.op=.call Z)(u:lI T τ' Z=some (f,ds))(t:StR S σ)(F:VRs S σ vs ds)(e:M=some r->GOk P N o S σ τ' K r):
 ∀(C:List (FuncId×qU)),(∀g c,(g,c)∈C->xX P g c)->NJ f S vs K M C=some r->GOk P N o S σ τ' K r
 |[],_,h=>e h
 |(g,c)::C,a,h=>by
  simp only[NJ]at h;split at h
  ·exact Me tok E u t F e C (λg c B=>a g c (alj _ B)) h
  ·rename_i A;have A:=bq A;subst A;split at h
   ·rename_i q hq;obtain⟨p,hp,Y⟩:=am hq;obtain⟨x,hx,h2⟩:=am Y;obtain⟨l,hl,h3⟩:=am hx;cases h2;obtain⟨y,hy,i⟩:=am h;obtain⟨hf,z,a⟩:=a g c (alG ..);obtain⟨m,rp,lr,v,V,W,X,G,a⟩:=a x y hy;rw[W]at i;obtain⟨e9,J,i⟩:=am i;rw[V]at J;cases J;obtain⟨w,L,h5⟩:=am i;rw[X]at L;cases L;obtain⟨n,I,O,Q,R,U⟩:=xb vs hp t F;have b:=io _ h3;obtain⟨k,k2,k3,kG⟩:=PV.gets_ok (objs:=[]) _ _ l n hl z O;obtain⟨H,j,k4⟩:=kG λ_=>0;have j:=j [];rw[alm,<-b]at j;have hP:=a H j k (k4 [] [] (EE _ _ _ _ _));refine(pK tok E u (U.trans (qW.weak k2)) hf (hP.acall I)).mono ?_;rintro d s ⟨rfl,rfl⟩;exact⟨v,p.2,h5,G _ _,Q,R⟩
   ·exact Me tok E u t F e C (λg c B=>a g c (alj _ B)) h
end
end
end Go.Fw
def ak5:=@cond_false
def amC:=@List.take_length
namespace Go.Fw
noncomputable section
open Go.RowKit
def Qi(a:Nat->Option (Nat×Nat)):∀{c:List (Nat×D)}{cells b:List D},mu a cells c=some b->b.length=cells.length
 |[],cells,b,h=>by simp only[mu,ak1]at h;subst h;rfl
 |(i,d)::r,cells,b,h=>by
  simp only[mu]at h;split at h<;>try (cases h;done)
  split at h<;>try (cases h;done)
  rename_i e;rw[Qi a h];simp only[ak2,alB,al0];omega
section
variable {P:Program}{B:bE P}{G:Gh}{σ:Sto}{w:World}
variable{Z:Array (Nat×Operand)}{Y:List (Nat×D)}{X:SV}
def U5(W:Rel B G σ w){t:TypeId}{z:List D}{sz:Nat}(h:IV P t=some (z,sz)){len:Nat}(J:len*sz<=16777216){a:List D}
 (I:mu (λi=>some (i*sz,sz)) (ie z len) Y=some a){pv:Array (Nat×Value)}(hl:Y.length=pv.size)(hp:∀(j i:Nat)(d:D),Y[j]?=some (i,d)->∃v,pv[j]?=some (i,v)/\Rep G d v):
 ∃u L c,(Instr.buildSlice t len pv).run P w=.ok u L/\G.Le c/\Rel B c (σ++[.cells a 0 0]) L/\Rep c (.sl σ.length 0 0 len sz false) u:=by
 unfold IV at h;split at h<;>try (cases h;done)
 rename_i e hu;split at h<;>try (cases h;done)
 rename_i z' i hz x;split at h<;>try (cases h;done)
 rename_i X;obtain⟨n,l⟩:=X;simp only[ak1,aln]at h;obtain⟨rfl,rfl⟩:=h;obtain⟨i',v,k,hv,q⟩:=lD hz;rw[x]at k;cases k;have C:=mY G q;have g:=LV C len;rw[n]at g;obtain⟨E,y,m⟩:=JN (G:=G) _ Y _ a _ pv.toList I g (by simpa using hl) (λj i d Z=>by obtain⟨v,U,V⟩:=hp j i d Z;exact⟨v,by simpa using U,V⟩);obtain⟨c,M,O,Q,R⟩:=CF W m [] e E siq;have A:=m.length;have s:=Qi _ I;rw[Do,n]at s;refine⟨.slice (some ⟨w.heap.size,0,none⟩) len len,w.alloc (.cells E e),c,?_,M,O,?_⟩
 ·unfold Instr.buildSlice;have p:¬(len*i.size>2 ^ 24):=omq;simp only[ald hu,alh,ak9,sizeOf,typeInfo,amq,x,als,p,alV];by_cases H:len*i.size=0
  ·have b:len=0:=by
    rcases aoE.1 H with h|h<;>omega
   subst b;have F:∀f:Nat->Value,Array.map f (Array.range 0)= #[]:=by intro f;simp
   simp only[amZ,F]at y;simp only[amZ,al1,alh,als,ak9,F,y];simp only[newRow,alh,anI,ak9,als];rfl
  ·simp only[H,alV,alh,zeroValue,typeInfo,amq,ak9,x,als,hv];rw[y];simp only[newRow,alh,anI,ak9,als];rfl
 ·simp only[Rep];refine .inl ⟨w.heap.size,len,_,Q,rfl,ak7 _,?_,λh=>(by simp at h),R,?_⟩
  ·have:len<=len*i.size:=aog _ l;omega
  ·have:E.size=a.length:=by rw[A];simp
   omega
def Tt{σ:Sto}(g:Rel B G σ w){l o fr:Nat}{cs:List D}{v:Value}(i:σ[l]?=some (.cells cs fr 0))(I:cs.length<=1000)(j:Rep G (.ptr l 0 o) v):
 ∃c,G.Le c/\Rel B c (σ.set l (.cells cs cs.length 0)) w/\Rep c (.rptr cs o) v:=by
 simp only[Rep]at j;obtain⟨b,d,rfl⟩:=j;obtain⟨k,H,L,z,E,t,A,C⟩:=g.obj _ _ b i d;have u:=C.length;have y:k.size=t.length+E.length:=by
  have:=alD List.length A;simpa using this
 have x:Rep G (.sl l 0 0 cs.length 1 false) (.slice (some ⟨b,0,none⟩) cs.length cs.length):=by
  simp only[Rep];exact .inl ⟨b,cs.length,k.size,d,rfl,ak7 _,omq,λh=>(by simp at h),z,omq⟩
 obtain⟨c,n,p,f⟩:=B5 g i omq x;refine⟨c,n,p,?_⟩;simp only[ao5,alR,amC,Rep]at f⊢;obtain⟨a,m,e,_,_,_,q⟩:=f;cases e;rcases q with⟨F,J,e,s⟩|rfl
 ·cases e;exact⟨b,0,by rw[alS],s⟩
 ·exact⟨b,0,by rw[alS],by simp only[Cells]⟩
end
variable{Z:Array (Nat×Operand)}{Y:List (Nat×D)}{X:SV}
def AOp.buildOwn{P:Program}{T:Tys}(tok:TOk T P){N:Nat}{o:Oper}{τ:Env}{σ:Sto}{t:TypeId}{len sz:Nat}{z c:List D}(k:o.op=.buildSlice t len Z)(E:lk T.bs t=some (z,sz))(L:evp τ Z.toList=some Y)
 (g:len*sz<=16777216)(F:mu (λi=>some (i*sz,sz)) (ie z len) Y=some c):AOp P N o τ σ λd s=>d=.sl σ.length 0 0 len sz false/\s=σ++[.cells c 0 0]:=by
 intro B G w a A C next Q J
 obtain⟨I,h⟩:=MH C L;obtain⟨u,l,m,b,p,q,y⟩:=U5 A (fU tok.bs E) g F (pv:=Z.map λ(i,x)=>(i,a.eval x)) (by simpa using I) (λj i d H=>by
  obtain⟨v,O,M⟩:=h j i d H;exact⟨v,by simpa using O,M⟩)
 have f:(execOp a.eval o).run P w=.ok (.value u) l:=by
  obtain⟨n,U,V,R,e,guard⟩:=o;simp only at k;subst k;unfold execOp;simp only[alh,b,ak9,als]
 unfold Oper.wp;rw[f];exact J u l m _ _ p q y ⟨rfl,rfl⟩
def Tu(s:Bs)(c:Int):Int:=(⟨s.toArray⟩:ByteArray).foldl (λ(n:Int) x=>if x==c.toNat.toUInt8 then n+1 else n) ((0:Nat):Int)
def Mf(s:Bs)(c:Int):Int:=match (List.range (⟨s.toArray⟩:ByteArray).size).find? λi=>(⟨s.toArray⟩:ByteArray)[i]! ==c.toNat.toUInt8 with
 |some i=>i
 |none=> -1
def JV{α:Type}(k:ExK)(vs:List SV)(K:SV->Option α):Option α:=match vs with
 |[.str s,.int .u8 c]=>(match k with
  |.count=>K (.int .i64 (Tu s c))
  |.indexByte=>K (.int .i64 (Mf s c)))
 |_=>none
def Mg{α:Type}{P:Program}{T:Tys}{N:Nat}{o:Oper}{S:ae}{σ:Sto}{τ':Env}{r:α}(tok:TOk T P){a:Call}{f:FuncId}{k:ExK}{vs:List SV}{ds:List D}{K:SV->Option α}(i:o.op=.call a)(b:lI T τ' a=some (f,ds))
 (g:lk T.ext f=some k)(j:VRs S σ vs ds)(h:JV k vs K=some r):∃v d,K v=some r/\VR S σ v d/\∀s,AOp P N o τ' s λl m=>l=d/\m=s:=by
 unfold JV at h;split at h<;>try (cases h;done)
 rename_i s c;simp only[VRs,VR]at j;obtain⟨_,_,rfl,rfl,_,_,rfl,rfl,rfl⟩:=j;cases k
 ·exact⟨_,.int .i64 (Tu s c),h,by simp only[VR],λ_=>JR tok i b g rfl⟩
 ·refine⟨_,.int .i64 (Mf s c),h,by simp only[VR],λ_=>JR tok i b g ?_⟩;unfold O3 Mf;simp only;split
  ·rename_i e;rw[e]
  ·rename_i e;rw[e]
section
variable {α:Type}{P:Program}{T:Tys}{N:Nat}{o:Oper}{S:ae}{σ:Sto}{τ:ax}{τ' :Env}{K:SV→ae→Option α}{r:α}
def I9(T:Tys)(τ:ax)(S:ae)(t:TypeId)(len:Nat)(e:List (Nat×Operand))(c:TC)(K:SV->ae->Option α):Option α:=
 (lk T.bs t).bind λb=>(Mn τ e).bind λf=>cond (Nat.ble (len*b.2) 16777216&&Nat.beq b.2 c.sz) ((Gm S (λi=>some (i*b.2,b.2)) (TL (ky b.1) len) f).bind λd=>
   c.takes len d λg a=>match a with
    |[]=>K (.own S.length 0) (S++[.arr c g false 0])
    |_=>none) none
def Tv(tok:TOk T P)(e:StR S σ)(A:ER S σ τ τ'){t:TypeId}{len:Nat}{f:TC}(E:o.op=.buildSlice t len Z)(h:I9 T τ S t len Z.toList f K=some r):GOk P N o S σ τ' K r:=by
 unfold I9 at h;obtain⟨b,C,m⟩:=am h;obtain⟨V,l,n⟩:=am m;clear h m;rcases aR n with⟨i,c⟩|⟨_,c⟩<;>try (cases c;done)
 clear n;simp only[akY]at i;have a:=alb i.1;have v:=bq i.2;obtain⟨z,U⟩:=b;simp only at v a;obtain⟨M,j,p⟩:=am c;clear c;obtain⟨R,I,J⟩:=J1 A l;obtain⟨Q,x,L⟩:=Gn j (Ph (jl S σ z) len) J;obtain⟨xs,y,O,d2,g,rfl,H,q,D⟩:=TC.takes_ok f _ _ _ _ _ p L;clear p;split at g<;>try (cases g;done)
 simp only[VRs]at q;subst q;rw[alm]at x;have k:=(AOp.buildOwn (N:=N) (σ:=σ) tok E C I a x).weakPush H;refine k.mono ?_;rintro d s ⟨rfl,rfl⟩;have F:=aK.push e.len (.arr f xs false 0) (.cells (f.flat xs) 0 0);refine⟨_,_,g,?_,e.push ⟨0,0,rfl,λ_=>rfl⟩,F⟩;subst v D;simp only[VR];exact .mk (xs:=xs) (fz:=false) (fr:=0) (u:=0) siq (by simp[e.len]) (by simp[e.len])
def Ja(S:ae)(v:SV):SV×ae:=match v with
 |.raw d=>match d with
  |.ptr l u o=>match S[l]? with
   |some (.cells a _)=>match Nat.beq u 0&&Nat.ble a.length 1000 with
    |true=>(.rc a o,S.set l (.cells a true))
    |false=>(v,S)
   |_=>(v,S)
  |_=>(v,S)
 |_=>(v,S)
def zK(S:ae):List SV->List SV×ae
 |[]=>([],S)
 |v::a=>((Ja S v).1::(zK (Ja S v).2 a).1,(zK (Ja S v).2 a).2)
def ae2{v:SV}{d:D}(f:StR S σ)(i:VR S σ v d):∃m c,VR (Ja S v).2 c (Ja S v).1 m/\StR (Ja S v).2 c/\aK S σ (Ja S v).2 c/\Gho P σ c d m:=by
 unfold Ja;split
 ·split
  ·split
   ·rename_i l u o _ p C k;split
    ·rename_i j;simp only[akY]at j;have y:=bq j.1;have j:=alb j.2;subst y;simp only[VR]at i;subst i;obtain⟨a,s,e,A,rfl,t,g⟩:=f.obj _ _ k;have n:=g.length;have b:aK S σ (S.set l (.cells p true)) (σ.set l (.cells e e.length 0)):=aK.setCells f k;refine⟨.rptr e o,σ.set l (.cells e e.length 0),by simp only[VR];exact⟨e,rfl,VRs.pres b _ _ g⟩,f.set k b ⟨e,_,rfl,λh=>(by simp at h),VRs.pres b _ _ g⟩,b,?_⟩;intro B G w x q z;exact Tt q s omq z
    ·exact⟨d,σ,i,f,.refl _ _,.refl _ _⟩
   ·exact⟨d,σ,i,f,.refl _ _,.refl _ _⟩
  ·exact⟨d,σ,i,f,.refl _ _,.refl _ _⟩
 ·exact⟨d,σ,i,f,.refl _ _,.refl _ _⟩
def Tw:∀{vs:List SV}{S:ae}{σ:Sto}{ds:List D},StR S σ->VRs S σ vs ds->∃a b,VRs (zK S vs).2 b (zK S vs).1 a/\StR (zK S vs).2 b/\aK S σ (zK S vs).2 b/\qW P σ b ds a
 |[],S,σ,ds,hS,d=>⟨ds,σ,d,hS,.refl _ _,λ_ G _ _ f c=>⟨G,.refl G,f,c⟩⟩
 |v::vs,S,σ,ds,hS,d=>by
  simp only[VRs]at d;obtain⟨e,O,rfl,F,H⟩:=d;obtain⟨k,M,u,y,i,z⟩:=ae2 hS F;obtain⟨a,h,A,C,j,E⟩:=Tw y (VRs.pres i _ _ H);refine⟨k::a,h,by simp only[zK,VRs];exact⟨k,a,rfl,VR.pres j _ _ u,A⟩,C,i.trans j,?_⟩;intro B G w Q f c;simp only[af]at c;obtain⟨x,n,rfl,I,g⟩:=c;obtain⟨p,l,s,J⟩:=z B G w x f I;obtain⟨q,m,t,L⟩:=E B p w n s (af.mono l _ _ g);exact⟨q,l.trans m,t,by simp only[af];exact⟨x,n,rfl,Rep.mono m _ _ J,L⟩⟩
def ab4(h:Option OH)(v:SV)(S:ae)(K:SV->ae->Option α):Option α:=match h with
 |none=>K v S
 |some (.val j)=>match v with
  |.nils=>K (.own S.length 0) (S++[.arr j [] false 0])
  |v=>K v S
 |some (.cells l)=>match v with
  |.raw d=>match d with
   |.ptr i u o=>Gs i l S λc=>K (.raw (.ptr i u o)) c
   |_=>none
  |_=>none
 |some (.build _)=>K v S
 |some .res=>K v S
 |some .frzv=>(lZ S v).bind λw=>K w.1 w.2
 |some (.agg l)=>match v with
  |.agg f=>NV l f S λe c=>K (.agg e) c
  |_=>none
 |some .frz=>match v with
  |.func g a b=>K (.func g a (zK S b).1) (zK S b).2
  |_=>none
def ae3{h:Option OH}(X:GOk P N o S σ τ' (λv S=>ab4 h v S K) r):GOk P N o S σ τ' K r:=by
 refine AOp.ghost X ?_;rintro d s ⟨v,S',e,j,q,t⟩;have g:K v S'=some r->∃I L,Post S σ K r I L/\Gho P s L d I:=λe=>⟨d,s,⟨v,S',e,j,q,t⟩,.refl _ _⟩;unfold ab4 at e;split at e<;>simp only at e
 ·exact g e
 ·split at e
  ·rename_i tc _;obtain⟨n1,n2,n3⟩:=J9 q tc;simp only[VR]at j;subst j;exact⟨_,_,⟨_,_,e,n3,n1,t.trans n2⟩,λB G w x z k=>⟨G,.refl G,z.newObj,Ew k⟩⟩
  ·exact g e
 ·split at e<;>try (cases e;done)
  split at e<;>try (cases e;done)
  obtain⟨E,i,m,n,l,p⟩:=Lm e q;exact⟨d,i,⟨_,E,m,VR.pres l _ _ j,n,t.trans l⟩,(p d).2⟩
 ·exact g e
 ·exact g e
 ·obtain⟨w,Z,e⟩:=am e;obtain⟨O,H,m,n,l,p⟩:=EO (P:=P) _ (v':=w.1) (S':=w.2) Z q j;exact⟨O,H,⟨w.1,w.2,e,m,n,t.trans l⟩,p⟩
 ·split at e<;>try (cases e;done)
  simp only[VR]at j;obtain⟨ds,rfl,Y⟩:=j;obtain⟨M,y,E,i,m,n,l,p,k5⟩:=Qt (P:=P) e q Y;refine⟨.agg y,i,⟨_,E,m,by simp only[VR];exact⟨y,rfl,p⟩,n,t.trans l⟩,?_⟩;intro B G w x z k;simp only[Rep]at k;obtain⟨a,rfl,k⟩:=k;obtain⟨C,A,D,F⟩:=k5 B G w _ z k;exact⟨C,A,D,by simp only[Rep];exact⟨a,rfl,F⟩⟩
 ·split at e<;>try (cases e;done)
  rename_i Q a b;simp only[VR]at j;obtain⟨J,db,rfl,R,U⟩:=j;obtain⟨u,i,m,n,l,p⟩:=Tw q U;refine⟨.func Q J u,i,⟨_,_,e,by simp only[VR];exact⟨J,u,rfl,VRs.pres l _ _ R,m⟩,n,t.trans l⟩,?_⟩;intro B G w x z k;simp only[Rep]at k;obtain⟨f,c,rfl,W,V⟩:=k;obtain⟨C,A,D,F⟩:=p B G w _ z V;exact⟨C,A,D,by simp only[Rep];exact⟨f,c,rfl,af.mono A _ _ W,F⟩⟩
def Tx(s:Bs)(ks:List Bs):Bool:=ks.contains s
def Jb(s:Bs)(ks:List Bs):List Bs:=bif ks.contains s then ks else ks++[s]
def im(s:Bs)(i:Int):Int×Int:=((Utf8.decode ⟨s.toArray⟩ i.toNat).1,((Utf8.decode ⟨s.toArray⟩ i.toNat).2:Nat))
def Gb(x:Bs):∀(ks:List Bs)(i:Nat),(ks.contains x=true/\∃j:Nat,j<ks.length/\iE .s (.str x) (ks.map .str) i=some (some (i+j)))∨(ks.contains x=false/\iE .s (.str x) (ks.map .str) i=some none)
 |[],i=>.inr ⟨rfl,rfl⟩
 |k::ks,i=>by
  simp only[alc,iE,ig,List.contains_cons,ak4];cases d:x==k with
  |true=>exact .inl ⟨rfl,0,omq,rfl⟩
  |false=>
   rcases Gb x ks (i+1) with⟨a,j,b,c⟩|⟨a,b⟩
   ·exact .inl ⟨by rw[a];rfl,j+1,omq,by simp only[c];congr 2;omega⟩
   ·exact .inr ⟨by rw[a];rfl,by simp only[b]⟩
def Zp{ks:List Bs}(j:Nat):(ks.map λ_=>D.bool true).set j (.bool true)=ks.map λ_=>D.bool true:=by
 refine amv λi=> ?_;rw[anh];by_cases e:j=i
 ·subst e;rw[ali rfl];split
  ·rename_i h;rw[al4];rw[alQ]at h;rw[akZ h];rfl
  ·rename_i h;rw[alg omq]
 ·rw[alJ e]
def NL:SV->Option Nat
 |.raw (.map l)=>some l
 |_=>none
def Qj{v:SV}{l:Nat}(h:NL v=some l):v=.raw (.map l):=by
 unfold NL at h;split at h<;>cases h;rfl
def Ty(T:Tys)(S:ae)(t:TypeId)(K:SV->ae->Option α):Option α:=match lk T.map t with
 |some (.s,.bool false)=>K (.raw (.map S.length)) (S++[.smap []])
 |_=>none
def Zq(tok:TOk T P)(a:StR S σ){t:TypeId}(b:o.op=.makeMap t none)(h:Ty T S t K=some r):GOk P N o S σ τ' K r:=by
 unfold Ty at h;split at h<;>try (cases h;done)
 refine(aO tok (d:=.map σ.length) (σ':=σ++[.map [] []]) (by rw[b];rfl)).mono ?_;rintro d s ⟨rfl,rfl⟩;exact⟨_,_,h,by simp only[VR];rw[a.len],a.push rfl,aK.push a.len _ _⟩
def Tz(T:Tys)(S:ae)(t:TypeId)(l:Nat)(b:SV)(K:SV->Option α):Option α:=match S[l]? with
 |some (.smap a)=>match lk T.map t with
  |some (.s,.bool false)=>match b with
   |.str x=>K (.bool (Tx x a))
   |_=>none
  |_=>none
 |_=>none
def Zr(tok:TOk T P)(q:StR S σ)(p:ER S σ τ τ'){t:TypeId}{m k:Operand}{l:Nat}(E:o.op=.lookup t m k false)(D:sev τ m=some (.raw (.map l)))(A:sev τ k=some X)(h:Tz T S t l X (λv=>K v S)=some r):GOk P N o S σ τ' K r:=by
 unfold Tz at h;split at h<;>try (cases h;done)
 rename_i u C;split at h<;>try (cases h;done)
 rename_i F;split at h<;>try (cases h;done)
 rename_i x;obtain⟨I,n,e⟩:=eZ p D;obtain⟨H,i,c⟩:=eZ p A;simp only[VR]at e c;subst e c;obtain⟨a,z,b⟩:=q.obj _ _ C;have b:a=_:=b;subst b;refine(aO tok (d:=.bool (Tx x u)) (σ':=σ) ?_).mono ?_
 ·rw[E];simp only[aop,JG,F,n,i,zH,z,na,Tx];rcases Gb x u 0 with⟨f,j,g,y⟩|⟨f,g⟩
  ·simp only[y,f,alS,al4,akZ g];rfl
  ·simp only[g,f];rfl
 ·rintro d s ⟨rfl,rfl⟩;exact⟨_,S,h,by simp only[VR],q,.refl _ _⟩
def Xh(T:Tys)(S:ae)(t:TypeId)(c b d:SV)(K:SV->ae->Option α):Option α:=(NL c).bind λl=>match S[l]? with
 |some (.smap a)=>match lk T.map t with
  |some (.s,_)=>match b with
   |.str x=>match d with
    |.bool true=>K (.raw .junk) (S.set l (.smap (Jb x a)))
    |_=>none
   |_=>none
  |_=>none
 |_=>none
def ab5(tok:TOk T P)(u:StR S σ)(q:ER S σ τ τ'){t:TypeId}{m k x:Operand}{I H J:SV}(R:o.op=.mapUpdate t m k x)(Q:sev τ m=some I)(O:sev τ k=some H)(V:sev τ x=some J)(h:Xh T S t I H J K=some r):GOk P N o S σ τ' K r:=by
 unfold Xh at h;obtain⟨l,E,c⟩:=am h;clear h;have h:=c;clear c;have:=Qj E;subst this;split at h<;>try (cases h;done)
 rename_i f C;split at h<;>try (cases h;done)
 rename_i z U;split at h<;>try (cases h;done)
 rename_i s;split at h<;>try (cases h;done)
 obtain⟨X,y,n⟩:=eZ q Q;obtain⟨W,v,i⟩:=eZ q O;obtain⟨Y,A,p⟩:=eZ q V;simp only[VR]at n i p;subst n i p;obtain⟨a,M,b⟩:=u.obj _ _ C;have b:a=_:=b;subst b;have g:aK S σ (S.set l (.smap (Jb s f))) (σ.set l (.map ((Jb s f).map .str) ((Jb s f).map λ_=>.bool true))):=aK.setOther u C (λ_ _ _ _ e=>by cases e);refine(aO tok (d:=.junk) (σ':=σ.set l (.map ((Jb s f).map .str) ((Jb s f).map λ_=>.bool true))) ?_).mono ?_
 ·rw[R];simp only[aop,Ol,U,y,v,A,SQ,M,Jb];rcases Gb s f 0 with⟨c,j,F,L⟩|⟨c,F⟩
  ·simp only[L,c,Zp];rfl
  ·simp only[F,c,D.isCell,al1,ak5,al9,alc,amj];rfl
 ·rintro d Z ⟨rfl,rfl⟩;exact⟨_,_,h,by simp only[VR],u.set C g rfl,g⟩
def TA(T:Tys)(S:ae)(t:TypeId)(v:SV)(K:SV->ae->Option α):Option α:=match v with
 |.str s=>match lk T.sli t with
  |some .string=>K (.raw (.ptr S.length 0 0)) (S++[.it s 0])
  |_=>none
 |_=>none
def Zs(tok:TOk T P)(b:StR S σ)(e:ER S σ τ τ'){t:TypeId}{x:Operand}{v:SV}(f:o.op=.range t x)(i:sev τ x=some v)(h:TA T S t v K=some r):GOk P N o S σ τ' K r:=by
 unfold TA at h;split at h<;>try (cases h;done)
 rename_i s;split at h<;>try (cases h;done)
 rename_i g;obtain⟨j,c,a⟩:=eZ e i;simp only[VR]at a;subst a;refine(aO tok (d:=.ptr σ.length 0 0) (σ':=σ++[.siter s 0]) (by rw[f];simp only[aop,RP,c,g])).mono ?_;rintro d k ⟨rfl,rfl⟩;exact⟨_,_,h,by simp only[VR];rw[b.len],b.push rfl,aK.push b.len _ _⟩
def Xi:SV->Option Nat
 |.raw (.ptr l u o)=>match Nat.beq u 0&&Nat.beq o 0 with
  |true=>some l
  |false=>none
 |_=>none
def ab6{v:SV}{l:Nat}(h:Xi v=some l):v=.raw (.ptr l 0 0):=by
 unfold Xi at h;split at h<;>try (cases h;done)
 split at h<;>cases h;rename_i a;simp only[akY]at a;have b:=bq a.1;have c:=bq a.2;subst b c;rfl
def Xj(S:ae)(v:SV)(K:SV->ae->Option α):Option α:=(Xi v).bind λl=>match S[l]? with
 |some (.it s p)=>cond (decide (p<(s.length:Int))) (cond (decide (0<=p)) (K (.tup [.bool true,.int .i64 p,.int .i32 (im s p).1]) (S.set l (.it s (p+(im s p).2)))) none) (K (.tup [.bool false]) S)
 |_=>none
def ab7(tok:TOk T P)(i:StR S σ)(A:ER S σ τ τ'){x:Operand}{v:SV}(z:o.op=.next x true)(C:sev τ x=some v)(h:Xj S v K=some r):GOk P N o S σ τ' K r:=by
 unfold Xj at h;obtain⟨l,k,u⟩:=am h;clear h;have h:=u;clear u;have:=ab6 k;subst this;split at h<;>try (cases h;done)
 rename_i s p j;obtain⟨E,c,g⟩:=eZ A C;simp only[VR]at g;subst g;obtain⟨a,y,b⟩:=i.obj _ _ j;have b:a=_:=b;subst b;rcases aR h with⟨m,h⟩|⟨m,h⟩
 ·rcases aR h with⟨t,h⟩|⟨_,h⟩<;>try (cases h;done)
  simp only[alL]at m t;obtain⟨q,rfl⟩:=Int.eq_ofNat_of_zero_le t;have n:q<s.length:=omq;have f:aK S σ (S.set l (.it s ((q:Int)+(im s q).2))) (σ.set l (.siter s (q+(Utf8.decode ⟨s.toArray⟩ q).2))):=aK.setOther i j (λ_ _ _ _ e=>by cases e);refine(aO tok (d:=.tuple [.bool true,.int .i64 q,.int .i32 (Utf8.decode ⟨s.toArray⟩ q).1]) (σ':=σ.set l (.siter s (q+(Utf8.decode ⟨s.toArray⟩ q).2))) ?_).mono ?_
  ·rw[z];simp only[aop,c,Bk,y,al5,ali n]
  ·rintro d D ⟨rfl,rfl⟩;refine⟨_,_,h,?_,i.set j f ?_,f⟩
   ·simp only[VR,VRs,im,al5];exact⟨_,rfl,_,_,rfl,rfl,_,_,rfl,rfl,_,_,rfl,rfl,rfl⟩
   ·show aq.siter _ _=aq.siter _ _;congr 1
 ·simp only[aoh]at m;have n:¬(p.toNat<s.length):=omq;refine(aO tok (d:=.tuple [.bool false]) (σ':=σ) ?_).mono ?_
  ·rw[z];simp only[aop,c,Bk,y,alJ n]
  ·rintro d D ⟨rfl,rfl⟩;exact⟨_,S,h,by simp only[VR,VRs];exact⟨_,rfl,_,_,rfl,rfl,rfl⟩,i,.refl _ _⟩
abbrev mw(α:Type):=FuncId->List SV->ae->(SV->ae->Option α)->Option α
def tm(P:Program)(a:mw α):Prop:=∀(f:FuncId)(c:List SV)(S:ae)(K:SV->ae->Option α)(r:α),a f c S K=some r->
 fI P f/\∀(σ:Sto)(b:List D),StR S σ->VRs S σ c b->tD P f b σ (Post S σ K r)
def Xk(cx:Cx)(own:Option OH)(f:FuncId)(S:ae)(vs:List SV)(K:SV->ae->Option α)(a:Option α):Option α:=match own with
 |some .res=>JU f S vs K cx.CO
 |_=>Ts f S vs K (NJ f S vs K a cx.CX) cx.C
def ab8(cx:Cx)(own:Option OH)(a:mw α)(τ:ax)(S:ae)(d:Op)(K:SV->ae->Option α):Option α:=match d with
 |.alloc e=>NR cx.T S e K
 |.box _ x=>cy τ x λv=>Xx S v K
 |.store t p x=>cy τ p λz=>cy τ x λj=>NU cx.T S t z j K
 |.makeSlice t l c=>J8 τ l λn=>J8 τ c λm=>XC cx.T cx.H S t n m K
 |.buildSlice t len q=>match own with
  |some (.build s)=>I9 cx.T τ S t len q.toList s K
  |_=>sR cx.T cx.H τ S (.buildSlice t len q) λv=>K v S
 |.call c=>match c.callee with
  |.builtin b=>match b with
   |.append=>match c.args.toList,c.argTypes.toList with
    |[x,y],[t,u]=>cy τ x λv=>cy τ y λw=>Xz cx.T cx.H S t u v w K
    |_,_=>none
   |b=>sBi cx.T S τ b c.args.toList c.argTypes.toList λv=>K v S
  |_=>(wW cx.T τ c).bind λp=>match p with
   |(f,i)=>match lk cx.T.ext f with
    |some k=>JV k i λv=>K v S
    |none=>Xk cx own f S i K (a f i S K)
 |.makeMap t none=>Ty cx.T S t K
 |.lookup t m k ok=>cy τ m λh=>match NL h,ok with
  |some l,false=>cy τ k λg=>Tz cx.T S t l g λv=>K v S
  |some _,true=>none
  |none,ok=>sR cx.T cx.H τ S (.lookup t m k ok) λv=>K v S
 |.mapUpdate t m k x=>cy τ m λh=>cy τ k λg=>cy τ x λj=>Xh cx.T S t h g j K
 |.range t x=>cy τ x λv=>TA cx.T S t v K
 |.next x true=>cy τ x λv=>Xj S v K
 |d=>sR cx.T cx.H τ S d λv=>K v S
end
end
end Go.Fw
