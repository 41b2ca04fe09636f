/- A framework for proofs about Go programs in this model: part ZA. Everything is proved; no condition is added. -/
import Derived.Test.YtlicgchfbhkelaaGreatDoorFwZ
set_option linter.unusedVariables false
set_option linter.unusedSimpArgs false
set_option linter.defProp false
def ai3:=@List.flatten_nil
def akJ:=@List.flatten_append
namespace Go.Fw
open Go
set_option maxRecDepth 100000 in
def afa:∀b:UInt8,IntKind.wrap .u64 (bits .and .u8 (b.toNat:Int) 127)=((b.toNat % 128:Nat):Int):=by
 intro b;have h:∀n:Fin 256,IntKind.wrap .u64 (bits .and .u8 (n.val:Int) 127)=((n.val % 128:Nat):Int):=by decide
 exact h ⟨b.toNat,b.toNat_lt⟩
def ac3(v d:Nat)(b:v<=4294967295)(hd:d<128):bits .or .u64 (Nq .u64 (v:Int) 7) (d:Int)=((v*128+d:Nat):Int):=by
 have a:Nq .u64 (v:Int) 7=((v*128:Nat):Int):=by
  show IntKind.u64.wrap ((v:Int)*2 ^ (7:Nat))=_;rw[ajN];omega
 rw[a];show IntKind.u64.wrap (((BitVec.ofInt 64 ((v*128:Nat):Int))|||(BitVec.ofInt 64 (d:Int))).toNat:Int)=_;rw[alB,aj6,aj6,show(((v*128:Nat):Int) % ((2 ^ 64:Nat):Int)).toNat=v*2 ^ 7 from by omega,show((d:Int) % ((2 ^ 64:Nat):Int)).toNat=d from by omega,<-ak7,<-akh (by omega:d<2 ^ 7),ak7,ajN];omega
def DF(N n:Nat)(c:Bool)(v:Nat)(a:Bs)(i:Nat)(acc:List Int)(b:UInt8)(o:a[i]?=some b)(u:v<=4294967295)(y:i<1000000000)(w:acc.length<=100000000):
 bg N (n+1) (c,(v:Int),a,(a.length:Int),(i:Int),acc)=if (c=false/\b.toNat=128)∨v*128+b.toNat % 128>4294967295 then some (.inl ([],6)) else if b.toNat<128 then bg N n (false,0,a,(a.length:Int),((i+1:Nat):Int),acc++[((v*128+b.toNat % 128:Nat):Int)]) else bg N n (true,((v*128+b.toNat % 128:Nat):Int),a,(a.length:Int),((i+1:Nat):Int),acc):=by
 have t:i<a.length:=by
  rcases ah0 i a.length with h|h
  ·exact h
  ·rw[ah3 (by omega)]at o;cases o
 have r:decide ((i:Int)<(a.length:Int))=true:=ahO (by omega);have l:∀x:Int,app 8 acc [x]=some (acc++[x]):=λx=>gK (by omega) (by simp;omega);have g:aw .i64 (i:Int) 1=((i+1:Nat):Int):=dD (by omega);have s:=Tn b;have p:=ac3 v (b.toNat % 128) u (by omega);have k:(((b.toNat:Nat):Int)==128)=decide (b.toNat=128):=by
  show((b.toNat:Int)==((128:Nat):Int))=_;rw[EP];rfl
 unfold bg syv;simp only[r,ahY,de o,ahI,afa,p,l,g,k,bne,s];generalize (@Nat.rec (λ_=>Bool×Int×Bs×Int×Int×List Int->Option (Bs×Int⊕Bool×List Int)) _ _ n)=R;generalize ((i+1:Nat):Int)=j at g⊢;generalize z:v*128+b.toNat % 128=m;by_cases q:m>4294967295
 ·rw[ahO (by omega:(m:Int)>4294967295),ah2 (.inr q)];cases c
  ·by_cases d:b.toNat=128
   ·simp[d]
   ·simp[d]
  ·simp
 ·rw[ahL (by omega:¬(m:Int)>4294967295)];by_cases f:b.toNat<128
  ·have d:¬b.toNat=128:=by omega
   rw[air (by omega),ah2 f];cases c<;>simp[d,f,g]
  ·by_cases d:c=false/\b.toNat=128
   ·rw[ah2 (.inl d)];obtain⟨rfl,d⟩:=d;simp[d]
   ·rw[air (λh=>h.elim d q),air f];cases c
    ·have:¬b.toNat=128:=λe=>d ⟨rfl,e⟩;simp[this,f,g]
    ·simp[f,g]
def Yf(N n:Nat)(c:Bool)(v:Int)(a:Bs)(acc:List Int):bg N (n+1) (c,v,a,(a.length:Int),(a.length:Int),acc)=some (.inr (c,acc)):=by
 show(bif decide ((a.length:Int)<(a.length:Int)) then _ else _)=_;rw[ahL (by omega)];rfl
def Fx{a r:Bs}{i:Nat}{b:UInt8}(h:a.drop i=b::r):a[i]?=some b/\a.drop (i+1)=r:=by
 have c:(a.drop i)[0]?=some b:=by rw[h];rfl
 rw[akP,aj8]at c;refine⟨c,?_⟩;rw[<-ajj,h];rfl
def ago(N:Nat)(a:Bs)(q:a.length<1000000000):∀(k n:Nat),n<=k->0<n->n<33554432->∀(f i:Nat)(acc:List Int)(r:Bs),a.drop i=hi7 n++r->acc.length<=100000000->
 bg N (f+(hi7 n).length) (false,0,a,(a.length:Int),(i:Int),acc)=bg N f (true,(n:Int),a,(a.length:Int),((i+(hi7 n).length:Nat):Int),acc):=by
 intro k;induction k with
 |zero=>intro n v w;omega
 |succ k t=>
  intro n y u z f i acc r c l;have x:i<=a.length:=by
   rcases ah0 a.length i with h|h
   ·rw[aip (by omega)]at c;have b:=KK (n / 128) (n % 128) (by omega) (by omega) (by omega);rw[show n / 128*128+n % 128=n from by omega]at b;rw[b]at c;have:=ain List.length c;simp at this
   ·exact h
  have b:=KK (n / 128) (n % 128) (by omega) (by omega) (by omega);rw[show n / 128*128+n % 128=n from by omega]at b;have o:(UInt8.ofNat (n % 128+128)).toNat=n % 128+128:=by rw[ajl];omega
  by_cases d:n / 128=0
  ·rw[d,AQ,aiw]at b;rw[b]at c⊢;obtain⟨j,p⟩:=Fx c;rw[show(0:Int)=((0:Nat):Int) from rfl,ajg,DF N f false 0 a i acc _ j (by omega) (by omega) l,o,air (by omega),air (by omega)];rw[show 0*128+(n % 128+128) % 128=n from by omega]
  ·have e:a.drop i=hi7 (n / 128)++(UInt8.ofNat (n % 128+128)::r):=by rw[c,b];simp
   have g:=t (n / 128) (by omega) (by omega) (by omega) (f+1) i acc _ e l;have m:a.drop (i+(hi7 (n / 128)).length)=UInt8.ofNat (n % 128+128)::r:=by
    rw[<-ajj,e,ajp,aip (ahS _)];simp
   obtain⟨j,p⟩:=Fx m;have s:=ah j;rw[b,ahN,ajg,show f+((hi7 (n / 128)).length+1)=f+1+(hi7 (n / 128)).length from by omega,g,DF N f true (n / 128) a _ acc _ j (by omega) (by omega) l,o,air (by simp;omega),air (by omega)];rw[show n / 128*128+(n % 128+128) % 128=n from by omega,ajR]
def afb(N:Nat)(a:Bs)(e:a.length<1000000000)(m:Nat)(n:m<=4294967295)(f i:Nat)(acc:List Int)(r:Bs)(hd:a.drop i=ga m++r)(c:acc.length<=100000000):
 bg N (f+(ga m).length) (false,0,a,(a.length:Int),(i:Int),acc)=bg N f (false,0,a,(a.length:Int),((i+(ga m).length:Nat):Int),acc++[(m:Int)]):=by
 have k:(UInt8.ofNat (m % 128)).toNat=m % 128:=by rw[ajl];omega
 unfold ga at hd⊢;rw[aia,aku]at hd;by_cases h:m / 128=0
 ·rw[h,AQ,aiw]at hd⊢;obtain⟨b,l⟩:=Fx hd;have j:=ah b;rw[show(0:Int)=((0:Nat):Int) from rfl,ajg,DF N f false 0 a i acc _ b (by omega) (by omega) c,k,air (by omega),ah2 (by omega)];rw[show 0*128+m % 128 % 128=m from by omega];rfl
 ·have g:=ago N a e (m / 128) (m / 128) (ahS _) (by omega) (by omega) (f+1) i acc _ hd c;have d:a.drop (i+(hi7 (m / 128)).length)=UInt8.ofNat (m % 128)::r:=by
   rw[<-ajj,hd,ajp,aip (ahS _)];simp
  obtain⟨b,l⟩:=Fx d;have j:=ah b;rw[ahN,ajg,show f+((hi7 (m / 128)).length+1)=f+1+(hi7 (m / 128)).length from by omega,g,DF N f true (m / 128) a _ acc _ b (by omega) (by omega) c,k,air (by simp;omega),ah2 (by omega)];rw[show m / 128*128+m % 128 % 128=m from by omega,ajR]
def KN(n:Nat):1<=(ga n).length:=by unfold ga;simp
def KP:∀(L:List Nat),L.length<=((L.map ga).flatten).length
 |[]=>by simp
 |a::r=>by
  have:=KP r;have:=KN a;simp only[ahX,aif,ahN,ahP];omega
def Yg(N:Nat)(a:Bs)(d:a.length<100000000):∀(L:List Nat)(f i:Nat)(acc:List Int),(∀x∈L,x<=4294967295)->a.drop i=(L.map ga).flatten->i<=a.length->acc.length<=i->
 bg N (f+1+((L.map ga).flatten).length) (false,0,a,(a.length:Int),(i:Int),acc)=some (.inr (false,acc++cj L))
 |[],f,i,acc,_,b,j,_=>by
  have:i=a.length:=by
   have:=ain List.length b;simp at this;omega
  subst this;show bg N (f+1) _=_;rw[Yf];simp[cj]
 |x::L,f,i,acc,h,b,j,m=>by
  rw[ahX,aif]at b;have g:=afb N a (by omega) x (h x (by simp)) (f+1+((L.map ga).flatten).length) i acc _ b (by omega);have c:a.drop (i+(ga x).length)=(L.map ga).flatten:=by
   rw[<-ajj,b,ajp,aip (ahS _)];simp
  have e:i+(ga x).length<=a.length:=by
   have:=ain List.length b;rw[aiF,ahN]at this;have:=KN x;omega
  have n:=KN x;have l:=Yg N a d L f (i+(ga x).length) (acc++[(x:Int)]) (λy k=>h y (by simp[k])) c e (by simp;omega);rw[ahX,aif,ahN,show f+1+((ga x).length+((L.map ga).flatten).length)=f+1+((L.map ga).flatten).length+(ga x).length from by omega,g,l];simp[cj]
def ahx(N:Nat)(a:Bs)(z:a.length<100000000):∀(n:Nat)(s:Bool×Int×Bs×Int×Int×List Int),
 (∃(c:Bool)(v i:Nat)(L:List Nat),i<=a.length/\L.length<=i/\(∀x∈L,x<=4294967295)/\v<=4294967295/\a.take i=(L.map ga).flatten++hi7 v/\(c=false->v=0)/\(c=true->0<v)/\s=(c,(v:Int),a,(a.length:Int),(i:Int),cj L))->
 a.length-s.2.2.2.2.1.toNat<n->OW (bg N n s) λy=>y=.inl ([],6)∨∃c L,y=.inr (c,cj L)/\(c=false->a=(L.map ga).flatten/\∀x∈L,x<=4294967295)/\L.length<=a.length:=by
 refine TV _ _ (λ(s:Bool×Int×Bs×Int×Int×List Int)=>a.length-s.2.2.2.2.1.toNat) _ ?_;rintro n _ ⟨c,v,i,L,B,p,f,q,d,r,t,rfl⟩ o;by_cases g:i<a.length
 ·have m:a[i]?=some a[i]:=ahK g;have b:a.take (i+1)=a.take i++[a[i]]:=by rw[aiQ,m];rfl
  rw[DF N n c v a i _ _ m q (by omega) (by simp[cj];omega)];split
  ·exact aa (.inl rfl)
  ·rename_i j;have u:=a[i].toNat_lt;split
   ·rename_i k;refine o _ ⟨false,0,i+1,L++[v*128+a[i].toNat % 128],by omega,by simp;omega,?_,by omega,?_,λ_=>rfl,(λh=>by cases h),?_⟩ ?_
    ·intro x A;rcases aiv.1 A with h|h
     ·exact f x h
     ·simp at h;omega
    ·rw[b,d,AQ,ah6,aiR,akJ,aia];congr 1;simp only[ahX,ai0,aif,ai3,ah6,ga];rw[show(v*128+a[i].toNat % 128) / 128=v from by omega,show(v*128+a[i].toNat % 128) % 128=a[i].toNat from by omega];simp
    ·simp[cj]
    ·show a.length-(((i+1:Nat):Int)).toNat<a.length-((i:Int)).toNat;omega
   ·rename_i k;have l:v*128+a[i].toNat % 128≠0:=by
     cases c with
     |false=>
      have:a[i].toNat≠128:=λe=>j (.inl ⟨rfl,e⟩);omega
     |true=>have:=t rfl;omega
    refine o _ ⟨true,v*128+a[i].toNat % 128,i+1,L,by omega,by omega,f,by omega,?_,(λh=>by cases h),λ_=>by omega,rfl⟩ ?_
    ·rw[b,d,KK v _ (by omega) (by omega) l,aia];congr 2;rw[show a[i].toNat % 128+128=a[i].toNat from by omega];simp
    ·show a.length-(((i+1:Nat):Int)).toNat<a.length-((i:Int)).toNat;omega
 ·have:i=a.length:=by omega
  subst this;rw[Yf];refine aa (.inr ⟨c,L,rfl,λw=>⟨?_,f⟩,p⟩);rw[r w,AQ,ah6,ajb]at d;exact d
end Go.Fw
def aj7:=@Int.tdiv_eq_ediv_of_nonneg
namespace Go.Fw
open Go
def afc(N:Nat)(s:List Nat)(o:s.length<=100000000)(g:∀x∈s,x<=4294967295):∀(k n i:Nat)(acc:List Int),s.length-i=k->k<n->i<=s.length->acc.length<=i+2->
 eH N n (cj s,((cj s).length:Int),(i:Int),acc)=some (acc++cj (s.drop i)):=by
 have c:(cj s).length=s.length:=by simp[cj]
 intro k;induction k with
 |zero=>
  intro n i acc e f d b;obtain⟨n,rfl⟩:∃m,n=m+1:=⟨n-1,by omega⟩;show(bif decide ((i:Int)<((cj s).length:Int)) then _ else _)=_;rw[ahL (by omega),ahQ,aip (by omega)];simp[cj]
 |succ k j=>
  intro n i acc e f d b;obtain⟨n,rfl⟩:∃m,n=m+1:=⟨n-1,by omega⟩;have a:i<s.length:=by omega
  have h:ix (cj s) (i:Int)=some (s[i]:Int):=by
   refine de ?_;simp[cj,a]
  have l:=g s[i] (aiL a);show(bif decide ((i:Int)<((cj s).length:Int)) then _ else _)=_;rw[ahO (by omega),ahY,h,ahI,show IntKind.wrap .u32 (s[i]:Int)=(s[i]:Int) from by rw[ajQ];omega,gK (by omega) (by simp;omega),ahI,dD (by omega)];refine(j n (i+1) _ (by omega) (by omega) (by omega) (by simp;omega)).trans ?_;rw[aii a,aia];rfl
def aaL(N:Nat)(b:FN N)(L:List Nat)(g:L.length<=100000000)(c:uR L=true)(d:∀x∈L,x<=4294967295):ii N (cj L)=some (Lib.join (L.map Lib.decDigits) [46],0):=by
 unfold FN at b;obtain⟨t,e,h,a,_⟩:=Zr N (cj L) (by simp[cj];omega) (by simp[cj];omega);obtain⟨rfl,rfl⟩:=a (by rw[OG,c]);rw[h];congr 3;unfold cj;rw[List.map_map];refine List.map_congr_left λx f=> ?_;have:=d x f;show Lib.decDigits (IntKind.wrap .u64 (x:Int)).toNat=_;rw[show IntKind.wrap .u64 (x:Int)=(x:Int) from by rw[ajN];omega,aiP]
def uS:List Nat->List Nat
 |[]=>[]
 |q::r=>min (q / 40) 2::(q-40*min (q / 40) 2)::r
def OI(q:Nat)(r:List Nat)(b:∀x∈q::r,x<=4294967295):uR (uS (q::r))=true/\(∀x∈uS (q::r),x<=4294967295)/\Cq (uS (q::r))=((q::r).map ga).flatten:=by
 have c:=b q (by simp);refine⟨ahO (by omega),?_,?_⟩
 ·intro x a;simp only[uS,aib]at a;rcases a with rfl|rfl|a
  ·omega
  ·omega
  ·exact b x (by simp[a])
 ·show ga (40*min (q / 40) 2+(q-40*min (q / 40) 2))++_=_;rw[show 40*min (q / 40) 2+(q-40*min (q / 40) 2)=q from by omega];rfl
def V3(a b:Nat)(r:List Nat)(h:uR (a::b::r)=true):uS ((40*a+b)::r)=a::b::r:=by
 have c:a<=2/\(a<2->b<40)/\(¬a<2->b<=4294967215):=ail h;show min ((40*a+b) / 40) 2::(40*a+b-40*min ((40*a+b) / 40) 2)::r=_;have e:min ((40*a+b) / 40) 2=a:=by omega
 rw[e,show 40*a+b-40*a=b from by omega]
def Sa{N:Nat}(i:FN N)(a:Bs)(M:List Nat)(d:M.length<=10000000)(l:M≠[])(f:∀x∈M,x<=4294967295)(c:Bool)(h:bg N N (false,0,a,(a.length:Int),0,[])=some (.inr (false,cj M))):cm N a=some (Lib.join ((uS M).map Lib.decDigits) [46],0):=by
 have b:=i;unfold FN at b;cases M with
 |nil=>exact absurd rfl l
 |cons q r=>
  obtain⟨o,p,u⟩:=OI q r f;have t:=f q (by simp);unfold cm syv;rw[h,ahI];dsimp only;have j:ix (cj (q::r)) 0=some (q:Int):=rfl;have s:(cj (q::r)).length=r.length+1:=by simp[cj]
  have e:slc (cj (q::r)) 1 ((cj (q::r)).length:Int)=some (cj r):=by
   unfold slc;rw[ah2 ⟨by omega,by omega,by omega⟩,aiP,aih (ahS _)];rfl
  have m:fS (gt .u64 (q:Int) 40) 2=((min (q / 40) 2:Nat):Int):=by
   have:gt .u64 (q:Int) 40=((q / 40:Nat):Int):=by
    show IntKind.u64.wrap ((q:Int).tdiv 40)=_;rw[aj7 (by omega),ajN];omega
   rw[this];rw[TG];split<;>omega
  have g:IntKind.wrap .u32 ((min (q / 40) 2:Nat):Int)=((min (q / 40) 2:Nat):Int):=by rw[ajQ];omega
  have n:IntKind.wrap .u32 (aU .u64 (q:Int) (lm .u64 40 ((min (q / 40) 2:Nat):Int)))=((q-40*min (q / 40) 2:Nat):Int):=by
   show IntKind.wrap .u32 (IntKind.u64.wrap ((q:Int)-IntKind.u64.wrap (40*((min (q / 40) 2:Nat):Int))))=_;rw[ajN,ajN,ajQ];omega
  rw[ahQ,show(((cj (q::r)).length:Int)==0)=false from aid.2 (by omega),ahQ,show decide (((cj (q::r)).length:Int)>0)=true from ahO (by omega),ahY,j,ahI,ahY,ahI,e,ahI,m,g,n];have k:=afc N r (by simp at d;omega) (λx g=>f x (by simp[g])) r.length N 0 [((min (q / 40) 2:Nat):Int),((q-40*min (q / 40) 2:Nat):Int)] (by omega) (by simp at d;omega) (by omega) (by simp);rw[show eH N N (cj r,((cj r).length:Int),0,_)=_ from k,ahI,show [((min (q / 40) 2:Nat):Int),((q-40*min (q / 40) 2:Nat):Int)]++cj (r.drop 0)=cj (uS (q::r)) from rfl,aaL N i _ (by simp[uS]at d⊢;omega) o p];rfl
def Yh{N:Nat}(l:FN N){s:Bs}{L:List Nat}(h:ma s L)(f:(Cq L).length<10000000):cm N (Cq L)=some (s,0):=by
 have d:=l;unfold FN at d;obtain⟨c,i,j⟩:=h
 match L,c,i,j,f with
 |a::b::r,c,i,j,f=>
  have n:a<=2/\(a<2->b<40)/\(¬a<2->b<=4294967215):=ail c;have m:∀x∈(40*a+b)::r,x<=4294967295:=by
   intro x g;rcases aib.1 g with rfl|g
   ·omega
   ·exact i x (by simp[g])
  have e:Cq (a::b::r)=(((40*a+b)::r).map ga).flatten:=rfl;have o:=KP ((40*a+b)::r);rw[e]at f⊢;have k:=Yg N _ (by omega) ((40*a+b)::r) (N-1-((((40*a+b)::r).map ga).flatten).length) 0 [] m (aiz ..) (by omega) (by simp);rw[show N-1-((((40*a+b)::r).map ga).flatten).length+1+((((40*a+b)::r).map ga).flatten).length=N from by omega,aiw]at k;rw[Sa l _ _ (by omega) (by simp) m false k,V3 a b r c,j]
def Yi{N:Nat}(e:FN N)(a:Bs)(m:a.length<10000000):OW (cm N a) λr=>(r.2=0/\∃L,ma r.1 L/\a=Cq L)∨r=([],6):=by
 have b:=e;unfold FN at b;obtain⟨y,h,i⟩:=ahx N a (by omega) N (false,0,a,(a.length:Int),0,[]) ⟨false,0,0,[],by omega,by simp,by simp,by omega,by simp[AQ],λ_=>rfl,(λh=>by cases h),rfl⟩ (by show a.length-0<N;omega);rcases i with rfl|⟨c,M,rfl,g,n⟩
 ·unfold cm syv;rw[h,ahI];exact aa (.inr rfl)
 ·cases c with
  |true=>
   unfold cm syv;rw[h,ahI];exact aa (.inr rfl)
  |false=>
   obtain⟨f,d⟩:=g rfl;cases M with
   |nil=>
    unfold cm syv;rw[h,ahI];exact aa (.inr rfl)
   |cons q r=>
    obtain⟨j,k,l⟩:=OI q r d;exact IF (Sa e a (q::r) (by omega) (by simp) d false h) (.inl ⟨rfl,uS (q::r),⟨j,k,rfl⟩,by rw[l];exact f⟩)
def aaM{s:Bs}{L:List Nat}(h:ma s L):L.length<=(Cq L).length+1:=by
 obtain⟨d,e,f⟩:=h
 match L,d with
 |a::b::r,_=>
  have c:=KP ((40*a+b)::r);simp only[ahP]at c⊢;show _<=((((40*a+b)::r).map ga).flatten).length+1;omega
end Go.Fw
namespace Go.Fw
open Go
noncomputable def opn(N:Nat)(b:Bs):Bool:=match cz N b with
 |some (_,e,_)=>e==0
 |none=>false
def aaN(N n:Nat)(O:15<n)(H:FN N)(a:Bs)(D:a.length<10000000)(v:Fw.Spot)(e o:Int)(h:cb N (n+1) a 0 (a.length:Int) 16=some (v,e,o))(r:e=0):o=0/\∃t q,okT t/\a=ai t++q/\v.stop=((ai t).length:Int):=by
 unfold FN at H;have K:(decide ((a.length:Int)<=(a.length:Int))&&decide ((a.length:Int)<=(a.length:Int)))=true:=by simp
 have A:slc a 0 (a.length:Int)=some a:=by
  unfold slc;rw[ah2 ⟨by omega,by omega,by omega⟩];simp
 rw[N9,show((16:Int)==0)=false from rfl,ahQ,K,ahY,A,ahI]at h;cases u:aX N a with
 |none=>rw[u]at h;cases h
 |some x=>
  obtain⟨⟨c,B,k,L,W⟩,C,U⟩:=x;rw[u,ahI]at h;dsimp only at h;by_cases f:C=0
  ·subst f;obtain⟨p,d,m,b,q1,V,q3,F,rfl,rfl,rfl,rfl⟩:=EI N (by omega) a (by omega) c B L W U k u;have M:=ain List.length F;simp only[ahP,ahN]at M;have w1:aw .i64 0 ((1+(aV m).length:Nat):Int)=((1+(aV m).length:Nat):Int):=by rw[fX (by omega)];omega
   have w2:aU .i64 (a.length:Int) ((1+(aV m).length:Nat):Int)=((a.length-(1+(aV m).length):Nat):Int):=by
    show IntKind.i64.wrap _=_;rw[aij _ (by omega)];omega
   simp only[als,ahQ,w1,w2]at h;by_cases hm:a.length-(1+(aV m).length)<m
   ·rw[ahO (by omega)]at h;cases h;cases r
   ·rw[ahL (by omega)]at h;have w3:aw .i64 ((1+(aV m).length:Nat):Int) (m:Int)=((1+(aV m).length+m:Nat):Int):=by rw[fX (by omega)];omega
    simp only[ahQ,w3]at h;have E:(b.take m).length=m:=by rw[aig];omega
    have I:∃t q,okT t/\a=ai t++q/\((ai t).length:Int)=((1+(aV m).length+m:Nat):Int):=by
     refine⟨(p,k,d,b.take m),b.drop m,⟨q1,V,by show(b.take m).length<=_;omega⟩,?_,?_⟩
     ·rw[F];show _=idB p k d::(aV (b.take m).length++b.take m)++b.drop m;rw[E];simp
     ·rw[wm];show((1+(aV (b.take m).length).length+(b.take m).length:Nat):Int)=_;rw[E]
    obtain⟨t,q,X,Y,Z⟩:=I;have g:∀z:Int,z=((1+(aV m).length+m:Nat):Int)->v.stop=z->o=0->o=0/\∃t q,okT t/\a=ai t++q/\v.stop=((ai t).length:Int):=λz T R P=>⟨P,t,q,X,Y,by rw[R,T,Z]⟩;cases k
    ·simp only[aky,ahY]at h;obtain⟨s,Q,w⟩:=BO (l:=a) (i:=((1+(aV m).length:Nat):Int)) (j:=((1+(aV m).length+m:Nat):Int)) (by omega) (by omega) (by omega);rw[Q,ahI,xe (by rw[w,aiF,aig];omega),ahI]at h;simp only[ahM,ah7]at h;exact g _ rfl (by rw[<-h.1];rfl) h.2.2.symm
    ·simp only[ai2,ahQ]at h;obtain⟨y,S,J⟩:=Jr N a D (cb N n) 15 (by omega)
      (Kc N a (by omega) D 15 n O (by omega))
      (1+(aV m).length+m) (by omega) 0 (p:Int) (d:Int) true _ N (1+(aV m).length) [] [] rfl (by omega) (by omega) (by simp) (by simp)
     rw[show bO N (cb N n) N (a,16,((1+(aV m).length:Nat):Int),0,0,0,0,false,[],0,0,[],[],0,((1+(aV m).length+m:Nat):Int),(p:Int),(d:Int),true)=some y from S,ahI]at h;rcases J with⟨e',o',rfl,G,g2,g3⟩|⟨l,l',rfl⟩
     ·simp only[ahM,ah7]at h;exact absurd (h.2.1.trans r) G
     ·simp only[ahM,ah7]at h;exact g _ rfl (by rw[<-h.1];rfl) h.2.2.symm
  ·rw[show(C !=0)=true from by simpa using f]at h;cases h;exact absurd r f
def V4{N:Nat}(l:FN N)(a:Bs)(k:a.length<10000000):OW (cz N a) λr=>(r.2=(0,0)/\opn N a=true/\∃t,okT t/\a=ai t)∨(r.2.1≠0/\opn N a=false/\0<=r.2.2/\r.2.2<=(a.length:Int)):=by
 have j:=l;unfold FN at j;obtain⟨v,e,o,i,u,x⟩:=UY N a (by omega) k;have n:opn N a=(e==0):=by unfold opn;rw[i]
 refine⟨_,i,?_⟩;by_cases h:e=0
 ·have b:=i;unfold cz eV syv at b;obtain⟨w,d,p,y,A,B,C⟩:=Kc N a (by omega) k 16 N (by omega) (by omega) 0 a.length (by omega) (ahS _);have g:cb N N a 0 (a.length:Int) 16=some (w,d,p):=y;rw[g,ahI]at b;dsimp only at b;by_cases c:d=0
  ·obtain⟨m,rfl⟩:∃m,N=m+1:=⟨N-1,by omega⟩;obtain⟨p1,t,q,p2,s,D⟩:=aaN (m+1) m (by omega) l a k w d p g c;rw[show(d==0)=true from by simpa using c,cond_true]at b;by_cases f:w.stop<(a.length:Int)
   ·rw[ahO f,ahY]at b;simp only[ahI,ahM,ah7]at b;have:=b.2.1;omega
   ·rw[ahL f,ahQ]at b;simp only[ahI,ahM,ah7]at b;have z:a.length=(ai t).length+q.length:=by rw[s,ahN]
    have:q=[]:=ait (by omega);subst this;refine .inl ⟨?_,by rw[n];simpa using h,t,p2,by simpa using s⟩;rw[<-b.2.1,<-b.2.2,c,p1]
  ·rw[show(d==0)=false from by simpa using c,cond_false]at b;simp only[ahI,ahM,ah7]at b;exact absurd (b.2.1.trans h) c
 ·exact .inr ⟨h,by rw[n];simpa using h,u,x⟩
end Go.Fw
def ajd:=@List.sum_cons
namespace Go.Fw
open Go
noncomputable def je(s:Bs):Bs:=if h:ofP (∃L,ma s L)=true then Cq (Classical.choose (tp.1 h)) else []
def ws{s:Bs}{L:List Nat}(h:ma s L):je s=Cq L:=by
 have a:ofP (∃L,ma s L)=true:=tp.2 ⟨L,h⟩;unfold je;rw[dif_pos a];exact ain Cq ((aiU (tp.1 a)).uniq h)
def DG{N:Nat}(d:FN N)(s:Bs)(e:s.length<10000000):dI N s=some (bif jY s then(je s,0) else([],8)):=by
 obtain⟨b,c⟩:=ac2 d s e;cases h:jY s
 ·exact c h
 ·obtain⟨L,a⟩:=mF.1 h;rw[b L a,ws a];rfl
def NM{N:Nat}(c:FN N){s:Bs}(h:jY s=true)(b:(je s).length<10000000):cm N (je s)=some (s,0):=by
 obtain⟨L,a⟩:=mF.1 h;rw[ws a]at b⊢;exact Yh c a b
def xA{N:Nat}(e:FN N)(a:Bs)(f:a.length<10000000):OW (cm N a) λr=>(r.2=0/\jY r.1=true/\je r.1=a)∨r=([],6):=by
 refine IE (Yi e a f) ?_;rintro r (⟨c,L,b,d⟩|h)
 ·exact .inl ⟨c,mF.2 ⟨L,b⟩,by rw[ws b,d]⟩
 ·exact .inr h
def ac4(L:List Nat)(b:∀x∈L,x<=4294967295):Lib.lens (L.map Lib.decDigits)<=20*L.length:=by
 induction L with
 |nil=>simp[Lib.lens]
 |cons a r e=>
  have f:=Hp a (by have:=b a (by simp);omega);have c:=e λx d=>b x (by simp[d]);simp only[Lib.lens,ahX,List.map_map,ajd,ahP]at c⊢;omega
def IQ{s:Bs}(h:jY s=true):s.length<=21*((je s).length+1):=by
 obtain⟨L,b⟩:=mF.1 h;have d:=aaM b;rw[ws b];obtain⟨e,f,rfl⟩:=b;have c:=ac4 L f;cases L with
 |nil=>cases e
 |cons a r=>
  rw[ahX,Lib.join_length,<-ahX];simp only[aiy,ahP,ah9]at d c⊢;omega
def Ga:∀(L:List Nat),((L.map ga).flatten).length<=6*L.length
 |[]=>by simp
 |a::r=>by
  have b:=KM a;have c:=Ga r;simp only[ahX,aif,ahN,ahP];omega
def Ub:∀(r:List (List UInt8))(x:List UInt8),r.length<=(Lib.join (x::r) [46]).length
 |[],x=>by simp
 |y::r,x=>by
  have:=Ub r y;rw[qR,ahN,ahP,ahP];omega
def sB(s:Bs):(je s).length<=6*(s.length+1):=by
 unfold je;split
 ·rename_i h;obtain⟨d,g,e⟩:=aiU (tp.1 h);generalize Classical.choose (tp.1 h)=L at d g e
  match L,d with
  |a::b::r,_=>
   have c:=Ga ((40*a+b)::r);have f:=Ub ((b::r).map Lib.decDigits) (Lib.decDigits a);rw[e];simp only[aiy,ahP,ahX]at c f⊢;show((((40*a+b)::r).map ga).flatten).length<=_;simp only[ahX]at c⊢;omega
 ·simp
def EL.cs{a:Bs}{t:TLV}{e:cM}(h:EL a t e)(c num:Nat)(k:Bool)(d f:Int)(l:d=(c:Int))(m:f=(num:Int)):(bz e d k f=some true/\t=(c,k,num,t.2.2.2))∨(bz e d k f=some false/\¬(t.1=c/\t.2.1=k/\t.2.2.1=num)):=by
 subst l m;rw[h.is];by_cases b:t.1=c/\t.2.1=k/\t.2.2.1=num
 ·rw[ahO b];obtain⟨g,i,j⟩:=b;exact .inl ⟨rfl,by rw[<-g,<-i,<-j]⟩
 ·rw[ahL b];exact .inr ⟨rfl,b⟩
def EL.yes{a:Bs}{t:TLV}{e:cM}(h:EL a t e)(c num:Nat)(k:Bool)(b d:Int)(j:b=(c:Int))(l:d=(num:Int))(f:t.1=c)(g:t.2.1=k)(i:t.2.2.1=num):bz e b k d=some true:=by
 subst j l;rw[h.is,ahO ⟨f,g,i⟩]
def EL.no{a:Bs}{t:TLV}{e:cM}(h:EL a t e)(c num:Nat)(k:Bool)(b d:Int)(g:b=(c:Int))(i:d=(num:Int))(f:¬(t.1=c/\t.2.1=k/\t.2.2.1=num)):bz e b k d=some false:=by
 subst g i;rw[h.is,ahL f]
def nt{N:Nat}(j:FN N){c num:Nat}(k:c<4)(n:num<31)(a:Bs)(b:List TLV)(e:a=tlv c true num (au b))(m:∀t∈b,okT t)(o:a.length<10000000)(g i:Int)(d:g=(c:Int))(f:i=(num:Int)):
 ∃l,aF N a g i=some (l,0,0)/\eT (EL a) b l:=by
 subst e d f;have h:(au b).length<(tlv c true num (au b)).length:=by rw[nn];omega
 exact TW j k n b m (by omega)
def agp{N:Nat}(b:FN N)(a:Bs)(t:TLV)(h:a=ai t)(c:okT t):∃e,bF N a=some (e,0,0)/\EL a t e:=by
 subst h;exact Px b t c
def PS{T:Type}(ok:T->Bool)(enc:T->Bs)(a:Bs)(r:T×Int×Int):Prop:=(r.2=(0,0)/\ok r.1=true/\enc r.1=a)∨(r.2.1≠0/\0<=r.2.2/\r.2.2<=(a.length:Int))
def V5{T:Type}{ok:T->Bool}{enc:T->Bs}{a:Bs}{v:T}(b:ok v=true)(c:enc v=a):PS ok enc a (v,0,0):=.inl ⟨rfl,b,c⟩
def qF{T:Type}{ok:T->Bool}{enc:T->Bs}{a:Bs}{v:T}{e o:Int}(h:e≠0)(b:0<=o)(c:o<=(a.length:Int)):PS ok enc a (v,e,o):=.inr ⟨h,b,c⟩
noncomputable def fU(s:Bs):TLV:=(0,false,6,je s)
def rP{c num:Nat}{k:Bool}{b:Bs}(a:c<4)(d:num<31)(e:b.length<10000000):okT (c,k,num,b):=⟨a,d,by show b.length<=_;omega⟩
def kH{c num:Nat}{k:Bool}{b:Bs}:b.length<(tlv c k num b).length:=by rw[nn];omega
def iA{c num:Nat}{k:Bool}{b:Bs}(h:b.length<4294967296):(tlv c k num b).length<=b.length+6:=by
 have:=(pg b.length h).2;rw[nn];omega
def Ia{N:Nat}(a:FN N)(c num:Nat)(d:c<4)(e:num<31)(k:Bool)(xs:List Bs)(f:xs.length<10000000)(b:xs.flatten.length<=2147483647):aD N (c:Int) k (num:Int) xs=some (tlv c k num xs.flatten,0):=by
 unfold FN at a;exact QR N (by omega) a.2 k d e xs (by omega) b
def Mu{N:Nat}(a:FN N)(xs:List Bs)(c:xs.length<10000000)(b:xs.flatten.length<=2147483647):aH N xs=some (tlv 0 true 16 xs.flatten,0):=by
 unfold FN at a;exact QS N (by omega) a.2 xs (by omega) b
def nu{x:Bs}(h:x.length<10000000):fM x=some x:=xe (by omega)
def Mv{N:Nat}(c:FN N)(a:Bs)(d:a.length<10000000):∃v e o,cz N a=some (v,e,o)/\opn N a=(e==0)/\0<=o/\o<=(a.length:Int):=by
 obtain⟨⟨v,e,o⟩,h,f⟩:=V4 c a d;refine⟨v,e,o,h,?_,?_⟩
 ·unfold opn;rw[h]
 ·rcases f with⟨b,_⟩|⟨_,_,b⟩
  ·simp only[ah7]at b;omega
  ·exact b
def abx{N:Nat}(c:FN N){a:Bs}(d:a.length<10000000)(h:opn N a=true):∃t,okT t/\a=ai t:=by
 obtain⟨r,_,e⟩:=V4 c a d;rcases e with⟨_,_,b⟩|⟨_,b,_⟩
 ·exact b
 ·rw[h]at b;cases b
end Go.Fw
namespace Go.Fw
open Go
noncomputable def pS(N:Nat)(v:Bs×Bs):Bool:=jY v.1&&(decide (v.2=[])||opn N v.2)
noncomputable def uT(v:Bs×Bs):Bs:=tlv 0 true 16 (ai (fU v.1)++v.2)
def Sc{α:Type}(l:List α):(((l.length:Nat):Int)==0)=decide (l=[]):=by
 cases l with
 |nil=>rfl
 |cons a r=>
  rw[ahL (by simp)];exact aid.2 (by simp only[ahP];omega)
def xB{N:Nat}(a:FN N)(v:Bs×Bs)(b:v.1.length<10000000)(c:v.2.length<10000000):cp N v=some (pS N v):=by
 obtain⟨w,e,o,d,f,_⟩:=Mv a v.2 c;unfold cp pS dt syv;rw[BR a _ b,ahI,Sc,d,f];cases jY v.1
 ·rfl
 ·by_cases h:v.2=[]
  ·rw[ahO h];rfl
  ·rw[ahL h];rfl
def Sd(s:Bs)(h:s.length<10000000):(ai (fU s)).length<=6*s.length+12:=by
 have a:=sB s;have d:=iA (c:=0) (num:=6) (k:=false) (b:=je s) (by omega);show(tlv 0 false 6 (je s)).length<=_;omega
def DH(s:Bs):(je s).length<(ai (fU s)).length:=kH
def V6{N:Nat}(a:FN N)(v:Bs×Bs)(b:v.1.length<10000000)(d:v.2.length<10000000):iJ N v=some (bif pS N v then(uT v,0) else([],8)):=by
 unfold iJ ny syv;rw[xB a v (by omega) (by omega),ahI];cases h:pS N v
 ·rfl
 ·have hO:jY v.1=true:=by unfold pS at h;simp only[ahJ]at h;exact h.1
  have e:=sB v.1;have f:=Sd v.1 b;have c:=Ia a 0 6 (by omega) (by omega) false [je v.1] (by simp) (by simp;omega);simp only[ai2,ahQ,DG a _ (show v.1.length<10000000 by omega),hO,ahY,ahI,show((0:Int)==0)=true from rfl,show aD N 0 false 6 [je v.1]=_ from c,aif,ai3,ah6,show((0:Int) !=0)=false from rfl];rw[Mu a _ (by simp) (by simp only[aif,ai3,ah6,ahN];show(ai (fU v.1)).length+_<=_;omega)];simp[uT,ai,fU]
def ix0{α:Type}(x:α)(l:List α):ix (x::l) 0=some x:=rfl
def ix1{α:Type}(x y:α)(l:List α):ix (x::y::l) 1=some y:=rfl
def ix2{α:Type}(x y z:α)(l:List α):ix (x::y::z::l) 2=some z:=rfl
def Se{N:Nat}(b:FN N)(v:Bs×Bs)(h:pS N v=true)(a:Bs)(j:uT v=a)(F:a.length<9000000):kZ N a=some (v,0,0):=by
 obtain⟨s,p⟩:=v;unfold pS at h;simp only[ahJ,ajm,aiu]at h;obtain⟨hO,B⟩:=h;have z:(ai (fU s)++p).length<a.length:=by rw[<-j];exact kH
 rw[ahN]at z;have E:=DH s;have u:okT (fU s):=rP (by omega) (by omega) (by omega);have r:=NM b hO (by omega);unfold kZ syv;by_cases e:p=[]
 ·subst e;obtain⟨l,g,i⟩:=nt b (c:=0) (num:=16) (by omega) (by omega) a [fU s] (by rw[<-j];simp[uT,au]) (by simpa using u) (by omega) 0 16 rfl rfl;rw[g];rcases i with _|⟨f,⟨⟩⟩;have m:=f.yes 0 6 false 0 6 rfl rfl rfl rfl rfl;have n:=f.body;simp[ix0,m,n,show(fU s).2.2.2=je s from rfl,r]
 ·have d:opn N p=true:=B.resolve_left e;obtain⟨t,k,rfl⟩:=abx b (by omega) d;obtain⟨l,g,i⟩:=nt b (c:=0) (num:=16) (by omega) (by omega) a [fU s,t] (by rw[<-j];simp[uT,au]) (by simp[u,k]) (by omega) 0 16 rfl rfl;obtain⟨w,x,o,y,q,_⟩:=Mv b (ai t) (by omega);rw[d]at q;have A:x=0:=by simpa using q.symm
  rw[g];rcases i with _|⟨f,_|⟨D,⟨⟩⟩⟩;have m:=f.yes 0 6 false 0 6 rfl rfl rfl rfl rfl;have n:=f.body;have C:=D.whole;simp[ix0,ix1,m,n,C,show(fU s).2.2.2=je s from rfl,r,nu (show(ai t).length<10000000 by omega),y,A]
def PB(t u:TLV):au [t,u]=ai t++ai u:=by simp[au]
def aby(t u v:TLV):au [t,u,v]=ai t++(ai u++ai v):=by simp[au]
end Go.Fw
namespace Go.Fw
open Go
noncomputable def kF(N:Nat)(v:Bs×Bs):Bool:=jY v.1&&opn N v.2
noncomputable def fH(v:Bs×Bs):Bs:=tlv 0 true 16 (ai (fU v.1)++v.2)
def VM{N:Nat}(a:FN N)(v:Bs×Bs)(b:v.1.length<10000000)(c:v.2.length<10000000):cq N v=some (kF N v):=by
 obtain⟨w,e,o,d,f,_⟩:=Mv a v.2 c;unfold cq kF syv;rw[d,ahI,f];dsimp only;rw[BR a _ b,ahI];cases jY v.1<;>rfl
def aeG{N:Nat}(a:FN N)(v:Bs×Bs)(b:v.1.length<10000000)(d:v.2.length<10000000):bW N v=some (bif kF N v then(fH v,0) else([],8)):=by
 unfold bW syv;rw[VM a v (by omega) (by omega),ahI];cases h:kF N v
 ·rfl
 ·have hO:jY v.1=true:=by unfold kF at h;simp only[ahJ]at h;exact h.1
  have e:=sB v.1;have f:=Sd v.1 b;have c:=Ia a 0 6 (by omega) (by omega) false [je v.1] (by simp) (by simp;omega);simp only[ai2,ahQ,DG a _ (show v.1.length<10000000 by omega),hO,ahY,ahI,show aD N 0 false 6 [je v.1]=_ from c,aif,ai3,ah6,show((0:Int) !=0)=false from rfl];rw[Mu a _ (by simp) (by simp only[aif,ai3,ah6,ahN];show(ai (fU v.1)).length+_<=_;omega)];simp[fH,ai,fU]
def acC{N:Nat}(d:FN N)(v:Bs×Bs)(h:kF N v=true)(a:Bs)(g:fH v=a)(D:a.length<9000000):cu N a=some (v,0,0):=by
 obtain⟨s,p⟩:=v;unfold kF at h;simp only[ahJ]at h;obtain⟨hO,b⟩:=h;have q:(ai (fU s)++p).length<a.length:=by rw[<-g];exact kH
 rw[ahN]at q;have C:=DH s;have x:okT (fU s):=rP (by omega) (by omega) (by omega);have r:=NM d hO (by omega);unfold cu syv;obtain⟨t,e,rfl⟩:=abx d (by omega) b;obtain⟨l,k,m⟩:=nt d (c:=0) (num:=16) (by omega) (by omega) a [fU s,t] (by rw[<-g];simp[fH,au]) (by simp[x,e]) (by omega) 0 16 rfl rfl;obtain⟨w,j,o,n,f,_⟩:=Mv d (ai t) (by omega);rw[b]at f;have u:j=0:=by simpa using f.symm
 rw[k];rcases m with _|⟨i,_|⟨B,⟨⟩⟩⟩;have y:=i.yes 0 6 false 0 6 rfl rfl rfl rfl rfl;have z:=i.body;have A:=B.whole;simp[ix0,ix1,y,z,A,show(fU s).2.2.2=je s from rfl,r,nu (show(ai t).length<10000000 by omega),n,u]
def acD{N:Nat}(j:FN N)(a:Bs)(T:a.length<9000000):OW (cu N a) (PS (kF N) fH a):=by
 unfold cu syv;refine aj (tk j a (by omega) 0 16) ?_;rintro⟨l,e,o⟩ (⟨b,v,g,_,_,M,h⟩|⟨g,A,B⟩)
 ·cases b;dsimp only at h⊢;rw[show((0:Int) !=0)=false from rfl,ahQ];refine az (λc=>aa (qF (by decide) (by omega) (by omega))) λx=> ?_;refine az (λc=> ?_) λc=> ?_
  ·refine aj (xL (by omega) (by simpa using c)) λe P=> ?_;obtain⟨t,_,k⟩:=h.get P.1;obtain⟨p,q,r,d,i,D,F,H,J,b7⟩:=k.bd;exact aa (qF (by decide) (by rw[d];omega) (by rw[d];omega))
  ·rcases h with _| @⟨t1,e1,v,l,k1,_| @⟨t2,e2,v,l,k2,_| @⟨t3,e3,v,l,k3,h⟩⟩⟩
   ·cases x
   ·cases x
   ·obtain⟨p,q,r,d,i,D,F,H,J,b7⟩:=k1.bd;obtain⟨W,X,Y,f,C,E,G,I,K,L⟩:=k2.bd;have Q:=wm t1;rw[ix0,ahI];rcases k1.cs 0 6 false 0 6 rfl rfl with⟨u,n⟩|⟨u,_⟩
    ·rw[u,ahI,ai2,ahQ,ahI,ahI,k1.body,ahI];refine aj (xA j _ (by omega)) ?_;rintro⟨s,e⟩ (⟨b,y,d2⟩|b)
     ·dsimp only at b y d2;subst b;dsimp only;have O:ai t1=ai (fU s):=by rw[n];unfold fU;rw[d2]
      rw[show((0:Int) !=0)=false from rfl,ahQ,ix1,ahI,ahI,k2.whole,ahI,nu (by omega),ahI];obtain⟨w,z,o,R,S,U,V⟩:=Mv j (ai t2) (by omega);rw[R,ahI];dsimp only;by_cases m:z=0
      ·subst m;exact aa (V5 (by simp[kF,y,S]) (by rw[M,PB,O];simp[fH]))
      ·rw[show(z !=0)=true from by simpa using m,cond_true,Option.bind_some];exact aa (qF m (by rw[f,fX (by omega)];omega) (by rw[f,fX (by omega)];omega))
     ·cases b;exact aa (qF (by decide) (by rw[i];omega) (by rw[i];omega))
    ·rw[u,ahI,aky,ahY,ahI];exact aa (qF (by decide) (by rw[d];omega) (by rw[d];omega))
   ·exact absurd c (by simp;omega)
 ·dsimp only at g A B⊢;rw[show(e !=0)=true from by simpa using g];exact aa (qF g A B)
def acE{N:Nat}{v:Bs×Bs}(h:kF N v=true):v.1.length<=21*(fH v).length/\v.2.length<=(fH v).length:=by
 unfold kF at h;simp only[ahJ]at h;have b:=IQ h.1;have c:=DH v.1;have a:(ai (fU v.1)++v.2).length<(fH v).length:=kH;rw[ahN]at a;omega
end Go.Fw
def akL:=@Bool.true_and
namespace Go.Fw
open Go
def VN{T γ:Type}(l:List T)(ok:T->Bool)(enc:T->Bs)(F:Nat->Nat->List Bs->Option (Int⊕γ))(fin:List Bs->γ)(c:Int)
 (step:∀n i x a,l[i]?=some x->a.length=i->F (n+1) i a=if ok x=true then F n (i+1) (a++[enc x]) else some (.inl c))
 (d:∀n a,a.length=l.length->F (n+1) l.length a=some (.inr (fin a)))(N:Nat)(g:l.length<N):
 F N 0 []=if l.all ok=true then some (.inr (fin (l.map enc))) else some (.inl c):=by
 have e:∀(k n i:Nat),l.length-i=k->k<n->i<=l.length->F n i ((l.take i).map enc)=if (l.drop i).all ok=true then some (.inr (fin (l.map enc))) else some (.inl c):=by
  intro k;induction k with
  |zero=>
   intro n i o p j;obtain⟨n,rfl⟩:∃m,n=m+1:=⟨n-1,by omega⟩;obtain rfl:i=l.length:=by omega
   rw[d n _ (by simp),List.drop_length,ajb];rfl
  |succ k q=>
   intro n i o p j;obtain⟨n,rfl⟩:∃m,n=m+1:=⟨n-1,by omega⟩;have b:i<l.length:=by omega
   rw[step n i l[i] _ (ahK b) (by simp;omega),aii b,aja];cases h:ok l[i]
   ·simp
   ·have f:=q n (i+1) (by omega) (by omega) (by omega);rw[aiQ,ahK b,aiR]at f;simp only[akL,aiI];exact f
 exact e l.length N 0 (by omega) g (by omega)
def af5{T γ H:Type}(a:Bs)(g:List TLV)(l:List cM)(D:eT (EL a) g l)(ok:T->Bool)(enc:T->Bs)(p:Bs->Option (T×Int×Int))(F:Nat->Nat->List T->Option (γ⊕H))(fin:List T->H)(x:Int->Int->γ)
 (O:∀t∈g,OW (p (ai t)) (PS ok enc (ai t)))
 (good:∀n i e t b v,l[i]?=some e->EL a t e->g[i]?=some t->b.length=i->p (ai t)=some (v,0,0)->F (n+1) i b=F n (i+1) (b++[v]))
 (bad:∀n i e t b v c o,l[i]?=some e->EL a t e->g[i]?=some t->b.length=i->p (ai t)=some (v,c,o)->c≠0->F (n+1) i b=some (.inl (x c (aw .i64 e.2.2.2.1 o))))
 (u:∀n b,b.length=l.length->F (n+1) l.length b=some (.inr (fin b)))(N:Nat)(I:l.length<N)(W:a.length<10000000):
 (∃h,F N 0 []=some (.inr (fin h))/\h.all ok=true/\(h.map enc)=g.map ai)∨(∃c o,F N 0 []=some (.inl (x c o))/\c≠0/\0<=o/\o<=(a.length:Int)):=by
 have B:∀(k n i:Nat)(b:List T),l.length-i=k->k<n->i<=l.length->b.all ok=true->b.map enc=(g.take i).map ai->
  (∃h,F n i b=some (.inr (fin h))/\h.all ok=true/\(h.map enc)=g.map ai)∨(∃c o,F n i b=some (.inl (x c o))/\c≠0/\0<=o/\o<=(a.length:Int)):=by
  have E:=D.length;intro k;induction k with
  |zero=>
   intro n i b L M K y j;obtain⟨n,rfl⟩:∃m,n=m+1:=⟨n-1,by omega⟩;obtain rfl:i=l.length:=by omega
   have z:=ain List.length j;simp only[aiy,aig]at z;exact .inl ⟨b,u n b (by omega),y,by rw[j,aih (by omega)]⟩
  |succ k P=>
   intro n i b L M K y j;obtain⟨n,rfl⟩:∃m,n=m+1:=⟨n-1,by omega⟩;have f:i<l.length:=by omega
   have z:=ain List.length j;simp only[aiy,aig]at z;have d:b.length=i:=by omega
   obtain⟨t,w,A⟩:=D.get (ahK f);obtain⟨⟨v,c,o⟩,G,J⟩:=O t (aik w);rcases J with⟨q1,s,q3⟩|⟨q1,s,q3⟩
   ·cases q1;rw[good n i _ t b v (ahK f) A w d G];refine P n (i+1) _ (by omega) (by omega) (by omega) (by simp[y,s]) ?_;rw[aiR,j,aiQ,w,aiR];simp[q3]
   ·rw[bad n i _ t b v c o (ahK f) A w d G q1];obtain⟨p,q,r,C,Q,R,S,U,V,b7⟩:=A.bd;refine .inr ⟨_,_,rfl,q1,?_,?_⟩
    ·rw[C,fX (by dsimp only at s q3;omega)];dsimp only at s;omega
    ·rw[C,fX (by dsimp only at s q3;omega)];dsimp only at q3;omega
 exact B l.length N 0 [] (by omega) I (by omega) rfl (by simp)
def TX{T γ w:Type}(a:Bs)(g:List TLV)(l:List cM)(q:eT (EL a) g l)(enc:T->Bs)(p:Bs->Option (T×Int×Int))(F:Nat->Nat->List T->Option (γ⊕w))(fin:List T->w)(vs:List T)(u:vs.map enc=g.map ai)
 (D:∀v∈vs,p (enc v)=some (v,0,0))
 (good:∀n i e t b v,l[i]?=some e->EL a t e->g[i]?=some t->b.length=i->p (ai t)=some (v,0,0)->F (n+1) i b=F n (i+1) (b++[v]))
 (f:∀n b,b.length=l.length->F (n+1) l.length b=some (.inr (fin b)))(N:Nat)(y:l.length<N):F N 0 []=some (.inr (fin vs)):=by
 have r:=q.length;have E:vs.length=g.length:=by have:=ain List.length u;simpa using this
 have h:∀(k n i:Nat),l.length-i=k->k<n->i<=l.length->F n i (vs.take i)=some (.inr (fin vs)):=by
  intro k;induction k with
  |zero=>
   intro n i B C A;obtain⟨n,rfl⟩:∃m,n=m+1:=⟨n-1,by omega⟩;obtain rfl:i=l.length:=by omega
   rw[f n _ (by simp;omega),aih (by omega)]
  |succ k G=>
   intro n i B C A;obtain⟨n,rfl⟩:∃m,n=m+1:=⟨n-1,by omega⟩;have d:i<l.length:=by omega
   have c:i<vs.length:=by omega
   obtain⟨t,s,x⟩:=q.get (ahK d);have z:enc vs[i]=ai t:=by
    have j:(vs.map enc)[i]?=(g.map ai)[i]? :=by rw[u]
    rw[aiO,aiO,s,ahK c]at j;exact aiM j
   rw[good n i _ t _ vs[i] (ahK d) x s (by simp;omega) (by rw[<-z];exact D _ (aiL c))];have o:=G n (i+1) (by omega) (by omega) (by omega);rw[aiQ,ahK c]at o;exact o
 exact h l.length N 0 (by omega) y (by omega)
def aeH{T γ O:Type}(d:Nat->Bool)(a:Bs)(s:List TLV)(l:List cM)(L:eT (EL a) s l)(ok:T->Bool)(enc:T->Bs)(p:Bs->Option (T×Int×Int))(F:Nat->Nat->List T->Option (γ⊕O))(fin:List T->O)(D:Int->Int->γ)
 (hp:∀t∈s,OW (p (ai t)) (PS ok enc (ai t)))
 (good:∀n i e t b v,l[i]?=some e->EL a t e->s[i]?=some t->b.length=i->p (ai t)=some (v,0,0)->d i=true->F (n+1) i b=F n (i+1) (b++[v]))
 (x:∀n i e t b v,l[i]?=some e->EL a t e->s[i]?=some t->b.length=i->p (ai t)=some (v,0,0)->d i=false->F (n+1) i b=some (.inl (D 7 e.2.2.2.1)))
 (bad:∀n i e t b v c o,l[i]?=some e->EL a t e->s[i]?=some t->b.length=i->p (ai t)=some (v,c,o)->c≠0->F (n+1) i b=some (.inl (D c (aw .i64 e.2.2.2.1 o))))
 (C:∀n b,b.length=l.length->F (n+1) l.length b=some (.inr (fin b)))(N:Nat)(V:l.length<N)(ha:a.length<10000000):
 (∃w,F N 0 []=some (.inr (fin w))/\w.all ok=true/\(w.map enc)=s.map ai/\∀j<l.length,d j=true)∨(∃c o,F N 0 []=some (.inl (D c o))/\c≠0/\0<=o/\o<=(a.length:Int)):=by
 have K:∀(k n i:Nat)(b:List T),l.length-i=k->k<n->i<=l.length->b.all ok=true->b.map enc=(s.take i).map ai->(∀j<i,d j=true)->
  (∃w,F n i b=some (.inr (fin w))/\w.all ok=true/\(w.map enc)=s.map ai/\∀j<l.length,d j=true)∨(∃c o,F n i b=some (.inl (D c o))/\c≠0/\0<=o/\o<=(a.length:Int)):=by
  have M:=L.length;intro k;induction k with
  |zero=>
   intro n i b Y Z X G y u;obtain⟨n,rfl⟩:∃m,n=m+1:=⟨n-1,by omega⟩;obtain rfl:i=l.length:=by omega
   have H:=ain List.length y;simp only[aiy,aig]at H;exact .inl ⟨b,C n b (by omega),G,by rw[y,aih (by omega)],u⟩
  |succ k ih=>
   intro n i b Y Z X G y u;obtain⟨n,rfl⟩:∃m,n=m+1:=⟨n-1,by omega⟩;have g:i<l.length:=by omega
   have H:=ain List.length y;simp only[aiy,aig]at H;have f:b.length=i:=by omega
   obtain⟨t,A,z⟩:=L.get (ahK g);obtain⟨⟨v,c,o⟩,J,W⟩:=hp t (aik A);rcases W with⟨q1,B,q3⟩|⟨q1,B,q3⟩
   ·cases q1;cases I:d i
    ·rw[x n i _ t b v (ahK g) z A f J I];obtain⟨p,q,r,E,P,Q,R,S,U,b7⟩:=z.bd;exact .inr ⟨_,_,rfl,by decide,by omega,by omega⟩
    rw[good n i _ t b v (ahK g) z A f J I];refine ih n (i+1) _ (by omega) (by omega) (by omega) (by simp[G,B]) ?_ ?_
    ·rw[aiR,y,aiQ,A,aiR];simp[q3]
    ·intro j hj;rcases ah0 j i with h|h
     ·exact u j h
     ·rw[show j=i from by omega];exact I
   ·rw[bad n i _ t b v c o (ahK g) z A f J q1];obtain⟨p,q,r,E,P,Q,R,S,U,b7⟩:=z.bd;refine .inr ⟨_,_,rfl,q1,?_,?_⟩
    ·rw[E,fX (by dsimp only at B q3;omega)];dsimp only at B;omega
    ·rw[E,fX (by dsimp only at B q3;omega)];dsimp only at q3;omega
 exact K l.length N 0 [] (by omega) V (by omega) rfl (by simp) (by omega)
def aai{T γ y:Type}(d:Nat->Bool)(j:∀i,d i=true)(a:Bs)(h:List TLV)(l:List cM)(s:eT (EL a) h l)(enc:T->Bs)(p:Bs->Option (T×Int×Int))(F:Nat->Nat->List T->Option (γ⊕y))(fin:List T->y)(vs:List T)(x:vs.map enc=h.map ai)
 (G:∀v∈vs,p (enc v)=some (v,0,0))
 (good:∀n i e t b v,l[i]?=some e->EL a t e->h[i]?=some t->b.length=i->p (ai t)=some (v,0,0)->d i=true->F (n+1) i b=F n (i+1) (b++[v]))
 (g:∀n b,b.length=l.length->F (n+1) l.length b=some (.inr (fin b)))(N:Nat)(A:l.length<N):F N 0 []=some (.inr (fin vs)):=by
 have u:=s.length;have H:vs.length=h.length:=by have:=ain List.length x;simpa using this
 have o:∀(k n i:Nat),l.length-i=k->k<n->i<=l.length->F n i (vs.take i)=some (.inr (fin vs)):=by
  intro k;induction k with
  |zero=>
   intro n i D E C;obtain⟨n,rfl⟩:∃m,n=m+1:=⟨n-1,by omega⟩;obtain rfl:i=l.length:=by omega
   rw[g n _ (by simp;omega),aih (by omega)]
  |succ k I=>
   intro n i D E C;obtain⟨n,rfl⟩:∃m,n=m+1:=⟨n-1,by omega⟩;have f:i<l.length:=by omega
   have c:i<vs.length:=by omega
   obtain⟨t,w,z⟩:=s.get (ahK f);have B:enc vs[i]=ai t:=by
    have q:(vs.map enc)[i]?=(h.map ai)[i]? :=by rw[x]
    rw[aiO,aiO,w,ahK c]at q;exact aiM q
   rw[good n i _ t _ vs[i] (ahK f) z w (by simp;omega) (by rw[<-B];exact G _ (aiL c)) (j i)];have r:=I n (i+1) (by omega) (by omega) (by omega);rw[aiQ,ahK c]at r;exact r
 exact o l.length N 0 (by omega) A (by omega)
def AK{T:Type}(enc:T->Bs):∀(vs:List T)(v:T),v∈vs->(enc v).length<=((vs.map enc).flatten).length
 |[],_,h=>by simp at h
 |a::r,v,h=>by
  simp only[ahX,aif,ahN];rcases aib.1 h with rfl|h
  ·omega
  ·have:=AK enc r v h;omega
end Go.Fw
namespace Go.Fw
open Go
def Fl:Bs->Bs->Int
 |[],[]=>0
 |[],_::_=> -1
 |_::_,[]=>1
 |x::a,y::b=>if x.toNat<y.toNat then-1 else if y.toNat<x.toNat then 1 else Fl a b
def aaj(x y:UInt8):cr (x.toNat:Int) (y.toNat:Int)=some (if x.toNat<y.toNat then-1 else if y.toNat<x.toNat then 1 else 0):=by
 unfold cr cR dL syv;have h:∀n:Int,(n !=n)=false:=λn=>by simp
 simp only[h,ahI,ahQ];by_cases a:x.toNat<y.toNat
 ·rw[ahO (by omega:(x.toNat:Int)<(y.toNat:Int)),ah2 a];rfl
 ·rw[ahL (by omega:¬(x.toNat:Int)<(y.toNat:Int)),air a];by_cases b:y.toNat<x.toNat
  ·rw[ahO (by omega:(x.toNat:Int)>(y.toNat:Int)),ah2 b];rfl
  ·rw[ahL (by omega:¬(x.toNat:Int)>(y.toNat:Int)),air b];rfl
def ahu:Int⊕(Bs×Bs)->Int
 |.inl i=>i
 |.inr (a,b)=>if a.length<b.length then-1 else 0
def aak(N:Nat)(a b:Bs)(p:a.length<100000000):∀(k n i:Nat),a.length-i=k->k<n->i<=a.length->i<=b.length->∃y,aq N n (a,b,a,(a.length:Int),(i:Int))=some y/\ahu y=Fl (a.drop i) (b.drop i):=by
 intro k;induction k with
 |zero=>
  intro n i j l g f;obtain⟨n,rfl⟩:∃m,n=m+1:=⟨n-1,by omega⟩;refine⟨.inr (a,b),?_,?_⟩
  ·show(bif decide ((i:Int)<(a.length:Int)) then _ else _)=_;rw[ahL (by omega)];rfl
  ·rw[aip (show a.length<=i by omega)];show(if a.length<b.length then(-1:Int) else 0)=_;by_cases h:a.length<b.length
   ·rw[ah2 h,aii (show i<b.length by omega)];rfl
   ·rw[air h,aip (show b.length<=i by omega)];rfl
 |succ k o=>
  intro n i j l g f;obtain⟨n,rfl⟩:∃m,n=m+1:=⟨n-1,by omega⟩;have c:i<a.length:=by omega
  rw[aii c];show ∃y,(bif decide ((i:Int)<(a.length:Int)) then _ else _)=some y/\_;rw[ahO (by omega),ahY,de (ahK c),ahI];by_cases h:i<b.length
  ·rw[ahL (by omega:¬(i:Int)>=(b.length:Int)),ahQ,de (ahK h),ahI,aaj,ahI,aii h];unfold Fl;by_cases d:a[i].toNat<b[i].toNat
   ·rw[ah2 d,ah2 d];exact⟨_,rfl,rfl⟩
   ·rw[air d,air d];by_cases e:b[i].toNat<a[i].toNat
    ·rw[ah2 e,ah2 e];exact⟨_,rfl,rfl⟩
    ·rw[air e,air e,dD (by omega)];exact o n (i+1) (by omega) (by omega) (by omega) (by omega)
  ·rw[ahO (by omega:(i:Int)>=(b.length:Int)),ahY,aip (show b.length<=i by omega)];exact⟨_,rfl,rfl⟩
def acF{N:Nat}(e:FN N)(a b:Bs)(f:a.length<100000000):du N a b=some (Fl a b):=by
 unfold FN at e;obtain⟨y,d,c⟩:=aak N a b f a.length N 0 (by omega) (by omega) (by omega) (by omega);rw[aiz,aiz]at c;unfold du aA syv;rw[show aq N N (a,b,a,(a.length:Int),0)=some y from d,ahI,<-c];rcases y with i|⟨x,z⟩
 ·rfl
 ·show Option.bind (bif decide ((x.length:Int)<(z.length:Int)) then _ else _) _=some (if x.length<z.length then(-1:Int) else 0);by_cases h:x.length<z.length
  ·rw[ahO (by omega:(x.length:Int)<(z.length:Int)),ah2 h];rfl
  ·rw[ahL (by omega:¬(x.length:Int)<(z.length:Int)),air h];rfl
def pi:List Bs->Bool
 |[]=>true
 |a::r=>match r with
  |[]=>true
  |b::_=>decide (Fl a b<0)&&pi r
def HW(a b:Bs)(r:List Bs):pi (a::b::r)=(decide (Fl a b<0)&&pi (b::r)):=rfl
def Oz:∀(l:List Bs)(i:Nat),pi l=true->pi (l.take i)=true
 |_,0,_=>by simp[pi]
 |[],_+1,_=>rfl
 |[a],i+1,_=>by simp[pi]
 |a::b::r,1,_=>rfl
 |a::b::r,i+2,h=>by
  rw[HW,ahJ]at h;have:=Oz (b::r) (i+1) h.2;simp only[ajE]at this⊢;rw[HW,h.1,this];rfl
def aal(N:Nat)(e:FN N)(l:List Bs)(q:l.length<100000000)(o:∀x∈l,x.length<100000000):∀(k n i:Nat),l.length-i=k->k<n->1<=i->i<=l.length->bp N n (l,(l.length:Int),(i:Int))=some (bif pi (l.drop (i-1)) then .inr () else .inl false):=by
 intro k;induction k with
 |zero=>
  intro n i g j f d;obtain⟨n,rfl⟩:∃m,n=m+1:=⟨n-1,by omega⟩;show(bif decide ((i:Int)<(l.length:Int)) then _ else _)=_;rw[ahL (by omega),ahQ,aii (show i-1<l.length by omega),aip (show l.length<=i-1+1 by omega)];rfl
 |succ k p=>
  intro n i g j f d;obtain⟨n,rfl⟩:∃m,n=m+1:=⟨n-1,by omega⟩;have b:i<l.length:=by omega
  have a:i-1<l.length:=by omega
  show(bif decide ((i:Int)<(l.length:Int)) then _ else _)=_;rw[ahO (by omega),ahY,ahO (by omega:(i:Int)>0),ahY,US (by omega) (by omega),de (ahK a),ahI,de (ahK b),ahI,acF e _ _ (o _ (aiL a)),ahI,dD (by omega),aii a,aii (show i-1+1<l.length by omega),HW];have c:l[i-1+1]'(by omega)=l[i]:=by congr 1;omega
  rw[c];by_cases h:Fl l[i-1] l[i]<0
  ·rw[ahL (by omega:¬Fl l[i-1] l[i]>=0),ahO h,ahQ,akL];refine(p n (i+1) (by omega) (by omega) (by omega) (by omega)).trans ?_;rw[Nat.add_sub_cancel,aii b,show i-1+1+1=i+1 from by omega]
  ·rw[ahO (by omega:Fl l[i-1] l[i]>=0),ahL h];rfl
def NC{N:Nat}(b:FN N)(l:List Bs)(e:l.length<100000000)(g:∀x∈l,x.length<100000000):cO N l=some (pi l):=by
 have a:=b;unfold FN at a;unfold cO syv;cases l with
 |nil=>
  obtain⟨n,rfl⟩:∃m,N=m+1:=⟨N-1,by omega⟩;rfl
 |cons x r=>
  have c:bp N N (x::r,((x::r).length:Int),0)=some (bif pi (x::r) then .inr () else .inl false):=by
   obtain⟨n,f⟩:∃m,N=m+1:=⟨N-1,by omega⟩;have d:=aal N b (x::r) e g ((x::r).length-1) n 1 rfl (by omega) (by omega) (by simp);rw[show bp N N=bp N (n+1) from by rw[<-f]];show(bif decide ((0:Int)<((x::r).length:Int)) then _ else _)=_;rw[ahO (by simp only[ahP];omega),ahY];exact d
  rw[c,ahI];cases pi (x::r)<;>rfl
end Go.Fw
namespace Go.Fw
open Go
abbrev Rdn:=List (Bs×Bs)
noncomputable def rX(v:Bs×Bs):TLV:=(0,true,16,ai (fU v.1)++v.2)
def ND(v:Bs×Bs):fH v=ai (rX v):=rfl
noncomputable def mW(N:Nat)(r:Rdn):Bool:= !r.isEmpty&&(r.all (kF N)&&pi (r.map fH))
noncomputable def kl(r:Rdn):Bs:=tlv 0 true 17 ((r.map fH).flatten)
noncomputable def oO(N:Nat)(n:List Rdn):Bool:=n.all (mW N)
noncomputable def qQ(n:List Rdn):Bs:=tlv 0 true 16 ((n.map kl).flatten)
def wA(v:Bs×Bs):Nat:=v.1.length+v.2.length+20
def wR(r:Rdn):Nat:=(r.map wA).sum+20
def wN(n:List Rdn):Nat:=(n.map wR).sum+20
def Xz(v:Bs×Bs)(h:wA v<100000000):(fH v).length<=6*wA v:=by
 unfold wA at h⊢;have e:=sB v.1;have a:=iA (c:=0) (num:=6) (k:=false) (b:=je v.1) (by omega);have f:(ai (fU v.1)).length<=(je v.1).length+6:=a;have d:=iA (c:=0) (num:=16) (k:=true) (b:=ai (fU v.1)++v.2) (by rw[ahN];omega);rw[ahN]at d;show(tlv 0 true 16 (ai (fU v.1)++v.2)).length<=_;omega
def oP{T:Type}(w:T->Nat):∀(r:List T)(v:T),v∈r->w v<=(r.map w).sum
 |[],_,h=>by simp at h
 |a::r,v,h=>by
  simp only[ahX,ajd];rcases aib.1 h with rfl|h
  ·omega
  ·have:=oP w r v h;omega
def II{T:Type}(w:T->Nat)(e:T->Bs)(c:Nat):∀(r:List T),(∀v∈r,(e v).length<=c*w v)->((r.map e).flatten).length<=c*(r.map w).sum
 |[],_=>by simp
 |a::r,h=>by
  have d:=h a (by simp);have f:=II w e c r λv b=>h v (by simp[b]);simp only[ahX,aif,ahN,ajd,Nat.mul_add];omega
def ze{T:Type}(w:T->Nat)(c:Nat)(b:∀v,c<=w v):∀(r:List T),c*r.length<=(r.map w).sum
 |[]=>by simp
 |a::r=>by
  have d:=b a;have e:=ze w c b r;simp only[ahX,ajd,ahP,Nat.mul_add];omega
def OA(r:Rdn)(h:wR r<50000000):((r.map fH).flatten).length+120<=6*wR r:=by
 unfold wR at h⊢;have:=II wA fH 6 r λv a=>Xz v (by have:=oP wA r v a;omega);omega
def aam(r:Rdn)(h:wR r<50000000):(kl r).length<=6*wR r:=by
 have a:=OA r h;have d:=iA (c:=0) (num:=17) (k:=true) (b:=(r.map fH).flatten) (by omega);show(tlv 0 true 17 _).length<=_;omega
def XA{α:Type}(l:List α):(!l.isEmpty)= !((l.length:Int)==0):=by
 rw[Sc];cases l<;>simp
def aan{N:Nat}(e:FN N)(r:Rdn)(h:wR r<10000000)(k:Int)(c:Bool):ba N N (r,(r.length:Int),0,k,c,[])=if r.all (kF N)=true then some (.inr (k,c,r.map fH)) else some (.inl 8):=by
 have b:=e;unfold FN at b;have l:=ze wA 20 (λv=>by unfold wA;omega) r;unfold wR at h;refine VN r (kF N) fH (λn i a=>ba N n (r,(r.length:Int),(i:Int),k,c,a)) (λp=>(k,c,p)) 8 (λn i x a d f=> ?_) (λn a f=> ?_) N (by omega)
 ·have g:=ah d;have m:=oP wA r x (aik d);have j:wA x=x.1.length+x.2.length+20:=rfl;show(bif decide ((i:Int)<(r.length:Int)) then(bM N (i:Int) r).bind _ else _)=_;rw[ahO (by omega),ahY];unfold bM syv;rw[de d,ahI,aeG e x (by omega) (by omega)];cases kF N x
  ·rfl
  ·simp only[ahY,ahI,aiI];rw[show((0:Int) !=0)=false from rfl,ahQ,gK (by omega) (by simp only[ahP,ah9];omega),ahI,dD (by omega)];rfl
 ·show(bif decide ((r.length:Int)<(r.length:Int)) then _ else _)=_;rw[ahL (by omega)];rfl
def abp{N:Nat}(a:FN N)(r:Rdn)(h:wR r<10000000):ed N r=some (bif mW N r then(kl r,0) else([],8)):=by
 have b:=a;unfold FN at b;have c:=OA r (by omega);have j:=ze wA 20 (λv=>by unfold wA;omega) r;unfold ed mW syv;rw[XA];cases g:((r.length:Int)==0)
 ·rw[ahQ];unfold bQ syv;rw[aan a r h];cases i:r.all (kF N)
  ·simp
  ·rw[ah2 rfl,ahI];dsimp only;unfold wR at h c;rw[ahY,NC a _ (by simp;omega) (λx f=>by
    obtain⟨v,d,rfl⟩:=aiG.1 f;have:=AK fH r v d;omega),ahI]
   cases hO:pi (r.map fH)
   ·rfl
   ·have e:=Ia a 0 17 (by omega) (by omega) true (r.map fH) (by simp;omega) (by omega);rw[ai2,ahQ,show aD N 0 true 17 (r.map fH)=_ from e];rfl
 ·rfl
def VO(n:List Rdn)(h:wN n<50000000):((n.map kl).flatten).length+120<=6*wN n:=by
 unfold wN at h⊢;have:=II wR kl 6 n λv a=>aam v (by have:=oP wR n v a;omega);omega
def Mf{N:Nat}(b:FN N)(l:List Rdn)(h:wN l<10000000):eY N l=some (bif oO N l then(qQ l,0) else([],8)):=by
 have c:=b;unfold FN at c;have g:=VO l (by omega);have o:=ze wR 20 (λv=>by unfold wR;omega) l;unfold wN at h g;have k:=VN l (mW N) kl (λn i a=>bj N n (l,(l.length:Int),(i:Int),16,false,a)) (λp=>((16:Int),false,p)) 8 (λn i x a d f=>by
  have j:=ah d;have e:=oP wR l x (aik d);show(bif decide ((i:Int)<(l.length:Int)) then(dw N (i:Int) l).bind _ else _)=_;rw[ahO (by omega),ahY];unfold dw syv;rw[de d,ahI,abp b x (by omega)];cases mW N x
  ·rfl
  ·simp only[ahY,ahI,aiI];rw[show((0:Int) !=0)=false from rfl,ahQ,gK (by omega) (by simp only[ahP,ah9];omega),ahI,dD (by omega)];rfl) (λn a f=>by
  show(bif decide ((l.length:Int)<(l.length:Int)) then _ else _)=_;rw[ahL (by omega)];rfl) N (by omega)
 unfold eY cf oO syv;rw[show bj N N (l,(l.length:Int),0,16,false,[])=_ from k];cases m:l.all (mW N)
 ·simp
 ·rw[ah2 rfl,ahI];dsimp only;have e:=Ia b 0 16 (by omega) (by omega) true (l.map kl) (by simp;omega) (by omega);rw[ahQ,show aD N 0 true 16 (l.map kl)=_ from e];rfl
def uO{N:Nat}(a:FN N)(l:List Rdn)(h:wN l<10000000):ig N l=some (oO N l):=by
 unfold ig syv;rw[Mf a l h];cases oO N l<;>rfl
def XC{N:Nat}(a:FN N)(l:Rdn)(h:wR l<10000000):jR N l=some (mW N l):=by
 unfold jR syv;rw[abp a l h];cases mW N l<;>rfl
end Go.Fw
def ale:=@List.mem_of_mem_take
namespace Go.Fw
open Go
noncomputable def HY(r:Rdn):TLV:=(0,true,17,(r.map fH).flatten)
def XD(r:Rdn):kl r=ai (HY r):=rfl
noncomputable def jX(r:List Rdn):TLV:=(0,true,16,(r.map kl).flatten)
def IJ{T:Type}(enc:T->Bs)(tl:T->TLV)(h:∀v,enc v=ai (tl v))(vs:List T):vs.map enc=(vs.map tl).map ai:=by
 rw[List.map_map];exact List.map_congr_left λv _=>h v
def iE(t:TLV):t.2.2.2.length<(ai t).length:=by have:=wm t;omega
def ko:∀(b:List TLV)(t:TLV),t∈b->(ai t).length<=(au b).length
 |[],_,h=>by simp at h
 |a::r,t,h=>by
  rw[iH,ahN];rcases aib.1 h with rfl|h
  ·omega
  ·have:=ko r t h;omega
def Fm{N:Nat}(k:FN N)(a:Bs)(y:a.length<9000000)(b:List TLV)(l:List cM)(m:eT (EL a) b l)(z:(au b).length<9000000)(n i:Nat)(e:cM)(t:TLV)(acc:Rdn)(v:Bs×Bs)(c o:Int)(d:l[i]?=some e)(j:EL a t e)(g:acc.length=i)(w:cu N (ai t)=some (v,c,o))(r:b[i]?=some t):
 bv N (n+1) (a,l,(l.length:Int),(i:Int),0,0,acc,(b.take i).map ai)=bif c !=0 then some (.inl (c,aw .i64 e.2.2.2.1 o)) else bif pi ((b.take (i+1)).map ai) then bv N n (a,l,(l.length:Int),((i+1:Nat):Int),0,0,acc++[v],(b.take (i+1)).map ai) else some (.inl (7,e.2.2.2.1)):=by
 have q:=ah d;have h:=m.length;have p:=jb b;have f:(b.take i).map ai++[ai t]=(b.take (i+1)).map ai:=by rw[aiQ,r,aiR];rfl
 show(bif decide ((i:Int)<(l.length:Int)) then _ else _)=_;rw[ahO (by omega),ahY,de d,ahI,j.whole,ahI,gK (by omega) (by simp;omega),ahI,ahI,w,ahI,f];dsimp only;rw[NC k _ (by simp;omega) (λx d=>by
  obtain⟨u,s,rfl⟩:=aiG.1 d;have:=ko b u (ale s);omega),ahI,gK (by omega) (by simp only[ahP,ah9];omega),ahI,dD (by omega)]
 cases pi ((b.take (i+1)).map ai)<;>rfl
def XE{N:Nat}(k:FN N)(a:Bs)(y:a.length<9000000):OW (dq N a) (PS (mW N) kl a):=by
 have x:=k;unfold FN at x;unfold dq syv;refine aj (tk k a (by omega) 0 17) ?_;rintro⟨l,e,o⟩ (⟨L,d,w,_,_,I,j⟩|⟨w,G,H⟩)
 ·cases L;dsimp only at j⊢;rw[show((0:Int) !=0)=false from rfl,ahQ,Sc];have P:(au d).length<a.length:=by rw[I];exact kH
  have M:=jb d;have q:=j.length;by_cases g:l=[]
  ·rw[ahO g];exact aa (qF (by decide) (by omega) (by omega))
  ·rw[ahL g,ahQ];have E:=aeH (λi=>pi ((d.take (i+1)).map ai)) a d l j (kF N) fH (cu N) (λn i b=>bv N n (a,l,(l.length:Int),(i:Int),0,0,b,(d.take i).map ai)) (λv=>((0:Int),(0:Int),v)) (λc o=>(c,o))
    (λt h=>acD k _ (by have:=ko d t h;omega))
    (λn i e t b v s m h f r p=>by
      show bv N (n+1) _=_;rw[Fm k a y d l j (by omega) n i e t b v 0 0 s m f r h,p];rfl)
    (λn i e t b v s m h f r p=>by
      show bv N (n+1) _=_;rw[Fm k a y d l j (by omega) n i e t b v 0 0 s m f r h,p];rfl)
    (λn i e t b v c o s m h f r p=>by
      show bv N (n+1) _=_;rw[Fm k a y d l j (by omega) n i e t b v c o s m f r h,show(c !=0)=true from by simpa using p];rfl)
    (λn b J=>by
      show(bif decide ((l.length:Int)<(l.length:Int)) then _ else _)=_;rw[ahL (by omega)];rfl) N (by omega) (by omega)
   have O:bv N N (a,l,(l.length:Int),0,0,0,[],[])=bv N N (a,l,(l.length:Int),((0:Nat):Int),0,0,[],(d.take 0).map ai):=rfl;rw[O];rcases E with⟨F,B,C,u,D⟩|⟨c,o,B,C,u,D⟩
   ·rw[B,ahI];have z:d≠[]:=λe=>by subst e;exact g (ait (by simpa using q.symm))
    have A:F≠[]:=λe=>by
     subst e;have:=ain List.length u;simp at this;exact z (ait this.symm)
    have hO:pi (F.map fH)=true:=by
     have K:0<l.length:=by cases l with|nil=>exact absurd rfl g|cons=>simp
     have:=D (l.length-1) (by omega);rw[show l.length-1+1=d.length from by omega,ajb]at this;rw[u,this]
    refine aa (V5 ?_ ?_)
    ·unfold mW;rw[C,hO];cases F with
     |nil=>exact absurd rfl A
     |cons=>rfl
    ·rw[I];unfold kl;rw[u];rfl
   ·rw[B,ahI];exact aa (qF C u D)
 ·dsimp only at w G H⊢;rw[show(e !=0)=true from by simpa using w];exact aa (qF w G H)
def RQ{T:Type}(enc:T->Bs)(tl:T->TLV)(h:∀v,enc v=ai (tl v))(vs:List T):(vs.map enc).flatten=au (vs.map tl):=by
 rw[IJ enc tl h];rfl
def aeI{N:Nat}(q:FN N)(r:Rdn)(h:mW N r=true)(a:Bs)(p:kl r=a)(G:a.length<9000000):dq N a=some (r,0,0):=by
 have u:=q;unfold FN at u;unfold mW at h;simp only[ahJ]at h;obtain⟨D,E,F⟩:=h;have M:((r.map fH).flatten).length<a.length:=by rw[<-p];exact kH
 have j:=RQ fH rX ND r;have f:∀v∈r,(fH v).length<9000000:=λv g=>by have:=AK fH r v g;omega
 have o:∀v∈r,kF N v=true:=aie.1 E;obtain⟨l,C,s⟩:=nt q (c:=0) (num:=17) (by omega) (by omega) a (r.map rX) (by rw[<-p,<-j];rfl) (λt y=>by
  obtain⟨v,g,rfl⟩:=aiG.1 y;have:=f v g;exact rP (by omega) (by omega) (by have:=kH (c:=0) (num:=16) (k:=true) (b:=ai (fU v.1)++v.2);have e:(tlv 0 true 16 (ai (fU v.1)++v.2)).length=(fH v).length:=rfl;omega)) (by omega) 0 17 rfl rfl
 have m:=s.length;have K:(au (r.map rX)).length<9000000:=by rw[<-j];omega
 have I:=jb (r.map rX);unfold dq syv;rw[C,ahI];dsimp only;have x:l≠[]:=λe=>by
  subst e;have:r=[]:=ait (by simpa using m);subst this;cases D
 have B:=IJ fH rX ND r;have z:=aai (λi=>pi (((r.map rX).take (i+1)).map ai)) (λi=>by
  show pi (((r.map rX).take (i+1)).map ai)=true;rw[List.map_take,<-B];exact Oz _ _ F) a (r.map rX) l s fH (cu N) (λn i d=>bv N n (a,l,(l.length:Int),(i:Int),0,0,d,((r.map rX).take i).map ai)) (γ:=Int×Int) (λv=>((0:Int),(0:Int),v)) r B
  (λv g=>acC q v (o v g) _ rfl (f v g))
  (λn i e t d v L p y w g H=>by
    show bv N (n+1) _=_;rw[Fm q a G _ l s K n i e t d v 0 0 L p w g y,H];rfl)
  (λn d A=>by
    show(bif decide ((l.length:Int)<(l.length:Int)) then _ else _)=_;rw[ahL (by omega)];rfl) N (by omega)
 have J:bv N N (a,l,(l.length:Int),0,0,0,[],[])=bv N N (a,l,(l.length:Int),((0:Nat):Int),0,0,[],((r.map rX).take 0).map ai):=rfl;rw[show((0:Int) !=0)=false from rfl,ahQ,Sc,ahL x,ahQ,J,z];rfl
end Go.Fw
namespace Go.Fw
open Go
def acG{r:Rdn}(h:(kl r).length<9000000):okT (HY r):=by
 have a:((r.map fH).flatten).length<(kl r).length:=kH;exact rP (by omega) (by omega) (by omega)
def H0{N:Nat}(q:FN N)(a:Bs)(b:List TLV)(l:List cM)(j:eT (EL a) b l)(r:(au b).length<9000000)(n i:Nat)(e:cM)(t:TLV)(acc:List Rdn)(v:Rdn)(c o:Int)(g:l[i]?=some e)(h:EL a t e)(d:acc.length=i)(p:dq N (ai t)=some (v,c,o)):
 cT N (n+1) (a,l,(l.length:Int),(i:Int),0,0,acc)=bif c !=0 then some (.inl (c,aw .i64 e.2.2.2.1 o)) else cT N n (a,l,(l.length:Int),((i+1:Nat):Int),0,0,acc++[v]):=by
 have m:=ah g;have f:=j.length;have k:=jb b;show(bif decide ((i:Int)<(l.length:Int)) then _ else _)=_;rw[ahO (by omega),ahY,de g,ahI,h.whole,ahI,p,ahI];dsimp only;rw[gK (by omega) (by simp only[ahP,ah9];omega),ahI,dD (by omega)];rfl
def acH{N:Nat}(h:FN N)(a:Bs)(H:a.length<9000000):OW (gP N a) (PS (oO N) qQ a):=by
 have m:=h;unfold FN at m;unfold gP syv;refine aj (tk h a (by omega) 0 16) ?_;rintro⟨l,e,o⟩ (⟨D,f,j,_,_,A,g⟩|⟨j,y,z⟩)
 ·cases D;dsimp only at g⊢;rw[show((0:Int) !=0)=false from rfl,ahQ];have I:(au f).length<a.length:=by rw[A];exact kH
  have F:=jb f;have C:=g.length;have x:=af5 a f l g (mW N) kl (dq N) (λn i b=>cT N n (a,l,(l.length:Int),(i:Int),0,0,b)) (λv=>((0:Int),(0:Int),v)) (λc o=>(c,o))
   (λt p=>XE h _ (by have:=ko f t p;omega))
   (λn i e t b v r k p d q=>by
     show cT N (n+1) _=_;rw[H0 h a f l g (by omega) n i e t b v 0 0 r k d q];rfl)
   (λn i e t b v c o r k p d q E=>by
     show cT N (n+1) _=_;rw[H0 h a f l g (by omega) n i e t b v c o r k d q,show(c !=0)=true from by simpa using E];rfl)
   (λn b B=>by
     show(bif decide ((l.length:Int)<(l.length:Int)) then _ else _)=_;rw[ahL (by omega)];rfl) N (by omega) (by omega)
  rw[show cT N N (a,l,(l.length:Int),0,0,0,[])=cT N N (a,l,(l.length:Int),((0:Nat):Int),0,0,[]) from rfl];rcases x with⟨J,s,u,w⟩|⟨c,o,s,u,w,G⟩
  ·rw[s,ahI];refine aa (V5 u ?_);rw[A];unfold qQ;rw[w];rfl
  ·rw[s,ahI];exact aa (qF u w G)
 ·dsimp only at j y z⊢;rw[show(e !=0)=true from by simpa using j];exact aa (qF j y z)
def TY{N:Nat}(m:FN N)(r:List Rdn)(h:oO N r=true)(a:Bs)(k:qQ r=a)(D:a.length<9000000):gP N a=some (r,0,0):=by
 have p:=m;unfold FN at p;have E:((r.map kl).flatten).length<a.length:=by rw[<-k];exact kH
 have g:=RQ kl HY XD r;have d:∀v∈r,(kl v).length<9000000:=λv f=>by have:=AK kl r v f;omega
 have j:∀v∈r,mW N v=true:=aie.1 h;obtain⟨l,y,o⟩:=nt m (c:=0) (num:=16) (by omega) (by omega) a (r.map HY) (by rw[<-k,<-g];rfl) (λt x=>by
  obtain⟨v,f,rfl⟩:=aiG.1 x;exact acG (d v f)) (by omega) 0 16 rfl rfl
 have w:=o.length;have B:(au (r.map HY)).length<9000000:=by rw[<-g];omega
 have z:=jb (r.map HY);unfold gP syv;rw[y,ahI];dsimp only;have A:=IJ kl HY XD r;have s:=TX a (r.map HY) l o kl (dq N) (λn i b=>cT N n (a,l,(l.length:Int),(i:Int),0,0,b)) (γ:=Int×Int) (λv=>((0:Int),(0:Int),v)) r A
  (λv f=>aeI m v (j v f) _ rfl (d v f))
  (λn i e t b v C k x q f=>by
    show cT N (n+1) _=_;rw[H0 m a _ l o B n i e t b v 0 0 C k q f];rfl)
  (λn b u=>by
    show(bif decide ((l.length:Int)<(l.length:Int)) then _ else _)=_;rw[ahL (by omega)];rfl) N (by omega)
 rw[show((0:Int) !=0)=false from rfl,ahQ,show cT N N (a,l,(l.length:Int),0,0,0,[])=cT N N (a,l,(l.length:Int),((0:Nat):Int),0,0,[]) from rfl,s];rfl
def XF{N:Nat}{r:Rdn}(h:mW N r=true):wR r<=32*(kl r).length:=by
 unfold mW at h;simp only[ahJ]at h;have a:=aie.1 h.2.1;have i:((r.map fH).flatten).length<(kl r).length:=kH;have b:∀(l:Rdn),(∀v∈l,kF N v=true)->(l.map wA).sum<=32*((l.map fH).flatten).length:=by
  intro l;induction l with
  |nil=>simp
  |cons v l g=>
   intro c;have j:=acE (c v (by simp));have d:=g λx f=>c x (by simp[f]);have e:=EN (rX v);rw[<-ND]at e;simp only[ahX,ajd,aif,ahN];unfold wA at d⊢;omega
 have:=b r a;unfold wR;omega
def acI{N:Nat}{n:List Rdn}(h:oO N n=true):wN n<=32*(qQ n).length:=by
 have a:=aie.1 h;have f:((n.map kl).flatten).length<(qQ n).length:=kH;have b:∀(l:List Rdn),(∀v∈l,mW N v=true)->(l.map wR).sum<=32*((l.map kl).flatten).length:=by
  intro l;induction l with
  |nil=>simp
  |cons v l e=>
   intro c;have g:=XF (c v (by simp));have i:=e λx d=>c x (by simp[d]);simp only[ahX,ajd,aif,ahN];omega
 have:=b n a;unfold wN;omega
end Go.Fw
namespace Go.Fw
open Go
abbrev gn:=Bs×Bool×Bs
def BP:TLV:=(0,false,1,[255])
def pj(b:Bs):TLV:=(0,false,4,b)
noncomputable def lw(v:gn):List TLV:=fU v.1::((bif v.2.1 then [BP] else [])++[pj v.2.2])
noncomputable def wz(v:gn):Bool:=jY v.1
noncomputable def H2(v:gn):TLV:=(0,true,16,au (lw v))
noncomputable def lF(v:gn):Bs:=ai (H2 v)
def wE(v:gn):Nat:=v.1.length+v.2.2.length+40
def aao(b:Bs)(h:b.length<4000000000):(ai (pj b)).length<=b.length+6:=iA (b:=b) (by omega)
def XG:(ai BP).length=3:=by decide
def H3(v:gn)(h:wE v<100000000):(au (lw v)).length+200<=6*wE v:=by
 unfold wE at h⊢;have a:=sB v.1;have d:(ai (fU v.1)).length<=(je v.1).length+6:=iA (c:=0) (num:=6) (k:=false) (b:=je v.1) (by omega);have e:=aao v.2.2 (by omega);have f:=XG;unfold lw;cases v.2.1
 ·simp only[ahQ,aiw];rw[PB,ahN];omega
 ·simp only[ahY,aku];rw[aby,ahN,ahN];omega
def aap(v:gn)(h:wE v<100000000):(lF v).length<=6*wE v:=by
 have a:=H3 v h;have d:(lF v).length<=(au (lw v)).length+6:=iA (c:=0) (num:=16) (k:=true) (b:=au (lw v)) (by unfold wE at a h;omega);omega
def mR{N:Nat}(g:FN N)(c num:Nat)(k:Bool)(b:Bs)(e f:Int)(a:e=(c:Int))(d:f=(num:Int))(i:c<4)(j:num<31)(l:b.length<2000000000):aD N e k f [b]=some (ai (c,k,num,b),0):=by
 subst a d;have h:=Ia g c num i j k [b] (by simp) (by simp;omega);rw[h];simp[ai]
def Fo{N:Nat}(a:FN N)(xs:List Bs)(b:Bs)(e:xs.flatten=b)(c:xs.length<10000000)(d:b.length<2000000000):aH N xs=some (ai (0,true,16,b),0):=by
 subst e;exact Mu a xs c (by omega)
def af6{N:Nat}(a:FN N)(v:gn)(h:wE v<10000000):lx N v=some (bif wz v then(lF v,0) else([],8)):=by
 have e:=H3 v (by omega);have d:=h;unfold wE at d e;have f:=sB v.1;unfold lx wz syv;rw[DG a _ (by omega)];cases hO:jY v.1
 ·rfl
 ·rw[ahY,ahI];dsimp only;rw[show((0:Int) !=0)=false from rfl,ahQ,mR a 0 6 false (je v.1) 0 6 rfl rfl (by omega) (by omega) (by omega),ahI];dsimp only;rw[gK (by omega) (by simp),ahI];cases c:v.2.1
  ·have b:[ai (fU v.1),ai (pj v.2.2)].flatten=au (lw v):=by
    unfold lw;rw[c];simp[au]
   rw[ahQ,ahI];dsimp only;rw[mR a 0 4 false v.2.2 0 4 rfl rfl (by omega) (by omega) (by omega),ahI];dsimp only;rw[gK (by omega) (by simp),ahI,show(iO (iO 0 0) 0 !=0)=false from by rw[po,po];rfl,ahQ];show Option.bind (aH N [ai (fU v.1),ai (pj v.2.2)]) _=_;rw[Fo a _ _ b (by simp) (by omega)];rfl
  ·have b:[ai (fU v.1),ai BP,ai (pj v.2.2)].flatten=au (lw v):=by
    unfold lw;rw[c];simp[au]
   rw[ahY,show lW true=some [255] from rfl,ahI,mR a 0 1 false [255] 0 1 rfl rfl (by omega) (by omega) (by simp),ahI];dsimp only;rw[gK (by omega) (by simp),ahI,ahI];dsimp only;rw[mR a 0 4 false v.2.2 0 4 rfl rfl (by omega) (by omega) (by omega),ahI];dsimp only;rw[gK (by omega) (by simp),ahI,show(iO (iO (iO 0 0) 0) 0 !=0)=false from by rw[po,po,po];rfl,ahQ];show Option.bind (aH N [ai (fU v.1),ai BP,ai (pj v.2.2)]) _=_;rw[Fo a _ _ b (by simp) (by omega)];rfl
def aeJ:cP [255]=some (true,0):=rfl
def acJ{v:gn}(h:(lF v).length<9000000):okT (H2 v):=by
 have a:(au (lw v)).length<(lF v).length:=kH;exact rP (by omega) (by omega) (by omega)
def aeK{N:Nat}(o:FN N)(v:gn)(h:wz v=true)(a:Bs)(n:lF v=a)(C:a.length<9000000):lc N a=some (v,0,0):=by
 obtain⟨s,c,b⟩:=v;have hO:jY s=true:=h;have D:(au (lw (s,c,b))).length<a.length:=by rw[<-n];exact kH
 have y:=DH s;have E:(ai (fU s)).length<=(au (lw (s,c,b))).length:=ko _ _ (by simp[lw]);have z:(ai (pj b)).length<=(au (lw (s,c,b))).length:=ko _ _ (by simp[lw]);have e:=iE (pj b);have p:b.length<(ai (pj b)).length:=e;have g:okT (fU s):=rP (by omega) (by omega) (by omega);have f:okT (pj b):=rP (by omega) (by omega) (by omega);have q:okT BP:=rP (by omega) (by omega) (by simp);have d:=NM o hO (by omega);unfold lc syv;cases c
 ·obtain⟨l,k,m⟩:=nt o (c:=0) (num:=16) (by omega) (by omega) a [fU s,pj b] (by rw[<-n];rfl) (by simp[g,f]) (by omega) 0 16 rfl rfl;rw[k];rcases m with _|⟨i,_|⟨j,⟨⟩⟩⟩;have r:=i.yes 0 6 false 0 6 rfl rfl rfl rfl rfl;have t:=i.body;have u:=j.yes 0 4 false 0 4 rfl rfl rfl rfl rfl;have w:=j.body;simp[ix0,ix1,r,t,u,w,show(fU s).2.2.2=je s from rfl,show(pj b).2.2.2=b from rfl,d,nu (show b.length<10000000 by omega),show aU .i64 2 1=1 from rfl]
 ·obtain⟨l,k,m⟩:=nt o (c:=0) (num:=16) (by omega) (by omega) a [fU s,BP,pj b] (by rw[<-n];rfl) (by simp[g,f,q]) (by omega) 0 16 rfl rfl;rw[k];rcases m with _|⟨i,_|⟨j,_|⟨x,⟨⟩⟩⟩⟩;have r:=i.yes 0 6 false 0 6 rfl rfl rfl rfl rfl;have t:=i.body;have A:=j.yes 0 1 false 0 1 rfl rfl rfl rfl rfl;have B:=j.body;have u:=x.yes 0 4 false 0 4 rfl rfl rfl rfl rfl;have w:=x.body;simp[ix0,ix1,ix2,r,t,A,B,u,w,aeJ,show(fU s).2.2.2=je s from rfl,show BP.2.2.2=[255] from rfl,show(pj b).2.2.2=b from rfl,d,nu (show b.length<10000000 by omega),show aU .i64 3 1=2 from rfl]
end Go.Fw
namespace Go.Fw
open Go
def wL(l:List gn):Nat:=(l.map wE).sum+20
noncomputable def Fp:List Bs->List gn->Bool
 |_,[]=>true
 |seen,x::r=> !Rf x.1 seen&&(jY x.1&&Fp (Hy x.1 seen) r)
noncomputable def nL(l:List gn):Bool:=Fp [] l&& !l.isEmpty
noncomputable def abq(l:List gn):TLV:=(0,true,16,(l.map lF).flatten)
noncomputable def pR(l:List gn):Bs:=ai (abq l)
def KD:∀(l:List gn)(seen:List Bs),Fp seen l=true->∀x∈l,jY x.1=true
 |[],_,_,x,b=>by simp at b
 |a::r,seen,h,x,b=>by
  unfold Fp at h;simp only[ahJ]at h;rcases aib.1 b with rfl|b
  ·exact h.2.1
  ·exact KD r _ h.2.2 x b
def OB{N:Nat}(a:FN N)(v:gn)(h:v.1.length<10000000):dA N v=some (jY v.1):=by
 unfold dA syv;rw[BR a _ h];rfl
def XH{N:Nat}(b:FN N)(l:List gn)(h:l.length<10000000)(f:∀x∈l,x.1.length<10000000):∀(k n i:Nat)(seen:List Bs),l.length-i=k->k<n->i<=l.length->
 iR N n (l,l,(l.length:Int),(i:Int),seen)=some (bif Fp seen (l.drop i) then .inr l else .inl false):=by
 intro k;induction k with
 |zero=>
  intro n i seen d e c;obtain⟨n,rfl⟩:∃m,n=m+1:=⟨n-1,by omega⟩;show(bif decide ((i:Int)<(l.length:Int)) then _ else _)=_;rw[ahL (by omega),ahQ,aip (by omega)];rfl
 |succ k g=>
  intro n i seen d e c;obtain⟨n,rfl⟩:∃m,n=m+1:=⟨n-1,by omega⟩;have a:i<l.length:=by omega
  show(bif decide ((i:Int)<(l.length:Int)) then _ else _)=_;rw[ahO (by omega),ahY,de (ahK a),ahI,OB b _ (f _ (aiL a)),ahI,dD (by omega),aii a];unfold Fp;cases Rf l[i].1 seen
  ·cases jY l[i].1
   ·rfl
   ·simp only[ahQ,ai2,aky,akL];exact g n (i+1) _ (by omega) (by omega) (by omega)
  ·rfl
def KE{N:Nat}(c:FN N)(l:List gn)(d:l.length<10000000)(e:∀x∈l,x.1.length<10000000):ky N l=some (nL l):=by
 have b:=c;unfold FN at b;unfold ky nL syv;have h:=XH c l d e l.length N 0 [] (by omega) (by omega) (by omega);rw[show iR N N (l,l,(l.length:Int),0,[])=_ from h,ahI,aiz];cases Fp [] l
 ·rfl
 ·simp only[ahY,akL,ahM];cases l with
  |nil=>rfl
  |cons a r=>exact ahO (by simp only[ahP];omega)
def Mg{N:Nat}(a:FN N)(l:List gn)(b:l.length<10000000)(c:∀x∈l,x.1.length<10000000):iS N l=some (nL l):=by
 unfold iS syv;rw[KE a l b c];rfl
def F9(l:List gn)(h:wL l<50000000):((l.map lF).flatten).length+120<=6*wL l:=by
 unfold wL at h⊢;have:=II wE lF 6 l λv a=>aap v (by have:=oP wE l v a;omega);omega
def XI(l:List gn)(h:wL l<50000000):(pR l).length<=6*wL l:=by
 have a:=F9 l h;have d:(pR l).length<=((l.map lF).flatten).length+6:=iA (c:=0) (num:=16) (k:=true) (b:=(l.map lF).flatten) (by omega);omega
def RR(l:List gn):40*l.length+20<=wL l:=by
 have:=ze wE 40 (λv=>by unfold wE;omega) l;unfold wL;omega
def RS{l:List gn}{x:gn}(h:x∈l):x.1.length+x.2.2.length+60<=wL l:=by
 have a:=oP wE l x h;have b:wE x=x.1.length+x.2.2.length+40:=rfl;unfold wL;omega
def aeL{N:Nat}(c:FN N)(l:List gn)(h:wL l<10000000):ib N l=some (bif nL l then(pR l,0) else([],8)):=by
 have d:=c;unfold FN at d;have m:=F9 l (by omega);have o:=RR l;unfold ib syv;rw[KE c l (by omega) (λx b=>by have:=RS b;omega),ahI];cases f:nL l
 ·rfl
 ·have e:l.all wz=true:=by
   unfold nL at f;rw[ahJ]at f;exact aie.2 λx b=>KD l [] f.1 x b
  have k:=VN l wz lF (λn i a=>iz N n (l,(l.length:Int),(i:Int),a)) (λp=>p) 8 (λn i x a b g=>by
   have j:=ah b;have q:=RS (aik b);show(bif decide ((i:Int)<(l.length:Int)) then _ else _)=_;rw[ahO (by omega),ahY,de b,ahI,af6 c x (by unfold wE;omega)];cases wz x
   ·rfl
   ·simp only[ahY,ahI,aiI];rw[show((0:Int) !=0)=false from rfl,ahQ,gK (by omega) (by simp only[ahP,ah9];omega),ahI,dD (by omega)];rfl) (λn a g=>by
   show(bif decide ((l.length:Int)<(l.length:Int)) then _ else _)=_;rw[ahL (by omega)];rfl) N (by omega)
  rw[ai2,ahQ,show iz N N (l,(l.length:Int),0,[])=_ from k,ah2 e,ahI];dsimp only;rw[Fo c (l.map lF) _ rfl (by simp;omega) (by omega)];rfl
def XJ{N:Nat}(q:FN N)(a:Bs)(b:List TLV)(l:List cM)(j:eT (EL a) b l)(r:(au b).length<9000000)(n i:Nat)(e:cM)(t:TLV)(acc:List gn)(v:gn)(c o:Int)(g:l[i]?=some e)(h:EL a t e)(d:acc.length=i)(p:lc N (ai t)=some (v,c,o)):
 ff N (n+1) (a,l,(l.length:Int),(i:Int),0,0,acc)=bif c !=0 then some (.inl (c,aw .i64 e.2.2.2.1 o)) else ff N n (a,l,(l.length:Int),((i+1:Nat):Int),0,0,acc++[v]):=by
 have m:=ah g;have f:=j.length;have k:=jb b;show(bif decide ((i:Int)<(l.length:Int)) then _ else _)=_;rw[ahO (by omega),ahY,de g,ahI,h.whole,ahI,p,ahI];dsimp only;rw[gK (by omega) (by simp only[ahP,ah9];omega),ahI,dD (by omega)];rfl
def aeM{v:gn}(h:wz v=true):wE v<=32*(lF v).length:=by
 have a:=IQ h;have b:=DH v.1;have c:(au (lw v)).length<(lF v).length:=kH;have d:(ai (fU v.1)).length+(ai (pj v.2.2)).length<=(au (lw v)).length:=by
  unfold lw;cases v.2.1
  ·simp only[ahQ,aiw];rw[PB,ahN];omega
  ·simp only[ahY,aku];rw[aby,ahN,ahN];omega
 have e:v.2.2.length<(ai (pj v.2.2)).length:=iE (pj v.2.2);unfold wE;omega
def TZ:∀(l:List gn),l.all wz=true->(l.map wE).sum<=32*((l.map lF).flatten).length
 |[],_=>by simp
 |v::l,h=>by
  rw[aja,ahJ]at h;have a:=aeM h.1;have b:=TZ l h.2;simp only[ahX,ajd,aif,ahN];omega
def Mh{l:List gn}(h:nL l=true):l.all wz=true:=by
 unfold nL at h;rw[ahJ]at h;exact aie.2 λx a=>KD l [] h.1 x a
def acK{N:Nat}(g:FN N)(r:List gn)(h:nL r=true)(a:Bs)(m:pR r=a)(I:a.length<300000):kz N a=some (r,0,0):=by
 have p:=g;unfold FN at p;have J:((r.map lF).flatten).length<a.length:=by rw[<-m];exact iE (abq r)
 have j:=RQ lF H2 (λ_=>rfl) r;have d:∀v∈r,(lF v).length<9000000:=λv f=>by have:=AK lF r v f;omega
 have k:∀v∈r,wz v=true:=aie.1 (Mh h);have E:=TZ r (Mh h);have F:=ze wE 40 (λv=>by unfold wE;omega) r;obtain⟨l,A,o⟩:=nt g (c:=0) (num:=16) (by omega) (by omega) a (r.map H2) (by rw[<-m,<-j];rfl) (λt z=>by
  obtain⟨v,f,rfl⟩:=aiG.1 z;exact acJ (d v f)) (by omega) 0 16 rfl rfl
 have y:=o.length;have D:(au (r.map H2)).length<9000000:=by rw[<-j];omega
 have B:=jb (r.map H2);unfold kz syv;rw[A,ahI];dsimp only;have C:=IJ lF H2 (λ_=>rfl) r;have u:=TX a (r.map H2) l o lF (lc N) (λn i b=>ff N n (a,l,(l.length:Int),(i:Int),0,0,b)) (γ:=Int×Int) (λv=>((0:Int),(0:Int),v)) r C
  (λv f=>aeK g v (k v f) _ rfl (d v f))
  (λn i e t b v s m z q f=>by
    show ff N (n+1) _=_;rw[XJ g a _ l o D n i e t b v 0 0 s m q f];rfl)
  (λn b w=>by
    show(bif decide ((l.length:Int)<(l.length:Int)) then _ else _)=_;rw[ahL (by omega)];rfl) N (by omega)
 rw[show((0:Int) !=0)=false from rfl,ahQ,show ff N N (a,l,(l.length:Int),0,0,0,[])=ff N N (a,l,(l.length:Int),((0:Nat):Int),0,0,[]) from rfl,u,ahI];dsimp only;rw[KE g r (by omega) (λx s=>by
  have G:=oP wE r x s;have H:wE x=x.1.length+x.2.2.length+40:=rfl;omega),h]
 rfl
end Go.Fw
namespace Go.Fw
open Go
def LI(y:Int):Bool:=bif (Int.tmod y 4==0) then(bif (Int.tmod y 100 !=0) then true else(Int.tmod y 400==0)) else false
def Zo(y:Int):gi y=some (LI y):=by
 unfold gi LI syv;cases (Int.tmod y 4==0)<;>cases (Int.tmod y 100 !=0)<;>rfl
def LJ(l:Bool):Nat->Int
 |1=>31|2=>(if l then 29 else 28)|3=>31|4=>30|5=>31|6=>30|7=>31|8=>31|9=>30|10=>31|11=>30|12=>31|_=>0
def EQ(y m:Int):Int:=if 0<=y/\y<=9999 then LJ (LI y) m.toNat else 0
def Zp(y m:Int):gj y m=some (EQ y m):=by
 unfold gj EQ syv;rw[Zo];by_cases a:y<0
 ·rw[ahO a,air (by omega)];rfl
 ·by_cases c:y>9999
  ·rw[ahL a,ahO c,air (by omega)];rfl
  ·rw[ahL a,ahL c,ah2 (by omega)];generalize LI y=l;by_cases b:m<1
   ·rw[ahO b];have:m.toNat=0:=by omega
    rw[this];rfl
   ·by_cases d:m>12
    ·rw[ahL b,ahO d];obtain⟨k,e⟩:∃k,m.toNat=k+13:=⟨m.toNat-13,by omega⟩;rw[e];rfl
    ·rw[ahL b,ahL d];have f:m=1∨m=2∨m=3∨m=4∨m=5∨m=6∨m=7∨m=8∨m=9∨m=10∨m=11∨m=12:=by omega
     rcases f with rfl|rfl|rfl|rfl|rfl|rfl|rfl|rfl|rfl|rfl|rfl|rfl<;>cases l<;>rfl
abbrev kQ:=Int×Int×Int×Int×Int×Int
def qt(t:kQ):Bool:=decide (t.2.2.2.1>=0)&&(decide (t.2.2.2.1<24)&&(decide (t.2.2.2.2.1>=0)&&(decide (t.2.2.2.2.1<60)&&(decide (t.2.2.2.2.2>=0)&&(decide (t.2.2.2.2.2<60)&&(decide (t.2.2.1>=1)&&decide (t.2.2.1<=EQ t.1 t.2.1)))))))
def xf(t:kQ):dW t=some (qt t):=by
 obtain⟨y,b,d,h,a,s⟩:=t;unfold dW qt syv;simp only[Zp,ahI];cases decide (h>=0)<;>cases decide (h<24)<;>cases decide (a>=0)<;>cases decide (a<60)<;>cases decide (s>=0)<;>cases decide (s<60)<;>cases decide (d>=1)<;>rfl
def mO(t:kQ):Bool:=qt t&&decide (t.1>=1950)
def uA(t:kQ):dM t=some (mO t):=by
 unfold dM mO syv;rw[xf];simp only[ahI];cases qt t<;>rfl
end Go.Fw
def akD:=@Int.tmod_eq_emod_of_nonneg
def alu:=@Int.ofNat_inj
namespace Go.Fw
open Go
def dg(d:Nat):UInt8:=UInt8.ofNat (48+d)
def XK{d:Nat}(h:d<=9):(dg d).toNat=48+d:=by unfold dg;rw[ajl];omega
def d2(n:Nat):Bs:=[dg (n / 10),dg (n % 10)]
def Mi(b d h a s:Nat):Bs:=d2 b++(d2 d++(d2 h++(d2 a++(d2 s++[90]))))
def NE(y b d h a s:Nat):Bs:=d2 (y % 100)++Mi b d h a s
def Co(y b d h a s:Nat):Bs:=d2 (y / 100)++(d2 (y % 100)++Mi b d h a s)
def aaq(y m:Int):EQ y m<=31:=by
 unfold EQ;split
 ·have:∀(l:Bool)(k:Nat),LJ l k<=31:=by
   intro l k;unfold LJ;split<;>first|omega|(split<;>omega)
  exact this _ _
 ·omega
def XL{y m:Int}(h:1<=EQ y m):0<=y/\y<=9999/\1<=m/\m<=12:=by
 unfold EQ at h;split at h
 ·rename_i a;refine⟨a.1,a.2,?_⟩;by_cases b:1<=m/\m<=12
  ·exact b
  ·exfalso;have e:LJ (LI y) m.toNat=0:=by
    rcases ah0 12 m.toNat with c|c
    ·obtain⟨k,d⟩:∃k,m.toNat=k+13:=⟨m.toNat-13,by omega⟩;rw[d];rfl
    ·have:m.toNat=0:=by omega
     rw[this];rfl
   omega
 ·omega
def tm{t:kQ}(h:qt t=true):∃y a d h b s:Nat,t=((y:Int),(a:Int),(d:Int),(h:Int),(b:Int),(s:Int))/\y<=9999/\1<=a/\a<=12/\1<=d/\d<=31/\h<24/\b<60/\s<60:=by
 obtain⟨y,a,d,g,b,s⟩:=t;unfold qt at h;simp only[ahJ,aiu]at h;obtain⟨c,j,e,k,f,l,n,o⟩:=h;have p:=aaq y a;obtain⟨i,q,r,u⟩:=XL (y:=y) (m:=a) (by omega);refine⟨y.toNat,a.toNat,d.toNat,g.toNat,b.toNat,s.toNat,?_,by omega,by omega,by omega,by omega,by omega,by omega,by omega,by omega⟩;rw[ajr i,ajr (by omega),ajr (by omega),ajr c,ajr e,ajr f]
def Mj(n:Nat)(h:n<1000):toB (IntKind.wrap .u8 (aw .i64 48 (gt .i64 (n:Int) 10)))=some (dg (n / 10)):=by
 have e:gt .i64 (n:Int) 10=((n / 10:Nat):Int):=by
  show IntKind.i64.wrap ((n:Int).tdiv 10)=_;rw[aj7 (by omega),aij _ (by omega)];omega
 rw[e,fX (by omega),show(48:Int)+((n / 10:Nat):Int)=((48+n / 10:Nat):Int) from by omega,nR];unfold dg;rw[show(48+n / 10) % 256=48+n / 10 from by omega]
def Mk(n:Nat):toB (IntKind.wrap .u8 (aw .i64 48 (Int.tmod (n:Int) 10)))=some (dg (n % 10)):=by
 have e:Int.tmod (n:Int) 10=((n % 10:Nat):Int):=by
  rw[akD (by omega)];omega
 rw[e,fX (by omega),show(48:Int)+((n % 10:Nat):Int)=((48+n % 10:Nat):Int) from by omega,nR];unfold dg;rw[show(48+n % 10) % 256=48+n % 10 from by omega]
def VP{b α:Type}(x:Option b)(K:b->Option α):∀(a:List (Option b)),a≠[]->(∀o∈a,o=x)->agree a K=x.bind K:=by
 intro a c h
 match a with
 |[]=>exact absurd rfl c
 |o::r=>
  have e:o::r=List.replicate (r.length+1) x:=List.eq_replicate_iff.2 ⟨by simp,h⟩;rw[e,nI]
def AL(N n i:Nat)(l:List Int)(x:Nat)(a a2 a3 a4 a5 b:Int)(acc:Bs)(c:l[i]?=some (x:Int))(d:l.length<=1000)(f:x<1000)(g:acc.length<=100000):ep N (n+1) (l,(l.length:Int),(i:Int),a,a2,a3,a4,a5,b,acc)=ep N n (l,(l.length:Int),((i+1:Nat):Int),a,a2,a3,a4,a5,b,acc++d2 x):=by
 have e:=ah c;show(bif decide ((i:Int)<(l.length:Int)) then _ else _)=_;rw[ahO (by omega),ahY,de c,ahI,Mj x f,ahI,Mk,ahI,gK (by omega) (by simp only[ahP,ah9];omega),ahI,dD (by omega)];rfl
def aar(N n:Nat)(l:List Int)(a a2 a3 a4 a5 b:Int)(acc:Bs):ep N (n+1) (l,(l.length:Int),(l.length:Int),a,a2,a3,a4,a5,b,acc)=some (a,a2,a3,a4,a5,b,acc):=by
 show(bif decide ((l.length:Int)<(l.length:Int)) then _ else _)=_;rw[ahL (by omega)];rfl
def XM{N:Nat}(f:FN N)(b d h a s:Nat)(j:b<=99/\d<=99/\h<=99/\a<=99/\s<=99)(c a2 a3 a4 a5 e:Int)(acc:Bs)(i:acc.length<=100):
 ep N N ([(b:Int),(d:Int),(h:Int),(a:Int),(s:Int)],(([(b:Int),(d:Int),(h:Int),(a:Int),(s:Int)].length:Nat):Int),0,c,a2,a3,a4,a5,e,acc)=some (c,a2,a3,a4,a5,e,acc++(d2 b++(d2 d++(d2 h++(d2 a++d2 s))))):=by
 unfold FN at f;obtain⟨n,g⟩:∃n,N=n+6:=⟨N-6,by omega⟩;rw[show ep N N=ep N (n+6) from by rw[<-g],show(0:Int)=((0:Nat):Int) from rfl];have L:∀x:Nat,(d2 x).length=2:=λ_=>rfl;rw[AL N (n+5) 0 _ b _ _ _ _ _ _ _ rfl (by simp) (by omega) (by omega),AL N (n+4) 1 _ d _ _ _ _ _ _ _ rfl (by simp) (by omega) (by simp[L];omega),AL N (n+3) 2 _ h _ _ _ _ _ _ _ rfl (by simp) (by omega) (by simp[L];omega),AL N (n+2) 3 _ a _ _ _ _ _ _ _ rfl (by simp) (by omega) (by simp[L];omega),AL N (n+1) 4 _ s _ _ _ _ _ _ _ rfl (by simp) (by omega) (by simp[L];omega)];refine(aar N n _ _ _ _ _ _ _ _).trans ?_;simp[aia]
def aeN{N:Nat}(f:FN N)(b d h a s:Nat)(i:b<=99/\d<=99/\h<=99/\a<=99/\s<=99)(c a2 a3 a4 a5 e:Int)(acc:Bs)(g:acc.length<=100):
 bB N N ([(b:Int),(d:Int),(h:Int),(a:Int),(s:Int)],(([(b:Int),(d:Int),(h:Int),(a:Int),(s:Int)].length:Nat):Int),0,c,a2,a3,a4,a5,e,acc)=some (c,a2,a3,a4,a5,e,acc++(d2 b++(d2 d++(d2 h++(d2 a++d2 s))))):=XM f b d h a s i c a2 a3 a4 a5 e acc g
def XN(y:Nat):Int.tmod (y:Int) 100=((y % 100:Nat):Int):=by
 rw[akD (by omega)];omega
def aeO(y:Nat)(h:y<100000):gt .i64 (y:Int) 100=((y / 100:Nat):Int):=by
 show IntKind.i64.wrap ((y:Int).tdiv 100)=_;rw[aj7 (by omega),aij _ (by omega)];omega
def acL{N:Nat}(f:FN N)(y b d h a s:Nat)(c:qt ((y:Int),(b:Int),(d:Int),(h:Int),(a:Int),(s:Int))=true)(g:1950<=y)(i:y<=2049):kY N ((y:Int),(b:Int),(d:Int),(h:Int),(a:Int),(s:Int))=some (NE y b d h a s,0):=by
 obtain⟨_,_,_,_,_,_,e,_,_,_,_,_,_,_,_⟩:=tm c;simp only[ah7,alu]at e;have L:∀x:Nat,(d2 x).length=2:=λ_=>rfl;unfold kY;rw[xf,c,ahI,ai2,ahQ,ahL (by dsimp only;omega),ahQ,ahL (by dsimp only;omega),ahQ,nI];simp only[XN];rw[Mj _ (by omega),ahI,Mk,ahI,gK (by omega) (by simp),ahI,nI];rw[XM f b d h a s (by omega) _ _ _ _ _ _ _ (by simp),ahI];dsimp only;rw[gK (by omega) (by simp[L]),ahI];simp[NE,Mi,d2]
def acM{N:Nat}(p:FN N)(y b d h a s:Nat)(i:qt ((y:Int),(b:Int),(d:Int),(h:Int),(a:Int),(s:Int))=true):iT N ((y:Int),(b:Int),(d:Int),(h:Int),(a:Int),(s:Int))=some (Co y b d h a s,0):=by
 obtain⟨_,_,_,_,_,_,e,_,_,_,_,_,_,_,_⟩:=tm i;simp only[ah7,alu]at e;have L:∀x:Nat,(d2 x).length=2:=λ_=>rfl;unfold iT;rw[xf,i,ahI,ai2,ahQ];refine(VP (some (Co y b d h a s,0)) _ _ (by simp) ?_).trans rfl;have g:∀j k:Nat,((toB (IntKind.wrap .u8 (aw .i64 48 (gt .i64 (gt .i64 (y:Int) 100) 10)))).bind λl=>(toB (IntKind.wrap .u8 (aw .i64 48 (Int.tmod (gt .i64 (y:Int) 100) 10)))).bind λm=>(app 1 ([]:List UInt8) [l,m]).bind λv=>
  agree (List.replicate (j+1) ((toB (IntKind.wrap .u8 (aw .i64 48 (gt .i64 (Int.tmod (y:Int) 100) 10)))).bind λn=>(toB (IntKind.wrap .u8 (aw .i64 48 (Int.tmod (Int.tmod (y:Int) 100) 10)))).bind λo=>(app 1 v [n,o]).bind λw=>
  agree (List.replicate (k+1) ((bB N N ([(b:Int),(d:Int),(h:Int),(a:Int),(s:Int)],(([(b:Int),(d:Int),(h:Int),(a:Int),(s:Int)].length:Nat):Int),0,(y:Int),(b:Int),(d:Int),(h:Int),(a:Int),(s:Int),w)).bind λ(z,A,q,r,t,u,c)=>(app 1 c ([90]:Bs)).bind λf=>some (f,(0:Int)):Option (Bs×Int))) some:Option (Bs×Int))) some:Option (Bs×Int))=some (Co y b d h a s,0):=by
  intro j k;rw[aeO y (by omega),XN,Mj _ (by omega),ahI,Mk,ahI,gK (by omega) (by simp),ahI,nI,Mj _ (by omega),ahI,Mk,ahI,gK (by omega) (by simp),ahI,nI,aeN p b d h a s (by omega) _ _ _ _ _ _ _ (by simp),ahI];dsimp only;rw[gK (by omega) (by simp[L]),ahI];simp[Co,Mi,d2]
 repeat' first|refine List.forall_mem_cons.2 ⟨g _ _,?_⟩|exact λ_ h=>absurd h aj4
def isD(b:UInt8):Bool:=decide (48<=b.toNat/\b.toNat<=57)
def nM{b:UInt8}(h:isD b=true):∃d,d<=9/\b=dg d:=by
 have a:=ail h;refine⟨b.toNat-48,by omega,?_⟩;unfold dg;rw[show 48+(b.toNat-48)=b.toNat from by omega];simp
def XO{d:Nat}(h:d<=9):isD (dg d)=true:=by
 unfold isD;rw[XK h];exact ahO (by omega)
def H4(N:Nat)(k:Int)(s a:Bs)(j:s.length<10000000):∀(m n i:Nat),s.length-i=m->m<n->i<=s.length->
 ez N n (k,s,(s.length:Int),(i:Int),a,0,0,0,0,0,0)=some (bif (s.drop i).all isD then .inr (k,a,0,0,0,0,0,0) else .inl (false,0,0,0,0,0,0)):=by
 intro m;induction m with
 |zero=>
  intro n i d e c;obtain⟨n,rfl⟩:∃m,n=m+1:=⟨n-1,by omega⟩;show(bif decide ((i:Int)<(s.length:Int)) then _ else _)=_;rw[ahL (by omega),ahQ,aip (by omega)];rfl
 |succ m f=>
  intro n i d e c;obtain⟨n,rfl⟩:∃m,n=m+1:=⟨n-1,by omega⟩;have b:i<s.length:=by omega
  show(bif decide ((i:Int)<(s.length:Int)) then _ else _)=_;rw[ahO (by omega),ahY,de (ahK b),ahI,dD (by omega),aii b,aja];by_cases g:s[i].toNat<48
  ·rw[ahO (by omega:((s[i].toNat:Nat):Int)<48),show isD s[i]=false from ahL (by omega)];rfl
  ·rw[ahL (by omega:¬((s[i].toNat:Nat):Int)<48),ahQ];by_cases h:s[i].toNat>57
   ·rw[ahO (by omega:((s[i].toNat:Nat):Int)>57),show isD s[i]=false from ahL (by omega)];rfl
   ·rw[ahL (by omega:¬((s[i].toNat:Nat):Int)>57),show isD s[i]=true from ahO (by omega),ahQ,akL];exact f n (i+1) (by omega) (by omega) (by omega)
def dgv{d:Nat}(h:d<=9):IntKind.wrap .i64 (aU .u8 ((dg d).toNat:Int) 48)=(d:Int):=by
 rw[XK h];show IntKind.wrap .i64 (IntKind.u8.wrap (((48+d:Nat):Int)-48))=_;rw[IntKind.wrap_u8,aij _ (by omega)];omega
def wn(d e:Nat)(hd:d<=9)(a:e<=9):aw .i64 (lm .i64 (IntKind.wrap .i64 (aU .u8 ((dg d).toNat:Int) 48)) 10) (IntKind.wrap .i64 (aU .u8 ((dg e).toNat:Int) 48))=((10*d+e:Nat):Int):=by
 rw[dgv hd,dgv a];show IntKind.i64.wrap (IntKind.i64.wrap ((d:Int)*10)+(e:Int))=_;rw[aij ((d:Int)*10) (by omega),aij _ (by omega)];omega
def Fq(d e:Nat)(hd:d<=9)(a:e<=9):d2 (10*d+e)=[dg d,dg e]:=by
 unfold d2;rw[show(10*d+e) / 10=d from by omega,show(10*d+e) % 10=e from by omega]
end Go.Fw
namespace Go.Fw
open Go
def aas{N:Nat}(U:FN N)(j m g o p q r s t u d f:Nat)(h:j<=9/\m<=9/\g<=9/\o<=9/\p<=9/\q<=9/\r<=9/\s<=9/\t<=9/\u<=9/\d<=9/\f<=9)(y:Nat)(z:y=if 10*j+m<50 then 10*j+m+2000 else 10*j+m+1900):
 eK N [dg j,dg m,dg g,dg o,dg p,dg q,dg r,dg s,dg t,dg u,dg d,dg f,90] 2=some (((y:Int),((10*g+o:Nat):Int),((10*p+q:Nat):Int),((10*r+s:Nat):Int),((10*t+u:Nat):Int),((10*d+f:Nat):Int)),qt ((y:Int),((10*g+o:Nat):Int),((10*p+q:Nat):Int),((10*r+s:Nat):Int),((10*t+u:Nat):Int),((10*d+f:Nat):Int))):=by
 have A:=U;unfold FN at A;obtain⟨G,H,J,L,M,O,P,Q,R,S,w,x⟩:=h;unfold eK;rw[show((([dg j,dg m,dg g,dg o,dg p,dg q,dg r,dg s,dg t,dg u,dg d,dg f,90].length:Nat):Int) !=aw .i64 2 11)=false from rfl,ahQ];rw[show ix [dg j,dg m,dg g,dg o,dg p,dg q,dg r,dg s,dg t,dg u,dg d,dg f,90] (aU .i64 (([dg j,dg m,dg g,dg o,dg p,dg q,dg r,dg s,dg t,dg u,dg d,dg f,90].length:Nat):Int) 1)=some 90 from rfl,ahI,show((((90:UInt8).toNat:Nat):Int) !=90)=false from rfl,ahQ];rw[show slc [dg j,dg m,dg g,dg o,dg p,dg q,dg r,dg s,dg t,dg u,dg d,dg f,90] 0 (aU .i64 (([dg j,dg m,dg g,dg o,dg p,dg q,dg r,dg s,dg t,dg u,dg d,dg f,90].length:Nat):Int) 1)=some [dg j,dg m,dg g,dg o,dg p,dg q,dg r,dg s,dg t,dg u,dg d,dg f] from rfl,ahI];have T:=H4 N 2 [dg j,dg m,dg g,dg o,dg p,dg q,dg r,dg s,dg t,dg u,dg d,dg f] [dg j,dg m,dg g,dg o,dg p,dg q,dg r,dg s,dg t,dg u,dg d,dg f,90] (by simp) 12 N 0 rfl (by omega) (by simp);rw[aiz,show([dg j,dg m,dg g,dg o,dg p,dg q,dg r,dg s,dg t,dg u,dg d,dg f]:Bs).all isD=true from by simp[XO,G,H,J,L,M,O,P,Q,R,S,w,x]]at T;rw[show ez N N (2,[dg j,dg m,dg g,dg o,dg p,dg q,dg r,dg s,dg t,dg u,dg d,dg f],_,0,_,0,0,0,0,0,0)=_ from T,ahY,ahI];dsimp only;rw[ix0,ahI,ix1,ahI,show((2:Int)==4)=false from rfl,ahQ,wn j m G H];have B:∀K:Int->Option ((Int×Int×Int×Int×Int×Int)×Bool),(bif decide (aw .i64 ((10*j+m:Nat):Int) 1900<1950) then K (aw .i64 (aw .i64 ((10*j+m:Nat):Int) 1900) 100) else K (aw .i64 ((10*j+m:Nat):Int) 1900))=K (y:Int):=by
  intro K;rw[fX (a:=((10*j+m:Nat):Int)) (by omega)];by_cases v:10*j+m<50
  ·rw[ahO (by omega),ahY,fX (by omega),z,ah2 v];congr 1
  ·rw[ahL (by omega),ahQ,z,air v];congr 1
 have D:∀(c:Bool)(E F:Int)(l:Bs),((((bif c then some (l,(0:Int),(0:Int),(0:Int),(0:Int),(0:Int),(0:Int),(2:Int),E,(0:Int),(0:Int),(0:Int),(0:Int),(0:Int)) else some (l,(0:Int),(0:Int),(0:Int),(0:Int),(0:Int),(0:Int),(2:Int),F,(0:Int),(0:Int),(0:Int),(0:Int),(0:Int)):Option (Bs×Int×Int×Int×Int×Int×Int×Int×Int×Int×Int×Int×Int×Int)))))=some (l,(0:Int),(0:Int),(0:Int),(0:Int),(0:Int),(0:Int),(2:Int),bif c then E else F,(0:Int),(0:Int),(0:Int),(0:Int),(0:Int)):=by
  intro c E F l;cases c<;>rfl
 have C:(bif decide (aw .i64 ((10*j+m:Nat):Int) 1900<1950) then(aw .i64 (aw .i64 ((10*j+m:Nat):Int) 1900) 100) else(aw .i64 ((10*j+m:Nat):Int) 1900))=(y:Int):=by
  rw[fX (a:=((10*j+m:Nat):Int)) (by omega)];by_cases v:10*j+m<50
  ·rw[ahO (by omega),ahY,fX (by omega),z,ah2 v];omega
  ·rw[ahL (by omega),ahQ,z,air v];omega
 rw[D,C,ahI];dsimp only;rw[ahI];dsimp only;generalize n:[dg j,dg m,dg g,dg o,dg p,dg q,dg r,dg s,dg t,dg u,dg d,dg f,(90:UInt8)]=cc;have I:∀(i:Int)(k:Nat)(b:UInt8),i=(k:Int)->cc[k]?=some b->ix cc i=some b:=λi k b e V=>by rw[e];exact de V
 simp only[show aw .i64 2 2=4 from rfl,show aw .i64 4 2=6 from rfl,show aw .i64 6 2=8 from rfl,show aw .i64 8 2=10 from rfl,show aw .i64 10 2=12 from rfl,show aw .i64 12 2=14 from rfl,show aU .i64 4 2=2 from rfl,show aU .i64 4 1=3 from rfl,show aU .i64 6 2=4 from rfl,show aU .i64 6 1=5 from rfl,show aU .i64 8 2=6 from rfl,show aU .i64 8 1=7 from rfl,show aU .i64 10 2=8 from rfl,show aU .i64 10 1=9 from rfl,show aU .i64 12 2=10 from rfl,show aU .i64 12 1=11 from rfl,show aU .i64 14 2=12 from rfl,show aU .i64 14 1=13 from rfl];rw[I 2 2 (dg g) rfl (by rw[<-n];rfl),ahI,I 3 3 (dg o) rfl (by rw[<-n];rfl),ahI,I 4 4 (dg p) rfl (by rw[<-n];rfl),ahI,I 5 5 (dg q) rfl (by rw[<-n];rfl),ahI,I 6 6 (dg r) rfl (by rw[<-n];rfl),ahI,I 7 7 (dg s) rfl (by rw[<-n];rfl),ahI,I 8 8 (dg t) rfl (by rw[<-n];rfl),ahI,I 9 9 (dg u) rfl (by rw[<-n];rfl),ahI,I 10 10 (dg d) rfl (by rw[<-n];rfl),ahI,I 11 11 (dg f) rfl (by rw[<-n];rfl),ahI];rw[wn g o J L,wn p q M O,wn r s P Q,wn t u R S,wn d f w x,xf];rfl
def RT{N:Nat}(Q:FN N)(g j s t f l m n o p q r c d:Nat)(h:g<=9/\j<=9/\s<=9/\t<=9/\f<=9/\l<=9/\m<=9/\n<=9/\o<=9/\p<=9/\q<=9/\r<=9/\c<=9/\d<=9)(y:Nat)(U:y=100*(10*g+j)+(10*s+t)):
 eK N [dg g,dg j,dg s,dg t,dg f,dg l,dg m,dg n,dg o,dg p,dg q,dg r,dg c,dg d,90] 4=some (((y:Int),((10*f+l:Nat):Int),((10*m+n:Nat):Int),((10*o+p:Nat):Int),((10*q+r:Nat):Int),((10*c+d:Nat):Int)),qt ((y:Int),((10*f+l:Nat):Int),((10*m+n:Nat):Int),((10*o+p:Nat):Int),((10*q+r:Nat):Int),((10*c+d:Nat):Int))):=by
 have x:=Q;unfold FN at x;obtain⟨B,C,O,P,D,E,F,G,H,J,K,L,v,w⟩:=h;unfold eK;generalize a:[dg g,dg j,dg s,dg t,dg f,dg l,dg m,dg n,dg o,dg p,dg q,dg r,dg c,dg d,(90:UInt8)]=cc;generalize u:[dg g,dg j,dg s,dg t,dg f,dg l,dg m,dg n,dg o,dg p,dg q,dg r,dg c,dg d]=ss;have I:∀(i:Int)(k:Nat)(b:UInt8),i=(k:Int)->cc[k]?=some b->ix cc i=some b:=λi k b e R=>by rw[e];exact de R
 have S:((cc.length:Nat):Int)=15:=by rw[<-a];rfl
 have T:ss.length=14:=by rw[<-u];rfl
 have z:slc cc 0 14=some ss:=by rw[<-a,<-u];rfl
 have M:=H4 N 4 ss cc (by omega) 14 N 0 (by omega) (by omega) (by omega);rw[aiz,show ss.all isD=true from by rw[<-u];simp[XO,B,C,O,P,D,E,F,G,H,J,K,L,v,w]]at M;rw[S,show((15:Int) !=aw .i64 4 11)=false from rfl,ahQ,show aU .i64 15 1=14 from rfl,I 14 14 90 rfl (by rw[<-a];rfl),ahI,show((((90:UInt8).toNat:Nat):Int) !=90)=false from rfl,ahQ,z,ahI,show ez N N (4,ss,((ss.length:Nat):Int),0,cc,0,0,0,0,0,0)=_ from M,ahY,ahI];dsimp only;rw[I 0 0 (dg g) rfl (by rw[<-a];rfl),ahI,I 1 1 (dg j) rfl (by rw[<-a];rfl),ahI,show((4:Int)==4)=true from rfl,ahY,nI,I 2 2 (dg s) rfl (by rw[<-a];rfl),ahI,I 3 3 (dg t) rfl (by rw[<-a];rfl),ahI,ahI];dsimp only;rw[ahI];dsimp only;have A:aw .i64 (lm .i64 100 ((10*g+j:Nat):Int)) ((10*s+t:Nat):Int)=(y:Int):=by
  show IntKind.i64.wrap (IntKind.i64.wrap (100*((10*g+j:Nat):Int))+_)=_;rw[aij (100*((10*g+j:Nat):Int)) (by omega),aij _ (by omega)];omega
 simp only[show aw .i64 2 2=4 from rfl,show aw .i64 4 2=6 from rfl,show aw .i64 6 2=8 from rfl,show aw .i64 8 2=10 from rfl,show aw .i64 10 2=12 from rfl,show aw .i64 12 2=14 from rfl,show aU .i64 4 2=2 from rfl,show aU .i64 4 1=3 from rfl,show aU .i64 6 2=4 from rfl,show aU .i64 6 1=5 from rfl,show aU .i64 8 2=6 from rfl,show aU .i64 8 1=7 from rfl,show aU .i64 10 2=8 from rfl,show aU .i64 10 1=9 from rfl,show aU .i64 12 2=10 from rfl,show aU .i64 12 1=11 from rfl,show aU .i64 14 2=12 from rfl,show aU .i64 14 1=13 from rfl];rw[I 4 4 (dg f) rfl (by rw[<-a];rfl),ahI,I 5 5 (dg l) rfl (by rw[<-a];rfl),ahI,I 6 6 (dg m) rfl (by rw[<-a];rfl),ahI,I 7 7 (dg n) rfl (by rw[<-a];rfl),ahI,I 8 8 (dg o) rfl (by rw[<-a];rfl),ahI,I 9 9 (dg p) rfl (by rw[<-a];rfl),ahI,I 10 10 (dg q) rfl (by rw[<-a];rfl),ahI,I 11 11 (dg r) rfl (by rw[<-a];rfl),ahI,I 12 12 (dg c) rfl (by rw[<-a];rfl),ahI,I 13 13 (dg d) rfl (by rw[<-a];rfl),ahI];rw[wn g j B C,wn s t O P,wn f l D E,wn m n F G,wn o p H J,wn q r K L,wn c d v w,A,xf];rfl
end Go.Fw
namespace Go.Fw
open Go
def acO{N:Nat}(l:FN N)(c:Bs)(k:Nat)(n:c.length<10000000)(o:k=2∨k=4):(∃s,c=s++[90]/\s.length=k+10/\s.all isD=true)∨eK N c (k:Int)=some ((0,0,0,0,0,0),false):=by
 have f:=l;unfold FN at f;unfold eK;have d:aw .i64 (k:Int) 11=((k+11:Nat):Int):=by rw[fX (by omega)];omega
 rw[d];by_cases a:c.length=k+11
 ·obtain⟨s,b,rfl⟩:∃s b,c=s++[b]:=⟨c.dropLast,c.getLast (λe=>by rw[e]at a;simp at a),(ajW _).symm⟩;have m:s.length=k+10:=by simp at a;omega
  rw[show(((s++[b]).length:Int) !=((k+11:Nat):Int))=false from by rw[a];simp,ahQ,US (by omega) (by omega),de (show(s++[b])[(s++[b]).length-1]?=some b from by rw[a,show k+11-1=s.length from by omega];simp),ahI];by_cases i:b=90
  ·subst i;by_cases h:s.all isD=true
   ·exact .inl ⟨s,rfl,m,h⟩
   ·right;rw[show((((90:UInt8).toNat:Nat):Int) !=90)=false from rfl,ahQ];have g:slc (s++[(90:UInt8)]) 0 (((s++[(90:UInt8)]).length-1:Nat):Int)=some s:=by
     unfold slc;rw[ah2 ⟨by omega,by omega,by omega⟩,aiP,a,show k+11-1=s.length from by omega];simp
    have j:=H4 N (k:Int) s (s++[90]) (by omega) s.length N 0 (by omega) (by omega) (by omega);rw[aiz,show s.all isD=false from by simpa using h]at j;rw[g,ahI,show ez N N ((k:Int),s,(s.length:Int),0,s++[90],0,0,0,0,0,0)=_ from j,ahQ];rfl
  ·right;rw[show(((b.toNat:Nat):Int) !=90)=true from by
    simp only[bne_iff_ne,ne_eq];intro e;exact i (UInt8.toNat_inj.1 (by rw[show b.toNat=90 from by omega];rfl))]
   rfl
 ·right;rw[show((c.length:Int) !=((k+11:Nat):Int))=true from by simp only[bne_iff_ne,ne_eq];omega];rfl
def RW(t:kQ)(y b d h a s:Nat):Prop:=t=((y:Int),(b:Int),(d:Int),(h:Int),(a:Int),(s:Int))/\qt t=true
def XU{N:Nat}(L:FN N)(c:Bs)(hc:c.length<10000000):OW (cL N c) λr=>(r.2=0/\∃y O d h M s,RW r.1 y O d h M s/\c=Co y O d h M s)∨r=((0,0,0,0,0,0),6):=by
 unfold cL syv;rcases acO L c 4 hc (by omega) with⟨s,rfl,hs,v⟩|h
 ·match s,hs,v with
  |[a0,a1,b0,b1,a2,a3,a4,a5,a6,a7,a8,a9,P,Q],_,v=>
   simp only[aja,List.all_nil,Bool.and_true,ahJ]at v;obtain⟨R,S,k0,k1,T,U,V,W,X,Y,Z,h9,w,x⟩:=v;obtain⟨f,B,rfl⟩:=nM R;obtain⟨g,C,rfl⟩:=nM S;obtain⟨i,z,rfl⟩:=nM k0;obtain⟨j,A,rfl⟩:=nM k1;obtain⟨e,D,rfl⟩:=nM T;obtain⟨m,E,rfl⟩:=nM U;obtain⟨n,F,rfl⟩:=nM V;obtain⟨o,G,rfl⟩:=nM W;obtain⟨p,H,rfl⟩:=nM X;obtain⟨q,I,rfl⟩:=nM Y;obtain⟨t,J,rfl⟩:=nM Z;obtain⟨u,K,rfl⟩:=nM h9;obtain⟨a,k,rfl⟩:=nM w;obtain⟨b,l,rfl⟩:=nM x;have h:=RT L f g i j e m n o p q t u a b ⟨B,C,z,A,D,E,F,G,H,I,J,K,k,l⟩ _ rfl;rw[show [dg f,dg g,dg i,dg j,dg e,dg m,dg n,dg o,dg p,dg q,dg t,dg u,dg a,dg b]++[(90:UInt8)]=[dg f,dg g,dg i,dg j,dg e,dg m,dg n,dg o,dg p,dg q,dg t,dg u,dg a,dg b,90] from rfl,h,ahI];dsimp only;refine az (λhv=>aa (.inl ⟨rfl,_,_,_,_,_,_,⟨rfl,hv⟩,?_⟩)) λ_=>aa (.inr rfl);unfold Co Mi;rw[Fq e m D E,Fq n o F G,Fq p q H I,Fq t u J K,Fq a b k l,show(100*(10*f+g)+(10*i+j)) / 100=10*f+g from by omega,show(100*(10*f+g)+(10*i+j)) % 100=10*i+j from by omega,Fq f g B C,Fq i j z A];rfl
 ·rw[show eK N c 4=_ from h];exact aa (.inr rfl)
def XV{N:Nat}(f:FN N){t:kQ}{y b d h a s:Nat}(i:RW t y b d h a s)(j:1950<=y)(k:y<=2049):nZ N (NE y b d h a s)=some (t,0):=by
 obtain⟨rfl,c⟩:=i;obtain⟨_,_,_,_,_,_,e,_,_,_,_,_,_,_,_⟩:=tm c;simp only[ah7,alu]at e;have g:=aas f (y % 100 / 10) (y % 100 % 10) (b / 10) (b % 10) (d / 10) (d % 10) (h / 10) (h % 10) (a / 10) (a % 10) (s / 10) (s % 10) (by omega) y (by split<;>omega);unfold nZ syv;rw[show NE y b d h a s=[dg (y % 100 / 10),dg (y % 100 % 10),dg (b / 10),dg (b % 10),dg (d / 10),dg (d % 10),dg (h / 10),dg (h % 10),dg (a / 10),dg (a % 10),dg (s / 10),dg (s % 10),90] from rfl,g,ahI];dsimp only;rw[show 10*(b / 10)+b % 10=b from by omega,show 10*(d / 10)+d % 10=d from by omega,show 10*(h / 10)+h % 10=h from by omega,show 10*(a / 10)+a % 10=a from by omega,show 10*(s / 10)+s % 10=s from by omega,c];rfl
def XW{N:Nat}(f:FN N){t:kQ}{y b d h a s:Nat}(i:RW t y b d h a s):cL N (Co y b d h a s)=some (t,0):=by
 obtain⟨rfl,c⟩:=i;obtain⟨_,_,_,_,_,_,e,_,_,_,_,_,_,_,_⟩:=tm c;simp only[ah7,alu]at e;have g:=RT f (y / 100 / 10) (y / 100 % 10) (y % 100 / 10) (y % 100 % 10) (b / 10) (b % 10) (d / 10) (d % 10) (h / 10) (h % 10) (a / 10) (a % 10) (s / 10) (s % 10) (by omega) y (by omega);unfold cL syv;rw[show Co y b d h a s=[dg (y / 100 / 10),dg (y / 100 % 10),dg (y % 100 / 10),dg (y % 100 % 10),dg (b / 10),dg (b % 10),dg (d / 10),dg (d % 10),dg (h / 10),dg (h % 10),dg (a / 10),dg (a % 10),dg (s / 10),dg (s % 10),90] from rfl,g,ahI];dsimp only;rw[show 10*(b / 10)+b % 10=b from by omega,show 10*(d / 10)+d % 10=d from by omega,show 10*(h / 10)+h % 10=h from by omega,show 10*(a / 10)+a % 10=a from by omega,show 10*(s / 10)+s % 10=s from by omega,c];rfl
def aeP(t:kQ):Bs:=Co t.1.toNat t.2.1.toNat t.2.2.1.toNat t.2.2.2.1.toNat t.2.2.2.2.1.toNat t.2.2.2.2.2.toNat
def aeQ(t:kQ):Bs:=NE t.1.toNat t.2.1.toNat t.2.2.1.toNat t.2.2.2.1.toNat t.2.2.2.2.1.toNat t.2.2.2.2.2.toNat
def oq(t:kQ):TLV:=bif decide (t.1>2049) then(0,false,24,aeP t) else(0,false,23,aeQ t)
def yN(t:kQ):Bs:=ai (oq t)
def RX(t:kQ):okT (oq t):=by
 unfold oq;cases decide (t.1>2049)
 ·exact rP (by omega) (by omega) (show 13<10000000 by omega)
 ·exact rP (by omega) (by omega) (show 15<10000000 by omega)
def OC(t:kQ):(yN t).length<=21:=by
 unfold yN oq;cases decide (t.1>2049)
 ·exact ai4 (iA (c:=0) (num:=23) (k:=false) (b:=aeQ t) (show 13<_ by omega)) (show 13+6<=21 by omega)
 ·exact ai4 (iA (c:=0) (num:=24) (k:=false) (b:=aeP t) (show 15<_ by omega)) (show 15+6<=21 by omega)
def XX{N:Nat}(b:FN N)(t:kQ):iZ N t=some (bif mO t then(yN t,0) else([],8)):=by
 unfold iZ syv;rw[uA,ahI];cases a:mO t
 ·rfl
 ·unfold mO at a;rw[ahJ,aiu]at a;obtain⟨y,e,d,h,c,s,rfl,_⟩:=tm a.1;have f:1950<=y:=by have:=a.2;dsimp only at this;omega
  rw[ai2,ahQ];unfold yN oq;by_cases g:y>2049
  ·rw[ahO (show((y:Int))>2049 by omega),ahY,acM b y e d h c s a.1,ahI];dsimp only;rw[show((0:Int) !=0)=false from rfl,ahQ,mR b 0 24 false _ 0 24 rfl rfl (by omega) (by omega) (show 15<_ by omega)];rfl
  ·rw[ahL (show ¬((y:Int))>2049 by omega),ahQ,acL b y e d h c s a.1 f (by omega),ahI];dsimp only;rw[show((0:Int) !=0)=false from rfl,ahQ,mR b 0 23 false _ 0 23 rfl rfl (by omega) (by omega) (show 13<_ by omega)];rfl
def T1{N:Nat}(i:FN N)(t:kQ)(c:mO t=true)(a:Bs)(m:yN t=a):oZ N a=some (t,0,0):=by
 obtain⟨e,l,b⟩:=agp i a (oq t) m.symm (RX t);unfold mO at c;rw[ahJ,aiu]at c;obtain⟨y,g,d,h,f,s,rfl,_⟩:=tm c.1;have k:1950<=y:=by have:=c.2;dsimp only at this;omega
 unfold oZ syv;rw[l,ahI];dsimp only;rw[show((0:Int) !=0)=false from rfl,ahQ,b.body,ahI];by_cases n:y>2049
 ·have j:oq ((y:Int),(g:Int),(d:Int),(h:Int),(f:Int),(s:Int))=(0,false,24,Co y g d h f s):=by
   unfold oq;rw[ahO (show((y:Int))>2049 by omega)];rfl
  rw[j]at b⊢;rw[b.no 0 23 false 0 23 rfl rfl (by simp),ahI,ahQ,b.yes 0 24 false 0 24 rfl rfl rfl rfl rfl,ahI,ahY,XW i ⟨rfl,c.1⟩];simp only[ahI];rw[ahL (show ¬((y:Int))<=2049 by omega)];rfl
 ·have j:oq ((y:Int),(g:Int),(d:Int),(h:Int),(f:Int),(s:Int))=(0,false,23,NE y g d h f s):=by
   unfold oq;rw[ahL (show ¬((y:Int))>2049 by omega)];rfl
  rw[j]at b⊢;rw[b.yes 0 23 false 0 23 rfl rfl rfl rfl rfl,ahI,ahY,XV i ⟨rfl,c.1⟩ k (by omega)];rfl
end Go.Fw
namespace Go.Fw
open Go
def sgn(x:UInt8):Int:=if x.toNat<128 then(x.toNat:Int) else(x.toNat:Int)-256
def beI(a:Int)(r:Bs):Int:=r.foldl (λn x=>256*n+(x.toNat:Int)) a
def RY:Bs->Int
 |[]=>0
 |x::r=>beI (sgn x) r
set_option maxRecDepth 100000 in
def acP(x:UInt8):IntKind.wrap .i64 (IntKind.wrap .i8 (x.toNat:Int))=sgn x:=by
 have h:∀n:Fin 256,IntKind.wrap .i64 (IntKind.wrap .i8 (n.val:Int))=if n.val<128 then(n.val:Int) else(n.val:Int)-256:=by decide
 exact h ⟨x.toNat,x.toNat_lt⟩
def acQ(x:UInt8): -128<=sgn x/\sgn x<128:=by
 have:=x.toNat_lt;unfold sgn;split<;>omega
def af7(N:Nat)(r:Bs)(p:r.length<=7):∀(k n i:Nat)(a:Int),r.length-i=k->k<n->i<=r.length->-(128*256 ^ i:Nat)<=a->a<(128*256 ^ i:Nat)->gk N n (a,r,(r.length:Int),(i:Int))=some (beI a (r.drop i)):=by
 intro k;induction k with
 |zero=>
  intro n i a d e c _ _;obtain⟨n,rfl⟩:∃m,n=m+1:=⟨n-1,by omega⟩;show(bif decide ((i:Int)<(r.length:Int)) then _ else _)=_;rw[ahL (by omega),ahQ,aip (by omega)];rfl
 |succ k g=>
  intro n i a d e c h j;obtain⟨n,rfl⟩:∃m,n=m+1:=⟨n-1,by omega⟩;have b:i<r.length:=by omega
  have l:=r[i].toNat_lt;have o:256 ^ i<=256 ^ 6:=akw (by omega) (by omega);have f:256 ^ (i+1)=256*256 ^ i:=by rw[akl,Nat.mul_comm]
  show(bif decide ((i:Int)<(r.length:Int)) then _ else _)=_;rw[ahO (by omega),ahY,de (ahK b),ahI,Au,dD (by omega),Tg (by omega) (by omega) (by omega) (by omega)];refine(g n (i+1) _ (by omega) (by omega) (by omega) (by omega) (by omega)).trans ?_;rw[aii b];rfl
def T2{N:Nat}(e:FN N)(c:Bs)(f:c.length<10000000):fF N c=some (bif od c&&decide (c.length<=8) then(RY c,true) else(0,false)):=by
 unfold FN at e;unfold fF syv;rw[jV,ahI];cases h:od c
 ·rfl
 ·by_cases a:c.length<=8
  ·rw[ahL (by omega:¬(c.length:Int)>8),ahO a];cases c with
   |nil=>cases h
   |cons x r=>
    have d:=acQ x;have b:=af7 N r (by simp at a;omega) r.length N 0 (sgn x) (by omega) (by simp at a;omega) (by omega) (by simpa using d.1) (by simpa using d.2);rw[aiz]at b;simp only[ai2,ahQ,ix0,ahI,qL,acP,akL,ahY];rw[show gk N N (sgn x,r,(r.length:Int),0)=_ from b];rfl
  ·rw[ahO (by omega:(c.length:Int)>8),ahL a];rfl
def uP:Bs->Bs
 |[]=>[]
 |x::r=>match r with
  |[]=>[x]
  |_::_=>bif od (x::r) then x::r else uP r
def RZ:∀(c:Bs),c≠[]->od (uP c)=true
 |[],h=>absurd rfl h
 |[x],_=>rfl
 |x::y::r,_=>by
  unfold uP;cases h:od (x::y::r)
  ·exact RZ (y::r) (by simp)
  ·exact h
def T3:∀(c:Bs),RY (uP c)=RY c
 |[]=>rfl
 |[x]=>rfl
 |x::y::r=>by
  unfold uP;cases h:od (x::y::r)
  ·rw[ahQ,T3 (y::r)];have a:(!(x.toNat==0&&decide (y.toNat<128))&& !(x.toNat==255&& !decide (y.toNat<128)))=false:=h;show beI (sgn y) r=beI (sgn x) (y::r);have e:beI (sgn x) (y::r)=beI (256*sgn x+(y.toNat:Int)) r:=rfl;rw[e];congr 1;unfold sgn;by_cases b:y.toNat<128
   ·rw[ah2 b];simp[b]at a;rw[a,ah2 (by omega)];omega
   ·rw[air b];simp[b]at a;rw[a,air (by omega)];omega
  ·rfl
def OD:∀(c:Bs),(uP c).length<=c.length
 |[]=>ahS _
 |[x]=>ahS _
 |x::y::r=>by
  unfold uP;cases od (x::y::r)
  ·have:=OD (y::r);simp only[ahQ,ahP]at this⊢;omega
  ·exact ahS _
def abr(N:Nat):∀(c:Bs)(n:Nat),c.length<n->c.length<1000->my N n c=some (uP c)
 |[],n,h,_=>by
  obtain⟨n,rfl⟩:∃m,n=m+1:=⟨n-1,by omega⟩;rfl
 |[x],n,h,_=>by
  obtain⟨n,rfl⟩:∃m,n=m+1:=⟨n-1,by omega⟩;rfl
 |x::y::r,n,h,a=>by
  obtain⟨n,rfl⟩:∃m,n=m+1:=⟨n-1,by omega⟩;show(bif decide (((x::y::r).length:Int)>1) then _ else _)=_;rw[ahO (by simp only[ahP];omega),ahY,jV,ahI,qL];unfold uP;cases od (x::y::r)
  ·exact abr N (y::r) n (by simp at h⊢;omega) (by simp at a⊢;omega)
  ·rfl
def tn(N n:Nat)(v i:Nat)(acc:Bs)(f:i<=63)(d:acc.length<=1000):fQ N (n+1) ((v:Int),(i:Int),acc)=fQ N n ((v:Int),(i:Int)-8,acc++[UInt8.ofNat (v / 2 ^ i % 256)]):=by
 have e:wj .i64 (v:Int) (i:Int)=((v / 2 ^ i:Nat):Int):=by
  show(v:Int).fdiv (2 ^ min ((i:Int)).toNat 64)=_;rw[aiP,show min i 64=i from by omega,akx _ (by exact Int.le_of_lt (Int.pow_pos (by decide)))];simp
 have b:aU .i64 (i:Int) 8=(i:Int)-8:=qr (by omega);show(bif decide ((i:Int)>=0) then(bif decide (0<=(i:Int)) then(toB (IntKind.wrap .u8 (wj .i64 (v:Int) (i:Int)))).bind (λa=>(app 1 acc [a]).bind λc=>fQ N n ((v:Int),aU .i64 (i:Int) 8,c)) else none) else some acc)=_;rw[ahO (show 0<=(i:Int) by omega),ahY,ahY,e,nR,ahI,gK (by omega) (by simp only[ahP,ah9];omega),ahI,b]
def Cp(v:Nat):Bs:=[UInt8.ofNat (v / 2 ^ 56 % 256),UInt8.ofNat (v / 2 ^ 48 % 256),UInt8.ofNat (v / 2 ^ 40 % 256),UInt8.ofNat (v / 2 ^ 32 % 256),UInt8.ofNat (v / 2 ^ 24 % 256),UInt8.ofNat (v / 2 ^ 16 % 256),UInt8.ofNat (v / 2 ^ 8 % 256),UInt8.ofNat (v / 2 ^ 0 % 256)]
def acR(n:Nat):(UInt8.ofNat (n % 256)).toNat=n % 256:=by rw[ajl];omega
def aeR(v:Nat)(h:v<2147483648):RY (Cp v)=(v:Int):=by
 show beI (sgn _) _=_;unfold beI sgn;simp only[alA,List.foldl_nil,acR];rw[ah2 (by omega)];omega
def qD(v:Nat):Bs:=uP (Cp v)
def acS(v:Nat):od (qD v)=true:=RZ _ (by simp[Cp])
def aeS(v:Nat)(h:v<2147483648):RY (qD v)=(v:Int):=by unfold qD;rw[T3,aeR v h]
def KG(v:Nat):(qD v).length<=8:=OD (Cp v)
def aat{N:Nat}(b:FN N)(v:Nat):kX N (v:Int)=some (qD v):=by
 unfold FN at b;obtain⟨n,c⟩:∃n,N=n+9:=⟨N-9,by omega⟩;have a:fQ N N ((v:Int),56,[])=some (Cp v):=by
  rw[show fQ N N=fQ N (n+9) from by rw[<-c]];rw[show(56:Int)=((56:Nat):Int) from rfl,tn N (n+8) v 56 [] (by omega) (by simp),show((56:Nat):Int)-8=((48:Nat):Int) from rfl,tn N (n+7) v 48 _ (by omega) (by simp),show((48:Nat):Int)-8=((40:Nat):Int) from rfl,tn N (n+6) v 40 _ (by omega) (by simp),show((40:Nat):Int)-8=((32:Nat):Int) from rfl,tn N (n+5) v 32 _ (by omega) (by simp),show((32:Nat):Int)-8=((24:Nat):Int) from rfl,tn N (n+4) v 24 _ (by omega) (by simp),show((24:Nat):Int)-8=((16:Nat):Int) from rfl,tn N (n+3) v 16 _ (by omega) (by simp),show((16:Nat):Int)-8=((8:Nat):Int) from rfl,tn N (n+2) v 8 _ (by omega) (by simp),show((8:Nat):Int)-8=((0:Nat):Int) from rfl,tn N (n+1) v 0 _ (by omega) (by simp)];rfl
 unfold kX syv;rw[a,ahI,show decide ((((Cp v).length:Nat):Int)>1)=true from rfl,ahY,jV,ahI];unfold qD;show(bif !od (Cp v) then(slc (Cp v) 1 ((Cp v).length:Int)).bind _ else _)=_;unfold Cp;rw[qL];unfold uP;cases od _
 ·rw[aky,ahY,ahI,abr N _ N (by simp;omega) (by simp)];rfl
 ·rfl
end Go.Fw
