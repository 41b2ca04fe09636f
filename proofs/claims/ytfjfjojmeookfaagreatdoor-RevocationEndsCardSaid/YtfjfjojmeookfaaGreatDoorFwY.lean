/- A framework for proofs about Go programs in this model: part Y. Everything is proved; no condition is added. -/
import Derived.Test.YtfjfjojmeookfaaGreatDoorFwX
set_option linter.unusedVariables false
set_option linter.unusedSimpArgs false
set_option linter.defProp false
def akC:=@List.flatten_append
namespace Go.Fw
open Go
set_option maxRecDepth 100000 in
def afu:∀b:UInt8,IntKind.wrap .u64 (bits .and .u8 (b.toNat:Int) 127)=((b.toNat % 128:Nat):Int):=by
 intro b;have h:∀n:Fin 256,IntKind.wrap .u64 (bits .and .u8 (n.val:Int) 127)=((n.val % 128:Nat):Int):=by decide
 exact h ⟨b.toNat,b.toNat_lt⟩
def ady(v d:Nat)(b:v<=4294967295)(hd:d<128):bits .or .u64 (Ny .u64 (v:Int) 7) (d:Int)=((v*128+d:Nat):Int):=by
 have a:Ny .u64 (v:Int) 7=((v*128:Nat):Int):=by
  show IntKind.u64.wrap ((v:Int)*2 ^ (7:Nat))=_;rw[ajH];omega
 rw[a];show IntKind.u64.wrap (((BitVec.ofInt 64 ((v*128:Nat):Int))|||(BitVec.ofInt 64 (d:Int))).toNat:Int)=_;rw[alu,ajZ,ajZ,show(((v*128:Nat):Int) % ((2 ^ 64:Nat):Int)).toNat=v*2 ^ 7 from by omega,show((d:Int) % ((2 ^ 64:Nat):Int)).toNat=d from by omega,<-akZ,<-aka (by omega:d<2 ^ 7),akZ,ajH];omega
def Dx(N n:Nat)(c:Bool)(v:Nat)(a:Bs)(i:Nat)(acc:List Int)(b:UInt8)(o:a[i]?=some b)(u:v<=4294967295)(y:i<1000000000)(w:acc.length<=100000000):
 bj N (n+1) (c,(v:Int),a,(a.length:Int),(i:Int),acc)=if (c=false/\b.toNat=128)∨v*128+b.toNat % 128>4294967295 then some (.inl ([],6)) else if b.toNat<128 then bj N n (false,0,a,(a.length:Int),((i+1:Nat):Int),acc++[((v*128+b.toNat % 128:Nat):Int)]) else bj N n (true,((v*128+b.toNat % 128:Nat):Int),a,(a.length:Int),((i+1:Nat):Int),acc):=by
 have t:i<a.length:=by
  rcases ahW i a.length with h|h
  ·exact h
  ·rw[ahZ (by omega)]at o;cases o
 have r:decide ((i:Int)<(a.length:Int))=true:=ahK (by omega);have l:∀x:Int,app 8 acc [x]=some (acc++[x]):=λx=>fY (by omega) (by simp;omega);have g:aq .i64 (i:Int) 1=((i+1:Nat):Int):=cC (by omega);have s:=Tx b;have p:=ady v (b.toNat % 128) u (by omega);have k:(((b.toNat:Nat):Int)==128)=decide (b.toNat=128):=by
  show((b.toNat:Int)==((128:Nat):Int))=_;rw[Ez];rfl
 unfold bj syv;simp only[r,ahS,cr o,ahE,afu,p,l,g,k,bne,s];generalize (@Nat.rec (λ_=>Bool×Int×Bs×Int×Int×List Int->Option (Bs×Int⊕Bool×List Int)) _ _ n)=R;generalize ((i+1:Nat):Int)=j at g⊢;generalize z:v*128+b.toNat % 128=m;by_cases q:m>4294967295
 ·rw[ahK (by omega:(m:Int)>4294967295),ahY (.inr q)];cases c
  ·by_cases d:b.toNat=128
   ·simp[d]
   ·simp[d]
  ·simp
 ·rw[ahH (by omega:¬(m:Int)>4294967295)];by_cases f:b.toNat<128
  ·have d:¬b.toNat=128:=by omega
   rw[ain (by omega),ahY f];cases c<;>simp[d,f,g]
  ·by_cases d:c=false/\b.toNat=128
   ·rw[ahY (.inl d)];obtain⟨rfl,d⟩:=d;simp[d]
   ·rw[ain (λh=>h.elim d q),ain f];cases c
    ·have:¬b.toNat=128:=λe=>d ⟨rfl,e⟩;simp[this,f,g]
    ·simp[f,g]
def Yt(N n:Nat)(c:Bool)(v:Int)(a:Bs)(acc:List Int):bj N (n+1) (c,v,a,(a.length:Int),(a.length:Int),acc)=some (.inr (c,acc)):=by
 show(bif decide ((a.length:Int)<(a.length:Int)) then _ else _)=_;rw[ahH (by omega)];rfl
def Fp{a r:Bs}{i:Nat}{b:UInt8}(h:a.drop i=b::r):a[i]?=some b/\a.drop (i+1)=r:=by
 have c:(a.drop i)[0]?=some b:=by rw[h];rfl
 rw[akH,aj1]at c;refine⟨c,?_⟩;rw[<-ajc,h];rfl
def agw(N:Nat)(a:Bs)(q:a.length<1000000000):∀(k n:Nat),n<=k->0<n->n<33554432->∀(f i:Nat)(acc:List Int)(r:Bs),a.drop i=hi7 n++r->acc.length<=100000000->
 bj N (f+(hi7 n).length) (false,0,a,(a.length:Int),(i:Int),acc)=bj N f (true,(n:Int),a,(a.length:Int),((i+(hi7 n).length:Nat):Int),acc):=by
 intro k;induction k with
 |zero=>intro n v w;omega
 |succ k t=>
  intro n y u z f i acc r c l;have x:i<=a.length:=by
   rcases ahW a.length i with h|h
   ·rw[ail (by omega)]at c;have b:=KQ (n / 128) (n % 128) (by omega) (by omega) (by omega);rw[show n / 128*128+n % 128=n from by omega]at b;rw[b]at c;have:=aii List.length c;simp at this
   ·exact h
  have b:=KQ (n / 128) (n % 128) (by omega) (by omega) (by omega);rw[show n / 128*128+n % 128=n from by omega]at b;have o:(UInt8.ofNat (n % 128+128)).toNat=n % 128+128:=by rw[aje];omega
  by_cases d:n / 128=0
  ·rw[d,Av,ait]at b;rw[b]at c⊢;obtain⟨j,p⟩:=Fp c;rw[show(0:Int)=((0:Nat):Int) from rfl,ai9,Dx N f false 0 a i acc _ j (by omega) (by omega) l,o,ain (by omega),ain (by omega)];rw[show 0*128+(n % 128+128) % 128=n from by omega]
  ·have e:a.drop i=hi7 (n / 128)++(UInt8.ofNat (n % 128+128)::r):=by rw[c,b];simp
   have g:=t (n / 128) (by omega) (by omega) (by omega) (f+1) i acc _ e l;have m:a.drop (i+(hi7 (n / 128)).length)=UInt8.ofNat (n % 128+128)::r:=by
    rw[<-ajc,e,ajj,ail (ahO _)];simp
   obtain⟨j,p⟩:=Fp m;have s:=ah j;rw[b,ahJ,ai9,show f+((hi7 (n / 128)).length+1)=f+1+(hi7 (n / 128)).length from by omega,g,Dx N f true (n / 128) a _ acc _ j (by omega) (by omega) l,o,ain (by simp;omega),ain (by omega)];rw[show n / 128*128+(n % 128+128) % 128=n from by omega,ajL]
def afv(N:Nat)(a:Bs)(e:a.length<1000000000)(m:Nat)(n:m<=4294967295)(f i:Nat)(acc:List Int)(r:Bs)(hd:a.drop i=gh m++r)(c:acc.length<=100000000):
 bj N (f+(gh m).length) (false,0,a,(a.length:Int),(i:Int),acc)=bj N f (false,0,a,(a.length:Int),((i+(gh m).length:Nat):Int),acc++[(m:Int)]):=by
 have k:(UInt8.ofNat (m % 128)).toNat=m % 128:=by rw[aje];omega
 unfold gh at hd⊢;rw[ah6,akn]at hd;by_cases h:m / 128=0
 ·rw[h,Av,ait]at hd⊢;obtain⟨b,l⟩:=Fp hd;have j:=ah b;rw[show(0:Int)=((0:Nat):Int) from rfl,ai9,Dx N f false 0 a i acc _ b (by omega) (by omega) c,k,ain (by omega),ahY (by omega)];rw[show 0*128+m % 128 % 128=m from by omega];rfl
 ·have g:=agw N a e (m / 128) (m / 128) (ahO _) (by omega) (by omega) (f+1) i acc _ hd c;have d:a.drop (i+(hi7 (m / 128)).length)=UInt8.ofNat (m % 128)::r:=by
   rw[<-ajc,hd,ajj,ail (ahO _)];simp
  obtain⟨b,l⟩:=Fp d;have j:=ah b;rw[ahJ,ai9,show f+((hi7 (m / 128)).length+1)=f+1+(hi7 (m / 128)).length from by omega,g,Dx N f true (m / 128) a _ acc _ b (by omega) (by omega) c,k,ain (by simp;omega),ahY (by omega)];rw[show m / 128*128+m % 128 % 128=m from by omega,ajL]
def KW(n:Nat):1<=(gh n).length:=by unfold gh;simp
def KY:∀(L:List Nat),L.length<=((L.map gh).flatten).length
 |[]=>by simp
 |a::r=>by
  have:=KY r;have:=KW a;simp only[ahU,List.flatten_cons,ahJ,ahL];omega
def Yu(N:Nat)(a:Bs)(d:a.length<100000000):∀(L:List Nat)(f i:Nat)(acc:List Int),(∀x∈L,x<=4294967295)->a.drop i=(L.map gh).flatten->i<=a.length->acc.length<=i->
 bj N (f+1+((L.map gh).flatten).length) (false,0,a,(a.length:Int),(i:Int),acc)=some (.inr (false,acc++cn L))
 |[],f,i,acc,_,b,j,_=>by
  have:i=a.length:=by
   have:=aii List.length b;simp at this;omega
  subst this;show bj N (f+1) _=_;rw[Yt];simp[cn]
 |x::L,f,i,acc,h,b,j,m=>by
  rw[ahU,List.flatten_cons]at b;have g:=afv N a (by omega) x (h x (by simp)) (f+1+((L.map gh).flatten).length) i acc _ b (by omega);have c:a.drop (i+(gh x).length)=(L.map gh).flatten:=by
   rw[<-ajc,b,ajj,ail (ahO _)];simp
  have e:i+(gh x).length<=a.length:=by
   have:=aii List.length b;rw[aiC,ahJ]at this;have:=KW x;omega
  have n:=KW x;have l:=Yu N a d L f (i+(gh x).length) (acc++[(x:Int)]) (λy k=>h y (by simp[k])) c e (by simp;omega);rw[ahU,List.flatten_cons,ahJ,show f+1+((gh x).length+((L.map gh).flatten).length)=f+1+((L.map gh).flatten).length+(gh x).length from by omega,g,l];simp[cn]
def ahx(N:Nat)(a:Bs)(z:a.length<100000000):∀(n:Nat)(s:Bool×Int×Bs×Int×Int×List Int),
 (∃(c:Bool)(v i:Nat)(L:List Nat),i<=a.length/\L.length<=i/\(∀x∈L,x<=4294967295)/\v<=4294967295/\a.take i=(L.map gh).flatten++hi7 v/\(c=false->v=0)/\(c=true->0<v)/\s=(c,(v:Int),a,(a.length:Int),(i:Int),cn L))->
 a.length-s.2.2.2.2.1.toNat<n->OW (bj N n s) λy=>y=.inl ([],6)∨∃c L,y=.inr (c,cn L)/\(c=false->a=(L.map gh).flatten/\∀x∈L,x<=4294967295)/\L.length<=a.length:=by
 refine T2 _ _ (λ(s:Bool×Int×Bs×Int×Int×List Int)=>a.length-s.2.2.2.2.1.toNat) _ ?_;rintro n _ ⟨c,v,i,L,B,p,f,q,d,r,t,rfl⟩ o;by_cases g:i<a.length
 ·have m:a[i]?=some a[i]:=ahG g;have b:a.take (i+1)=a.take i++[a[i]]:=by rw[aiM,m];rfl
  rw[Dx N n c v a i _ _ m q (by omega) (by simp[cn];omega)];split
  ·exact aa (.inl rfl)
  ·rename_i j;have u:=a[i].toNat_lt;split
   ·rename_i k;refine o _ ⟨false,0,i+1,L++[v*128+a[i].toNat % 128],by omega,by simp;omega,?_,by omega,?_,λ_=>rfl,(λh=>by cases h),?_⟩ ?_
    ·intro x A;rcases air.1 A with h|h
     ·exact f x h
     ·simp at h;omega
    ·rw[b,d,Av,ah4,aiN,akC,ah6];congr 1;simp only[ahU,ai0,List.flatten_cons,List.flatten_nil,ah4,gh];rw[show(v*128+a[i].toNat % 128) / 128=v from by omega,show(v*128+a[i].toNat % 128) % 128=a[i].toNat from by omega];simp
    ·simp[cn]
    ·show a.length-(((i+1:Nat):Int)).toNat<a.length-((i:Int)).toNat;omega
   ·rename_i k;have l:v*128+a[i].toNat % 128≠0:=by
     cases c with
     |false=>
      have:a[i].toNat≠128:=λe=>j (.inl ⟨rfl,e⟩);omega
     |true=>have:=t rfl;omega
    refine o _ ⟨true,v*128+a[i].toNat % 128,i+1,L,by omega,by omega,f,by omega,?_,(λh=>by cases h),λ_=>by omega,rfl⟩ ?_
    ·rw[b,d,KQ v _ (by omega) (by omega) l,ah6];congr 2;rw[show a[i].toNat % 128+128=a[i].toNat from by omega];simp
    ·show a.length-(((i+1:Nat):Int)).toNat<a.length-((i:Int)).toNat;omega
 ·have:i=a.length:=by omega
  subst this;rw[Yt];refine aa (.inr ⟨c,L,rfl,λw=>⟨?_,f⟩,p⟩);rw[r w,Av,ah4,ajh]at d;exact d
end Go.Fw
def aj0:=@Int.tdiv_eq_ediv_of_nonneg
namespace Go.Fw
open Go
def afw(N:Nat)(s:List Nat)(o:s.length<=100000000)(g:∀x∈s,x<=4294967295):∀(k n i:Nat)(acc:List Int),s.length-i=k->k<n->i<=s.length->acc.length<=i+2->
 eP N n (cn s,((cn s).length:Int),(i:Int),acc)=some (acc++cn (s.drop i)):=by
 have c:(cn s).length=s.length:=by simp[cn]
 intro k;induction k with
 |zero=>
  intro n i acc e f d b;obtain⟨n,rfl⟩:∃m,n=m+1:=⟨n-1,by omega⟩;show(bif decide ((i:Int)<((cn s).length:Int)) then _ else _)=_;rw[ahH (by omega),ahM,ail (by omega)];simp[cn]
 |succ k j=>
  intro n i acc e f d b;obtain⟨n,rfl⟩:∃m,n=m+1:=⟨n-1,by omega⟩;have a:i<s.length:=by omega
  have h:ix (cn s) (i:Int)=some (s[i]:Int):=by
   refine cr ?_;simp[cn,a]
  have l:=g s[i] (ais a);show(bif decide ((i:Int)<((cn s).length:Int)) then _ else _)=_;rw[ahK (by omega),ahS,h,ahE,show IntKind.wrap .u32 (s[i]:Int)=(s[i]:Int) from by rw[ajK];omega,fY (by omega) (by simp;omega),ahE,cC (by omega)];refine(j n (i+1) _ (by omega) (by omega) (by omega) (by simp;omega)).trans ?_;rw[ah9 a,ah6];rfl
def aa4(N:Nat)(b:FN N)(L:List Nat)(g:L.length<=100000000)(c:ut L=true)(d:∀x∈L,x<=4294967295):iy N (cn L)=some (Lib.join (L.map Lib.decDigits) [46],0):=by
 unfold FN at b;obtain⟨t,e,h,a,_⟩:=ZA N (cn L) (by simp[cn];omega) (by simp[cn];omega);obtain⟨rfl,rfl⟩:=a (by rw[OT,c]);rw[h];congr 3;unfold cn;rw[List.map_map];refine List.map_congr_left λx f=> ?_;have:=d x f;show Lib.decDigits (IntKind.wrap .u64 (x:Int)).toNat=_;rw[show IntKind.wrap .u64 (x:Int)=(x:Int) from by rw[ajH];omega,aiL]
def uv:List Nat->List Nat
 |[]=>[]
 |q::r=>min (q / 40) 2::(q-40*min (q / 40) 2)::r
def OZ(q:Nat)(r:List Nat)(b:∀x∈q::r,x<=4294967295):ut (uv (q::r))=true/\(∀x∈uv (q::r),x<=4294967295)/\Ca (uv (q::r))=((q::r).map gh).flatten:=by
 have c:=b q (by simp);refine⟨ahK (by omega),?_,?_⟩
 ·intro x a;simp only[uv,ah8]at a;rcases a with rfl|rfl|a
  ·omega
  ·omega
  ·exact b x (by simp[a])
 ·show gh (40*min (q / 40) 2+(q-40*min (q / 40) 2))++_=_;rw[show 40*min (q / 40) 2+(q-40*min (q / 40) 2)=q from by omega];rfl
def We(a b:Nat)(r:List Nat)(h:ut (a::b::r)=true):uv ((40*a+b)::r)=a::b::r:=by
 have c:a<=2/\(a<2->b<40)/\(¬a<2->b<=4294967215):=aih h;show min ((40*a+b) / 40) 2::(40*a+b-40*min ((40*a+b) / 40) 2)::r=_;have e:min ((40*a+b) / 40) 2=a:=by omega
 rw[e,show 40*a+b-40*a=b from by omega]
def Sw{N:Nat}(i:FN N)(a:Bs)(M:List Nat)(d:M.length<=10000000)(l:M≠[])(f:∀x∈M,x<=4294967295)(c:Bool)(h:bj N N (false,0,a,(a.length:Int),0,[])=some (.inr (false,cn M))):cp N a=some (Lib.join ((uv M).map Lib.decDigits) [46],0):=by
 have b:=i;unfold FN at b;cases M with
 |nil=>exact absurd rfl l
 |cons q r=>
  obtain⟨o,p,u⟩:=OZ q r f;have t:=f q (by simp);unfold cp syv;rw[h,ahE];dsimp only;have j:ix (cn (q::r)) 0=some (q:Int):=rfl;have s:(cn (q::r)).length=r.length+1:=by simp[cn]
  have e:slc (cn (q::r)) 1 ((cn (q::r)).length:Int)=some (cn r):=by
   unfold slc;rw[ahY ⟨by omega,by omega,by omega⟩,aiL,aib (ahO _)];rfl
  have m:iG (gy .u64 (q:Int) 40) 2=((min (q / 40) 2:Nat):Int):=by
   have:gy .u64 (q:Int) 40=((q / 40:Nat):Int):=by
    show IntKind.u64.wrap ((q:Int).tdiv 40)=_;rw[aj0 (by omega),ajH];omega
   rw[this];unfold iG;split<;>omega
  have g:IntKind.wrap .u32 ((min (q / 40) 2:Nat):Int)=((min (q / 40) 2:Nat):Int):=by rw[ajK];omega
  have n:IntKind.wrap .u32 (aX .u64 (q:Int) (kZ .u64 40 ((min (q / 40) 2:Nat):Int)))=((q-40*min (q / 40) 2:Nat):Int):=by
   show IntKind.wrap .u32 (IntKind.u64.wrap ((q:Int)-IntKind.u64.wrap (40*((min (q / 40) 2:Nat):Int))))=_;rw[ajH,ajH,ajK];omega
  rw[ahM,show(((cn (q::r)).length:Int)==0)=false from aic.2 (by omega),ahM,show decide (((cn (q::r)).length:Int)>0)=true from ahK (by omega),ahS,j,ahE,ahS,ahE,e,ahE,m,g,n];have k:=afw N r (by simp at d;omega) (λx g=>f x (by simp[g])) r.length N 0 [((min (q / 40) 2:Nat):Int),((q-40*min (q / 40) 2:Nat):Int)] (by omega) (by simp at d;omega) (by omega) (by simp);rw[show eP N N (cn r,((cn r).length:Int),0,_)=_ from k,ahE,show [((min (q / 40) 2:Nat):Int),((q-40*min (q / 40) 2:Nat):Int)]++cn (r.drop 0)=cn (uv (q::r)) from rfl,aa4 N i _ (by simp[uv]at d⊢;omega) o p];rfl
def Yv{N:Nat}(l:FN N){s:Bs}{L:List Nat}(h:mr s L)(f:(Ca L).length<10000000):cp N (Ca L)=some (s,0):=by
 have d:=l;unfold FN at d;obtain⟨c,i,j⟩:=h
 match L,c,i,j,f with
 |a::b::r,c,i,j,f=>
  have n:a<=2/\(a<2->b<40)/\(¬a<2->b<=4294967215):=aih c;have m:∀x∈(40*a+b)::r,x<=4294967295:=by
   intro x g;rcases ah8.1 g with rfl|g
   ·omega
   ·exact i x (by simp[g])
  have e:Ca (a::b::r)=(((40*a+b)::r).map gh).flatten:=rfl;have o:=KY ((40*a+b)::r);rw[e]at f⊢;have k:=Yu N _ (by omega) ((40*a+b)::r) (N-1-((((40*a+b)::r).map gh).flatten).length) 0 [] m (aiv ..) (by omega) (by simp);rw[show N-1-((((40*a+b)::r).map gh).flatten).length+1+((((40*a+b)::r).map gh).flatten).length=N from by omega,ait]at k;rw[Sw l _ _ (by omega) (by simp) m false k,We a b r c,j]
def Yw{N:Nat}(e:FN N)(a:Bs)(m:a.length<10000000):OW (cp N a) λr=>(r.2=0/\∃L,mr r.1 L/\a=Ca L)∨r=([],6):=by
 have b:=e;unfold FN at b;obtain⟨y,h,i⟩:=ahx N a (by omega) N (false,0,a,(a.length:Int),0,[]) ⟨false,0,0,[],by omega,by simp,by simp,by omega,by simp[Av],λ_=>rfl,(λh=>by cases h),rfl⟩ (by show a.length-0<N;omega);rcases i with rfl|⟨c,M,rfl,g,n⟩
 ·unfold cp syv;rw[h,ahE];exact aa (.inr rfl)
 ·cases c with
  |true=>
   unfold cp syv;rw[h,ahE];exact aa (.inr rfl)
  |false=>
   obtain⟨f,d⟩:=g rfl;cases M with
   |nil=>
    unfold cp syv;rw[h,ahE];exact aa (.inr rfl)
   |cons q r=>
    obtain⟨j,k,l⟩:=OZ q r d;exact Iy (Sw e a (q::r) (by omega) (by simp) d false h) (.inl ⟨rfl,uv (q::r),⟨j,k,rfl⟩,by rw[l];exact f⟩)
def aa5{s:Bs}{L:List Nat}(h:mr s L):L.length<=(Ca L).length+1:=by
 obtain⟨d,e,f⟩:=h
 match L,d with
 |a::b::r,_=>
  have c:=KY ((40*a+b)::r);simp only[ahL]at c⊢;show _<=((((40*a+b)::r).map gh).flatten).length+1;omega
end Go.Fw
namespace Go.Fw
open Go
noncomputable def opn(N:Nat)(b:Bs):Bool:=match cD N b with
 |some (_,e,_)=>e==0
 |none=>false
def aa6(N n:Nat)(O:15<n)(H:FN N)(a:Bs)(D:a.length<10000000)(v:Fw.Spot)(e o:Int)(h:bZ N (n+1) a 0 (a.length:Int) 16=some (v,e,o))(r:e=0):o=0/\∃t q,okT t/\a=am t++q/\v.stop=((am t).length:Int):=by
 unfold FN at H;have K:(decide ((a.length:Int)<=(a.length:Int))&&decide ((a.length:Int)<=(a.length:Int)))=true:=by simp
 have A:slc a 0 (a.length:Int)=some a:=by
  unfold slc;rw[ahY ⟨by omega,by omega,by omega⟩];simp
 rw[Ok,show((16:Int)==0)=false from rfl,ahM,K,ahS,A,ahE]at h;cases u:aW N a with
 |none=>rw[u]at h;cases h
 |some x=>
  obtain⟨⟨c,B,k,L,W⟩,C,U⟩:=x;rw[u,ahE]at h;dsimp only at h;by_cases f:C=0
  ·subst f;obtain⟨p,d,m,b,q1,V,q3,F,rfl,rfl,rfl,rfl⟩:=Ev N (by omega) a (by omega) c B L W U k u;have M:=aii List.length F;simp only[ahL,ahJ]at M;have w1:aq .i64 0 ((1+(aY m).length:Nat):Int)=((1+(aY m).length:Nat):Int):=by rw[gb (by omega)];omega
   have w2:aX .i64 (a.length:Int) ((1+(aY m).length:Nat):Int)=((a.length-(1+(aY m).length):Nat):Int):=by
    show IntKind.i64.wrap _=_;rw[aie _ (by omega)];omega
   simp only[alk,ahM,w1,w2]at h;by_cases hm:a.length-(1+(aY m).length)<m
   ·rw[ahK (by omega)]at h;cases h;cases r
   ·rw[ahH (by omega)]at h;have w3:aq .i64 ((1+(aY m).length:Nat):Int) (m:Int)=((1+(aY m).length+m:Nat):Int):=by rw[gb (by omega)];omega
    simp only[ahM,w3]at h;have E:(b.take m).length=m:=by rw[aid];omega
    have I:∃t q,okT t/\a=am t++q/\((am t).length:Int)=((1+(aY m).length+m:Nat):Int):=by
     refine⟨(p,k,d,b.take m),b.drop m,⟨q1,V,by show(b.take m).length<=_;omega⟩,?_,?_⟩
     ·rw[F];show _=idB p k d::(aY (b.take m).length++b.take m)++b.drop m;rw[E];simp
     ·rw[vP];show((1+(aY (b.take m).length).length+(b.take m).length:Nat):Int)=_;rw[E]
    obtain⟨t,q,X,Y,Z⟩:=I;have g:∀z:Int,z=((1+(aY m).length+m:Nat):Int)->v.stop=z->o=0->o=0/\∃t q,okT t/\a=am t++q/\v.stop=((am t).length:Int):=λz T R P=>⟨P,t,q,X,Y,by rw[R,T,Z]⟩;cases k
    ·simp only[aj7,ahS]at h;obtain⟨s,Q,w⟩:=E8 (l:=a) (i:=((1+(aY m).length:Nat):Int)) (j:=((1+(aY m).length+m:Nat):Int)) (by omega) (by omega) (by omega);rw[Q,ahE,wK (by rw[w,aiC,aid];omega),ahE]at h;simp only[ahI,ah3]at h;exact g _ rfl (by rw[<-h.1];rfl) h.2.2.symm
    ·simp only[aiK,ahM]at h;obtain⟨y,S,J⟩:=Jq N a D (bZ N n) 15 (by omega)
      (Kg N a (by omega) D 15 n O (by omega))
      (1+(aY m).length+m) (by omega) 0 (p:Int) (d:Int) true _ N (1+(aY m).length) [] [] rfl (by omega) (by omega) (by simp) (by simp)
     rw[show bO N (bZ N n) N (a,16,((1+(aY m).length:Nat):Int),0,0,0,0,false,[],0,0,[],[],0,((1+(aY m).length+m:Nat):Int),(p:Int),(d:Int),true)=some y from S,ahE]at h;rcases J with⟨e',o',rfl,G,g2,g3⟩|⟨l,l',rfl⟩
     ·simp only[ahI,ah3]at h;exact absurd (h.2.1.trans r) G
     ·simp only[ahI,ah3]at h;exact g _ rfl (by rw[<-h.1];rfl) h.2.2.symm
  ·rw[show(C !=0)=true from by simpa using f]at h;cases h;exact absurd r f
def Wf{N:Nat}(l:FN N)(a:Bs)(k:a.length<10000000):OW (cD N a) λr=>(r.2=(0,0)/\opn N a=true/\∃t,okT t/\a=am t)∨(r.2.1≠0/\opn N a=false/\0<=r.2.2/\r.2.2<=(a.length:Int)):=by
 have j:=l;unfold FN at j;obtain⟨v,e,o,i,u,x⟩:=U3 N a (by omega) k;have n:opn N a=(e==0):=by unfold opn;rw[i]
 refine⟨_,i,?_⟩;by_cases h:e=0
 ·have b:=i;unfold cD fe syv at b;obtain⟨w,d,p,y,A,B,C⟩:=Kg N a (by omega) k 16 N (by omega) (by omega) 0 a.length (by omega) (ahO _);have g:bZ N N a 0 (a.length:Int) 16=some (w,d,p):=y;rw[g,ahE]at b;dsimp only at b;by_cases c:d=0
  ·obtain⟨m,rfl⟩:∃m,N=m+1:=⟨N-1,by omega⟩;obtain⟨p1,t,q,p2,s,D⟩:=aa6 (m+1) m (by omega) l a k w d p g c;rw[show(d==0)=true from by simpa using c,cond_true]at b;by_cases f:w.stop<(a.length:Int)
   ·rw[ahK f,ahS]at b;simp only[ahE,ahI,ah3]at b;have:=b.2.1;omega
   ·rw[ahH f,ahM]at b;simp only[ahE,ahI,ah3]at b;have z:a.length=(am t).length+q.length:=by rw[s,ahJ]
    have:q=[]:=aip (by omega);subst this;refine .inl ⟨?_,by rw[n];simpa using h,t,p2,by simpa using s⟩;rw[<-b.2.1,<-b.2.2,c,p1]
  ·rw[show(d==0)=false from by simpa using c,cond_false]at b;simp only[ahE,ahI,ah3]at b;exact absurd (b.2.1.trans h) c
 ·exact .inr ⟨h,by rw[n];simpa using h,u,x⟩
end Go.Fw
def ai6:=@List.sum_cons
namespace Go.Fw
open Go
noncomputable def jx(s:Bs):Bs:=if h:ofP (∃L,mr s L)=true then Ca (Classical.choose (sX.1 h)) else []
def yT{s:Bs}{L:List Nat}(h:mr s L):jx s=Ca L:=by
 have a:ofP (∃L,mr s L)=true:=sX.2 ⟨L,h⟩;unfold jx;rw[dif_pos a];exact aii Ca ((aiZ (sX.1 a)).uniq h)
def Dy{N:Nat}(d:FN N)(s:Bs)(e:s.length<10000000):dF N s=some (bif j5 s then(jx s,0) else([],8)):=by
 obtain⟨b,c⟩:=adk d s e;cases h:j5 s
 ·exact c h
 ·obtain⟨L,a⟩:=nw.1 h;rw[b L a,yT a];rfl
def NZ{N:Nat}(c:FN N){s:Bs}(h:j5 s=true)(b:(jx s).length<10000000):cp N (jx s)=some (s,0):=by
 obtain⟨L,a⟩:=nw.1 h;rw[yT a]at b⊢;exact Yv c a b
def xg{N:Nat}(e:FN N)(a:Bs)(f:a.length<10000000):OW (cp N a) λr=>(r.2=0/\j5 r.1=true/\jx r.1=a)∨r=([],6):=by
 refine Ix (Yw e a f) ?_;rintro r (⟨c,L,b,d⟩|h)
 ·exact .inl ⟨c,nw.2 ⟨L,b⟩,by rw[yT b,d]⟩
 ·exact .inr h
def adz(L:List Nat)(b:∀x∈L,x<=4294967295):Lib.lens (L.map Lib.decDigits)<=20*L.length:=by
 induction L with
 |nil=>simp[Lib.lens]
 |cons a r e=>
  have f:=He a (by have:=b a (by simp);omega);have c:=e λx d=>b x (by simp[d]);simp only[Lib.lens,ahU,List.map_map,ai6,ahL]at c⊢;omega
def IP{s:Bs}(h:j5 s=true):s.length<=21*((jx s).length+1):=by
 obtain⟨L,b⟩:=nw.1 h;have d:=aa5 b;rw[yT b];obtain⟨e,f,rfl⟩:=b;have c:=adz L f;cases L with
 |nil=>cases e
 |cons a r=>
  rw[ahU,Lib.join_length,<-ahU];simp only[aiq,ahL,ah1]at d c⊢;omega
def FY:∀(L:List Nat),((L.map gh).flatten).length<=6*L.length
 |[]=>by simp
 |a::r=>by
  have b:=KR a;have c:=FY r;simp only[ahU,List.flatten_cons,ahJ,ahL];omega
def Un:∀(r:List (List UInt8))(x:List UInt8),r.length<=(Lib.join (x::r) [46]).length
 |[],x=>by simp
 |y::r,x=>by
  have:=Un r y;rw[qw,ahJ,ahL,ahL];omega
def sd(s:Bs):(jx s).length<=6*(s.length+1):=by
 unfold jx;split
 ·rename_i h;obtain⟨d,g,e⟩:=aiZ (sX.1 h);generalize Classical.choose (sX.1 h)=L at d g e
  match L,d with
  |a::b::r,_=>
   have c:=FY ((40*a+b)::r);have f:=Un ((b::r).map Lib.decDigits) (Lib.decDigits a);rw[e];simp only[aiq,ahL,ahU]at c f⊢;show((((40*a+b)::r).map gh).flatten).length<=_;simp only[ahU]at c⊢;omega
 ·simp
def EL.cs{a:Bs}{t:TLV}{e:bU}(h:EL a t e)(c num:Nat)(k:Bool)(d f:Int)(l:d=(c:Int))(m:f=(num:Int)):(bA e d k f=some true/\t=(c,k,num,t.2.2.2))∨(bA e d k f=some false/\¬(t.1=c/\t.2.1=k/\t.2.2.1=num)):=by
 subst l m;rw[h.is];by_cases b:t.1=c/\t.2.1=k/\t.2.2.1=num
 ·rw[ahK b];obtain⟨g,i,j⟩:=b;exact .inl ⟨rfl,by rw[<-g,<-i,<-j]⟩
 ·rw[ahH b];exact .inr ⟨rfl,b⟩
def EL.yes{a:Bs}{t:TLV}{e:bU}(h:EL a t e)(c num:Nat)(k:Bool)(b d:Int)(j:b=(c:Int))(l:d=(num:Int))(f:t.1=c)(g:t.2.1=k)(i:t.2.2.1=num):bA e b k d=some true:=by
 subst j l;rw[h.is,ahK ⟨f,g,i⟩]
def EL.no{a:Bs}{t:TLV}{e:bU}(h:EL a t e)(c num:Nat)(k:Bool)(b d:Int)(g:b=(c:Int))(i:d=(num:Int))(f:¬(t.1=c/\t.2.1=k/\t.2.2.1=num)):bA e b k d=some false:=by
 subst g i;rw[h.is,ahH f]
def m8{N:Nat}(j:FN N){c num:Nat}(k:c<4)(n:num<31)(a:Bs)(b:List TLV)(e:a=tlv c true num (aA b))(m:∀t∈b,okT t)(o:a.length<10000000)(g i:Int)(d:g=(c:Int))(f:i=(num:Int)):
 ∃l,aD N a g i=some (l,0,0)/\gz (EL a) b l:=by
 subst e d f;have h:(aA b).length<(tlv c true num (aA b)).length:=by rw[m5];omega
 exact T3 j k n b m (by omega)
def agx{N:Nat}(b:FN N)(a:Bs)(t:TLV)(h:a=am t)(c:okT t):∃e,bx N a=some (e,0,0)/\EL a t e:=by
 subst h;exact IA b t c
def PS{T:Type}(ok:T->Bool)(enc:T->Bs)(a:Bs)(r:T×Int×Int):Prop:=(r.2=(0,0)/\ok r.1=true/\enc r.1=a)∨(r.2.1≠0/\0<=r.2.2/\r.2.2<=(a.length:Int))
def Wg{T:Type}{ok:T->Bool}{enc:T->Bs}{a:Bs}{v:T}(b:ok v=true)(c:enc v=a):PS ok enc a (v,0,0):=.inl ⟨rfl,b,c⟩
def qk{T:Type}{ok:T->Bool}{enc:T->Bs}{a:Bs}{v:T}{e o:Int}(h:e≠0)(b:0<=o)(c:o<=(a.length:Int)):PS ok enc a (v,e,o):=.inr ⟨h,b,c⟩
noncomputable def fZ(s:Bs):TLV:=(0,false,6,jx s)
def rx{c num:Nat}{k:Bool}{b:Bs}(a:c<4)(d:num<31)(e:b.length<10000000):okT (c,k,num,b):=⟨a,d,by show b.length<=_;omega⟩
def gS{c num:Nat}{k:Bool}{b:Bs}:b.length<(tlv c k num b).length:=by rw[m5];omega
def gr{c num:Nat}{k:Bool}{b:Bs}(h:b.length<4294967296):(tlv c k num b).length<=b.length+6:=by
 have:=(oK b.length h).2;rw[m5];omega
def H4{N:Nat}(a:FN N)(c num:Nat)(d:c<4)(e:num<31)(k:Bool)(xs:List Bs)(f:xs.length<10000000)(b:xs.flatten.length<=2147483647):aI N (c:Int) k (num:Int) xs=some (tlv c k num xs.flatten,0):=by
 unfold FN at a;exact Q3 N (by omega) a.2 k d e xs (by omega) b
def MG{N:Nat}(a:FN N)(xs:List Bs)(c:xs.length<10000000)(b:xs.flatten.length<=2147483647):aE N xs=some (tlv 0 true 16 xs.flatten,0):=by
 unfold FN at a;exact Q4 N (by omega) a.2 xs (by omega) b
def m9{x:Bs}(h:x.length<10000000):fP x=some x:=wK (by omega)
def MH{N:Nat}(c:FN N)(a:Bs)(d:a.length<10000000):∃v e o,cD N a=some (v,e,o)/\opn N a=(e==0)/\0<=o/\o<=(a.length:Int):=by
 obtain⟨⟨v,e,o⟩,h,f⟩:=Wf c a d;refine⟨v,e,o,h,?_,?_⟩
 ·unfold opn;rw[h]
 ·rcases f with⟨b,_⟩|⟨_,_,b⟩
  ·simp only[ah3]at b;omega
  ·exact b
def abO{N:Nat}(c:FN N){a:Bs}(d:a.length<10000000)(h:opn N a=true):∃t,okT t/\a=am t:=by
 obtain⟨r,_,e⟩:=Wf c a d;rcases e with⟨_,_,b⟩|⟨_,b,_⟩
 ·exact b
 ·rw[h]at b;cases b
end Go.Fw
namespace Go.Fw
open Go
noncomputable def uw(N:Nat)(v:Bs×Bs):Bool:=j5 v.1&&(decide (v.2=[])||opn N v.2)
noncomputable def Cc(v:Bs×Bs):Bs:=tlv 0 true 16 (am (fZ v.1)++v.2)
def Sx{α:Type}(l:List α):(((l.length:Nat):Int)==0)=decide (l=[]):=by
 cases l with
 |nil=>rfl
 |cons a r=>
  rw[ahH (by simp)];exact aic.2 (by simp only[ahL];omega)
def O0{N:Nat}(a:FN N)(v:Bs×Bs)(b:v.1.length<10000000)(c:v.2.length<10000000):cu N v=some (uw N v):=by
 obtain⟨w,e,o,d,f,_⟩:=MH a v.2 c;unfold cu uw dt syv;rw[BA a _ b,ahE,Sx,d,f];cases j5 v.1
 ·rfl
 ·by_cases h:v.2=[]
  ·rw[ahK h];rfl
  ·rw[ahH h];rfl
def Sy(s:Bs)(h:s.length<10000000):(am (fZ s)).length<=6*s.length+12:=by
 have a:=sd s;have d:=gr (c:=0) (num:=6) (k:=false) (b:=jx s) (by omega);show(tlv 0 false 6 (jx s)).length<=_;omega
def Dz(s:Bs):(jx s).length<(am (fZ s)).length:=gS
def abP{N:Nat}(a:FN N)(v:Bs×Bs)(b:v.1.length<10000000)(d:v.2.length<10000000):gU N v=some (bif uw N v then(Cc v,0) else([],8)):=by
 unfold gU lE syv;rw[O0 a v (by omega) (by omega),ahE];cases h:uw N v
 ·rfl
 ·have hO:j5 v.1=true:=by unfold uw at h;simp only[ahF]at h;exact h.1
  have e:=sd v.1;have f:=Sy v.1 b;have c:=H4 a 0 6 (by omega) (by omega) false [jx v.1] (by simp) (by simp;omega);simp only[aiK,ahM,Dy a _ (show v.1.length<10000000 by omega),hO,ahS,ahE,show((0:Int)==0)=true from rfl,show aI N 0 false 6 [jx v.1]=_ from c,List.flatten_cons,List.flatten_nil,ah4,show((0:Int) !=0)=false from rfl];rw[MG a _ (by simp) (by simp only[List.flatten_cons,List.flatten_nil,ah4,ahJ];show(am (fZ v.1)).length+_<=_;omega)];simp[Cc,am,fZ]
def ix0{α:Type}(x:α)(l:List α):ix (x::l) 0=some x:=rfl
def ix1{α:Type}(x y:α)(l:List α):ix (x::y::l) 1=some y:=rfl
def ix2{α:Type}(x y z:α)(l:List α):ix (x::y::z::l) 2=some z:=rfl
def Yx{N:Nat}(b:FN N)(v:Bs×Bs)(h:uw N v=true)(a:Bs)(j:Cc v=a)(F:a.length<9000000):kQ N a=some (v,0,0):=by
 obtain⟨s,p⟩:=v;unfold uw at h;simp only[ahF,ai1,aij]at h;obtain⟨hO,B⟩:=h;have z:(am (fZ s)++p).length<a.length:=by rw[<-j];exact gS
 rw[ahJ]at z;have E:=Dz s;have u:okT (fZ s):=rx (by omega) (by omega) (by omega);have r:=NZ b hO (by omega);unfold kQ syv;by_cases e:p=[]
 ·subst e;obtain⟨l,g,i⟩:=m8 b (c:=0) (num:=16) (by omega) (by omega) a [fZ s] (by rw[<-j];simp[Cc,aA]) (by simpa using u) (by omega) 0 16 rfl rfl;rw[g];rcases i with _|⟨f,⟨⟩⟩;have m:=f.yes 0 6 false 0 6 rfl rfl rfl rfl rfl;have n:=f.body;simp[ix0,m,n,show(fZ s).2.2.2=jx s from rfl,r]
 ·have d:opn N p=true:=B.resolve_left e;obtain⟨t,k,rfl⟩:=abO b (by omega) d;obtain⟨l,g,i⟩:=m8 b (c:=0) (num:=16) (by omega) (by omega) a [fZ s,t] (by rw[<-j];simp[Cc,aA]) (by simp[u,k]) (by omega) 0 16 rfl rfl;obtain⟨w,x,o,y,q,_⟩:=MH b (am t) (by omega);rw[d]at q;have A:x=0:=by simpa using q.symm
  rw[g];rcases i with _|⟨f,_|⟨D,⟨⟩⟩⟩;have m:=f.yes 0 6 false 0 6 rfl rfl rfl rfl rfl;have n:=f.body;have C:=D.whole;simp[ix0,ix1,m,n,C,show(fZ s).2.2.2=jx s from rfl,r,m9 (show(am t).length<10000000 by omega),y,A]
def PU(t u:TLV):aA [t,u]=am t++am u:=by simp[aA]
def abQ(t u v:TLV):aA [t,u,v]=am t++(am u++am v):=by simp[aA]
end Go.Fw
namespace Go.Fw
open Go
noncomputable def ky(N:Nat)(v:Bs×Bs):Bool:=j5 v.1&&opn N v.2
noncomputable def fK(v:Bs×Bs):Bs:=tlv 0 true 16 (am (fZ v.1)++v.2)
def VS{N:Nat}(a:FN N)(v:Bs×Bs)(b:v.1.length<10000000)(c:v.2.length<10000000):cw N v=some (ky N v):=by
 obtain⟨w,e,o,d,f,_⟩:=MH a v.2 c;unfold cw ky syv;rw[d,ahE,f];dsimp only;rw[BA a _ b,ahE];cases j5 v.1<;>rfl
def aeV{N:Nat}(a:FN N)(v:Bs×Bs)(b:v.1.length<10000000)(d:v.2.length<10000000):bV N v=some (bif ky N v then(fK v,0) else([],8)):=by
 unfold bV syv;rw[VS a v (by omega) (by omega),ahE];cases h:ky N v
 ·rfl
 ·have hO:j5 v.1=true:=by unfold ky at h;simp only[ahF]at h;exact h.1
  have e:=sd v.1;have f:=Sy v.1 b;have c:=H4 a 0 6 (by omega) (by omega) false [jx v.1] (by simp) (by simp;omega);simp only[aiK,ahM,Dy a _ (show v.1.length<10000000 by omega),hO,ahS,ahE,show aI N 0 false 6 [jx v.1]=_ from c,List.flatten_cons,List.flatten_nil,ah4,show((0:Int) !=0)=false from rfl];rw[MG a _ (by simp) (by simp only[List.flatten_cons,List.flatten_nil,ah4,ahJ];show(am (fZ v.1)).length+_<=_;omega)];simp[fK,am,fZ]
def acP{N:Nat}(d:FN N)(v:Bs×Bs)(h:ky N v=true)(a:Bs)(g:fK v=a)(D:a.length<9000000):cA N a=some (v,0,0):=by
 obtain⟨s,p⟩:=v;unfold ky at h;simp only[ahF]at h;obtain⟨hO,b⟩:=h;have q:(am (fZ s)++p).length<a.length:=by rw[<-g];exact gS
 rw[ahJ]at q;have C:=Dz s;have x:okT (fZ s):=rx (by omega) (by omega) (by omega);have r:=NZ d hO (by omega);unfold cA syv;obtain⟨t,e,rfl⟩:=abO d (by omega) b;obtain⟨l,k,m⟩:=m8 d (c:=0) (num:=16) (by omega) (by omega) a [fZ s,t] (by rw[<-g];simp[fK,aA]) (by simp[x,e]) (by omega) 0 16 rfl rfl;obtain⟨w,j,o,n,f,_⟩:=MH d (am t) (by omega);rw[b]at f;have u:j=0:=by simpa using f.symm
 rw[k];rcases m with _|⟨i,_|⟨B,⟨⟩⟩⟩;have y:=i.yes 0 6 false 0 6 rfl rfl rfl rfl rfl;have z:=i.body;have A:=B.whole;simp[ix0,ix1,y,z,A,show(fZ s).2.2.2=jx s from rfl,r,m9 (show(am t).length<10000000 by omega),n,u]
def acQ{N:Nat}(j:FN N)(a:Bs)(T:a.length<9000000):OW (cA N a) (PS (ky N) fK a):=by
 unfold cA syv;refine ai (sT j a (by omega) 0 16) ?_;rintro⟨l,e,o⟩ (⟨b,v,g,_,_,M,h⟩|⟨g,A,B⟩)
 ·cases b;dsimp only at h⊢;rw[show((0:Int) !=0)=false from rfl,ahM];refine ax (λc=>aa (qk (by decide) (by omega) (by omega))) λx=> ?_;refine ax (λc=> ?_) λc=> ?_
  ·refine ai (xp (by omega) (by simpa using c)) λe P=> ?_;obtain⟨t,_,k⟩:=h.get P.1;obtain⟨p,q,r,d,i,D,F,H,J,b7⟩:=k.bd;exact aa (qk (by decide) (by rw[d];omega) (by rw[d];omega))
  ·rcases h with _| @⟨t1,e1,v,l,k1,_| @⟨t2,e2,v,l,k2,_| @⟨t3,e3,v,l,k3,h⟩⟩⟩
   ·cases x
   ·cases x
   ·obtain⟨p,q,r,d,i,D,F,H,J,b7⟩:=k1.bd;obtain⟨W,X,Y,f,C,E,G,I,K,L⟩:=k2.bd;have Q:=vP t1;rw[ix0,ahE];rcases k1.cs 0 6 false 0 6 rfl rfl with⟨u,n⟩|⟨u,_⟩
    ·rw[u,ahE,aiK,ahM,ahE,ahE,k1.body,ahE];refine ai (xg j _ (by omega)) ?_;rintro⟨s,e⟩ (⟨b,y,d2⟩|b)
     ·dsimp only at b y d2;subst b;dsimp only;have O:am t1=am (fZ s):=by rw[n];unfold fZ;rw[d2]
      rw[show((0:Int) !=0)=false from rfl,ahM,ix1,ahE,ahE,k2.whole,ahE,m9 (by omega),ahE];obtain⟨w,z,o,R,S,U,V⟩:=MH j (am t2) (by omega);rw[R,ahE];dsimp only;by_cases m:z=0
      ·subst m;exact aa (Wg (by simp[ky,y,S]) (by rw[M,PU,O];simp[fK]))
      ·rw[show(z !=0)=true from by simpa using m,cond_true,Option.bind_some];exact aa (qk m (by rw[f,gb (by omega)];omega) (by rw[f,gb (by omega)];omega))
     ·cases b;exact aa (qk (by decide) (by rw[i];omega) (by rw[i];omega))
    ·rw[u,ahE,aj7,ahS,ahE];exact aa (qk (by decide) (by rw[d];omega) (by rw[d];omega))
   ·exact absurd c (by simp;omega)
 ·dsimp only at g A B⊢;rw[show(e !=0)=true from by simpa using g];exact aa (qk g A B)
def acR{N:Nat}{v:Bs×Bs}(h:ky N v=true):v.1.length<=21*(fK v).length/\v.2.length<=(fK v).length:=by
 unfold ky at h;simp only[ahF]at h;have b:=IP h.1;have c:=Dz v.1;have a:(am (fZ v.1)++v.2).length<(fK v).length:=gS;rw[ahJ]at a;omega
end Go.Fw
def akk:=@Bool.true_and
namespace Go.Fw
open Go
def VT{T γ:Type}(l:List T)(ok:T->Bool)(enc:T->Bs)(F:Nat->Nat->List Bs->Option (Int⊕γ))(fin:List Bs->γ)(c:Int)
 (step:∀n i x a,l[i]?=some x->a.length=i->F (n+1) i a=if ok x=true then F n (i+1) (a++[enc x]) else some (.inl c))
 (d:∀n a,a.length=l.length->F (n+1) l.length a=some (.inr (fin a)))(N:Nat)(g:l.length<N):
 F N 0 []=if l.all ok=true then some (.inr (fin (l.map enc))) else some (.inl c):=by
 have e:∀(k n i:Nat),l.length-i=k->k<n->i<=l.length->F n i ((l.take i).map enc)=if (l.drop i).all ok=true then some (.inr (fin (l.map enc))) else some (.inl c):=by
  intro k;induction k with
  |zero=>
   intro n i o p j;obtain⟨n,rfl⟩:∃m,n=m+1:=⟨n-1,by omega⟩;obtain rfl:i=l.length:=by omega
   rw[d n _ (by simp),List.drop_length,ajh];rfl
  |succ k q=>
   intro n i o p j;obtain⟨n,rfl⟩:∃m,n=m+1:=⟨n-1,by omega⟩;have b:i<l.length:=by omega
   rw[step n i l[i] _ (ahG b) (by simp;omega),ah9 b,ai3];cases h:ok l[i]
   ·simp
   ·have f:=q n (i+1) (by omega) (by omega) (by omega);rw[aiM,ahG b,aiN]at f;simp only[akk,aiG];exact f
 exact e l.length N 0 (by omega) g (by omega)
def af7{T γ H:Type}(a:Bs)(g:List TLV)(l:List bU)(D:gz (EL a) g l)(ok:T->Bool)(enc:T->Bs)(p:Bs->Option (T×Int×Int))(F:Nat->Nat->List T->Option (γ⊕H))(fin:List T->H)(x:Int->Int->γ)
 (O:∀t∈g,OW (p (am t)) (PS ok enc (am t)))
 (good:∀n i e t b v,l[i]?=some e->EL a t e->g[i]?=some t->b.length=i->p (am t)=some (v,0,0)->F (n+1) i b=F n (i+1) (b++[v]))
 (bad:∀n i e t b v c o,l[i]?=some e->EL a t e->g[i]?=some t->b.length=i->p (am t)=some (v,c,o)->c≠0->F (n+1) i b=some (.inl (x c (aq .i64 e.2.2.2.1 o))))
 (u:∀n b,b.length=l.length->F (n+1) l.length b=some (.inr (fin b)))(N:Nat)(I:l.length<N)(W:a.length<10000000):
 (∃h,F N 0 []=some (.inr (fin h))/\h.all ok=true/\(h.map enc)=g.map am)∨(∃c o,F N 0 []=some (.inl (x c o))/\c≠0/\0<=o/\o<=(a.length:Int)):=by
 have B:∀(k n i:Nat)(b:List T),l.length-i=k->k<n->i<=l.length->b.all ok=true->b.map enc=(g.take i).map am->
  (∃h,F n i b=some (.inr (fin h))/\h.all ok=true/\(h.map enc)=g.map am)∨(∃c o,F n i b=some (.inl (x c o))/\c≠0/\0<=o/\o<=(a.length:Int)):=by
  have E:=D.length;intro k;induction k with
  |zero=>
   intro n i b L M K y j;obtain⟨n,rfl⟩:∃m,n=m+1:=⟨n-1,by omega⟩;obtain rfl:i=l.length:=by omega
   have z:=aii List.length j;simp only[aiq,aid]at z;exact .inl ⟨b,u n b (by omega),y,by rw[j,aib (by omega)]⟩
  |succ k P=>
   intro n i b L M K y j;obtain⟨n,rfl⟩:∃m,n=m+1:=⟨n-1,by omega⟩;have f:i<l.length:=by omega
   have z:=aii List.length j;simp only[aiq,aid]at z;have d:b.length=i:=by omega
   obtain⟨t,w,A⟩:=D.get (ahG f);obtain⟨⟨v,c,o⟩,G,J⟩:=O t (aif w);rcases J with⟨q1,s,q3⟩|⟨q1,s,q3⟩
   ·cases q1;rw[good n i _ t b v (ahG f) A w d G];refine P n (i+1) _ (by omega) (by omega) (by omega) (by simp[y,s]) ?_;rw[aiN,j,aiM,w,aiN];simp[q3]
   ·rw[bad n i _ t b v c o (ahG f) A w d G q1];obtain⟨p,q,r,C,Q,R,S,U,V,b7⟩:=A.bd;refine .inr ⟨_,_,rfl,q1,?_,?_⟩
    ·rw[C,gb (by dsimp only at s q3;omega)];dsimp only at s;omega
    ·rw[C,gb (by dsimp only at s q3;omega)];dsimp only at q3;omega
 exact B l.length N 0 [] (by omega) I (by omega) rfl (by simp)
def T4{T γ w:Type}(a:Bs)(g:List TLV)(l:List bU)(q:gz (EL a) g l)(enc:T->Bs)(p:Bs->Option (T×Int×Int))(F:Nat->Nat->List T->Option (γ⊕w))(fin:List T->w)(vs:List T)(u:vs.map enc=g.map am)
 (D:∀v∈vs,p (enc v)=some (v,0,0))
 (good:∀n i e t b v,l[i]?=some e->EL a t e->g[i]?=some t->b.length=i->p (am t)=some (v,0,0)->F (n+1) i b=F n (i+1) (b++[v]))
 (f:∀n b,b.length=l.length->F (n+1) l.length b=some (.inr (fin b)))(N:Nat)(y:l.length<N):F N 0 []=some (.inr (fin vs)):=by
 have r:=q.length;have E:vs.length=g.length:=by have:=aii List.length u;simpa using this
 have h:∀(k n i:Nat),l.length-i=k->k<n->i<=l.length->F n i (vs.take i)=some (.inr (fin vs)):=by
  intro k;induction k with
  |zero=>
   intro n i B C A;obtain⟨n,rfl⟩:∃m,n=m+1:=⟨n-1,by omega⟩;obtain rfl:i=l.length:=by omega
   rw[f n _ (by simp;omega),aib (by omega)]
  |succ k G=>
   intro n i B C A;obtain⟨n,rfl⟩:∃m,n=m+1:=⟨n-1,by omega⟩;have d:i<l.length:=by omega
   have c:i<vs.length:=by omega
   obtain⟨t,s,x⟩:=q.get (ahG d);have z:enc vs[i]=am t:=by
    have j:(vs.map enc)[i]?=(g.map am)[i]? :=by rw[u]
    rw[aiJ,aiJ,s,ahG c]at j;exact aiI j
   rw[good n i _ t _ vs[i] (ahG d) x s (by simp;omega) (by rw[<-z];exact D _ (ais c))];have o:=G n (i+1) (by omega) (by omega) (by omega);rw[aiM,ahG c]at o;exact o
 exact h l.length N 0 (by omega) y (by omega)
def aeW{T γ O:Type}(d:Nat->Bool)(a:Bs)(s:List TLV)(l:List bU)(L:gz (EL a) s l)(ok:T->Bool)(enc:T->Bs)(p:Bs->Option (T×Int×Int))(F:Nat->Nat->List T->Option (γ⊕O))(fin:List T->O)(D:Int->Int->γ)
 (hp:∀t∈s,OW (p (am t)) (PS ok enc (am t)))
 (good:∀n i e t b v,l[i]?=some e->EL a t e->s[i]?=some t->b.length=i->p (am t)=some (v,0,0)->d i=true->F (n+1) i b=F n (i+1) (b++[v]))
 (x:∀n i e t b v,l[i]?=some e->EL a t e->s[i]?=some t->b.length=i->p (am t)=some (v,0,0)->d i=false->F (n+1) i b=some (.inl (D 7 e.2.2.2.1)))
 (bad:∀n i e t b v c o,l[i]?=some e->EL a t e->s[i]?=some t->b.length=i->p (am t)=some (v,c,o)->c≠0->F (n+1) i b=some (.inl (D c (aq .i64 e.2.2.2.1 o))))
 (C:∀n b,b.length=l.length->F (n+1) l.length b=some (.inr (fin b)))(N:Nat)(V:l.length<N)(ha:a.length<10000000):
 (∃w,F N 0 []=some (.inr (fin w))/\w.all ok=true/\(w.map enc)=s.map am/\∀j<l.length,d j=true)∨(∃c o,F N 0 []=some (.inl (D c o))/\c≠0/\0<=o/\o<=(a.length:Int)):=by
 have K:∀(k n i:Nat)(b:List T),l.length-i=k->k<n->i<=l.length->b.all ok=true->b.map enc=(s.take i).map am->(∀j<i,d j=true)->
  (∃w,F n i b=some (.inr (fin w))/\w.all ok=true/\(w.map enc)=s.map am/\∀j<l.length,d j=true)∨(∃c o,F n i b=some (.inl (D c o))/\c≠0/\0<=o/\o<=(a.length:Int)):=by
  have M:=L.length;intro k;induction k with
  |zero=>
   intro n i b Y Z X G y u;obtain⟨n,rfl⟩:∃m,n=m+1:=⟨n-1,by omega⟩;obtain rfl:i=l.length:=by omega
   have H:=aii List.length y;simp only[aiq,aid]at H;exact .inl ⟨b,C n b (by omega),G,by rw[y,aib (by omega)],u⟩
  |succ k ih=>
   intro n i b Y Z X G y u;obtain⟨n,rfl⟩:∃m,n=m+1:=⟨n-1,by omega⟩;have g:i<l.length:=by omega
   have H:=aii List.length y;simp only[aiq,aid]at H;have f:b.length=i:=by omega
   obtain⟨t,A,z⟩:=L.get (ahG g);obtain⟨⟨v,c,o⟩,J,W⟩:=hp t (aif A);rcases W with⟨q1,B,q3⟩|⟨q1,B,q3⟩
   ·cases q1;cases I:d i
    ·rw[x n i _ t b v (ahG g) z A f J I];obtain⟨p,q,r,E,P,Q,R,S,U,b7⟩:=z.bd;exact .inr ⟨_,_,rfl,by decide,by omega,by omega⟩
    rw[good n i _ t b v (ahG g) z A f J I];refine ih n (i+1) _ (by omega) (by omega) (by omega) (by simp[G,B]) ?_ ?_
    ·rw[aiN,y,aiM,A,aiN];simp[q3]
    ·intro j hj;rcases ahW j i with h|h
     ·exact u j h
     ·rw[show j=i from by omega];exact I
   ·rw[bad n i _ t b v c o (ahG g) z A f J q1];obtain⟨p,q,r,E,P,Q,R,S,U,b7⟩:=z.bd;refine .inr ⟨_,_,rfl,q1,?_,?_⟩
    ·rw[E,gb (by dsimp only at B q3;omega)];dsimp only at B;omega
    ·rw[E,gb (by dsimp only at B q3;omega)];dsimp only at q3;omega
 exact K l.length N 0 [] (by omega) V (by omega) rfl (by simp) (by omega)
def aar{T γ y:Type}(d:Nat->Bool)(j:∀i,d i=true)(a:Bs)(h:List TLV)(l:List bU)(s:gz (EL a) h l)(enc:T->Bs)(p:Bs->Option (T×Int×Int))(F:Nat->Nat->List T->Option (γ⊕y))(fin:List T->y)(vs:List T)(x:vs.map enc=h.map am)
 (G:∀v∈vs,p (enc v)=some (v,0,0))
 (good:∀n i e t b v,l[i]?=some e->EL a t e->h[i]?=some t->b.length=i->p (am t)=some (v,0,0)->d i=true->F (n+1) i b=F n (i+1) (b++[v]))
 (g:∀n b,b.length=l.length->F (n+1) l.length b=some (.inr (fin b)))(N:Nat)(A:l.length<N):F N 0 []=some (.inr (fin vs)):=by
 have u:=s.length;have H:vs.length=h.length:=by have:=aii List.length x;simpa using this
 have o:∀(k n i:Nat),l.length-i=k->k<n->i<=l.length->F n i (vs.take i)=some (.inr (fin vs)):=by
  intro k;induction k with
  |zero=>
   intro n i D E C;obtain⟨n,rfl⟩:∃m,n=m+1:=⟨n-1,by omega⟩;obtain rfl:i=l.length:=by omega
   rw[g n _ (by simp;omega),aib (by omega)]
  |succ k I=>
   intro n i D E C;obtain⟨n,rfl⟩:∃m,n=m+1:=⟨n-1,by omega⟩;have f:i<l.length:=by omega
   have c:i<vs.length:=by omega
   obtain⟨t,w,z⟩:=s.get (ahG f);have B:enc vs[i]=am t:=by
    have q:(vs.map enc)[i]?=(h.map am)[i]? :=by rw[x]
    rw[aiJ,aiJ,w,ahG c]at q;exact aiI q
   rw[good n i _ t _ vs[i] (ahG f) z w (by simp;omega) (by rw[<-B];exact G _ (ais c)) (j i)];have r:=I n (i+1) (by omega) (by omega) (by omega);rw[aiM,ahG c]at r;exact r
 exact o l.length N 0 (by omega) A (by omega)
def vQ{T:Type}(enc:T->Bs):∀(vs:List T)(v:T),v∈vs->(enc v).length<=((vs.map enc).flatten).length
 |[],_,h=>by simp at h
 |a::r,v,h=>by
  simp only[ahU,List.flatten_cons,ahJ];rcases ah8.1 h with rfl|h
  ·omega
  ·have:=vQ enc r v h;omega
end Go.Fw
namespace Go.Fw
open Go
def E9:Bs->Bs->Int
 |[],[]=>0
 |[],_::_=> -1
 |_::_,[]=>1
 |x::a,y::b=>if x.toNat<y.toNat then-1 else if y.toNat<x.toNat then 1 else E9 a b
def aas(x y:UInt8):cy (x.toNat:Int) (y.toNat:Int)=some (if x.toNat<y.toNat then-1 else if y.toNat<x.toNat then 1 else 0):=by
 unfold cy cR dN syv;have h:∀n:Int,(n !=n)=false:=λn=>by simp
 simp only[h,ahE,ahM];by_cases a:x.toNat<y.toNat
 ·rw[ahK (by omega:(x.toNat:Int)<(y.toNat:Int)),ahY a];rfl
 ·rw[ahH (by omega:¬(x.toNat:Int)<(y.toNat:Int)),ain a];by_cases b:y.toNat<x.toNat
  ·rw[ahK (by omega:(x.toNat:Int)>(y.toNat:Int)),ahY b];rfl
  ·rw[ahH (by omega:¬(x.toNat:Int)>(y.toNat:Int)),ain b];rfl
def ahs:Int⊕(Bs×Bs)->Int
 |.inl i=>i
 |.inr (a,b)=>if a.length<b.length then-1 else 0
def aat(N:Nat)(a b:Bs)(p:a.length<100000000):∀(k n i:Nat),a.length-i=k->k<n->i<=a.length->i<=b.length->∃y,au N n (a,b,a,(a.length:Int),(i:Int))=some y/\ahs y=E9 (a.drop i) (b.drop i):=by
 intro k;induction k with
 |zero=>
  intro n i j l g f;obtain⟨n,rfl⟩:∃m,n=m+1:=⟨n-1,by omega⟩;refine⟨.inr (a,b),?_,?_⟩
  ·show(bif decide ((i:Int)<(a.length:Int)) then _ else _)=_;rw[ahH (by omega)];rfl
  ·rw[ail (show a.length<=i by omega)];show(if a.length<b.length then(-1:Int) else 0)=_;by_cases h:a.length<b.length
   ·rw[ahY h,ah9 (show i<b.length by omega)];rfl
   ·rw[ain h,ail (show b.length<=i by omega)];rfl
 |succ k o=>
  intro n i j l g f;obtain⟨n,rfl⟩:∃m,n=m+1:=⟨n-1,by omega⟩;have c:i<a.length:=by omega
  rw[ah9 c];show ∃y,(bif decide ((i:Int)<(a.length:Int)) then _ else _)=some y/\_;rw[ahK (by omega),ahS,cr (ahG c),ahE];by_cases h:i<b.length
  ·rw[ahH (by omega:¬(i:Int)>=(b.length:Int)),ahM,cr (ahG h),ahE,aas,ahE,ah9 h];unfold E9;by_cases d:a[i].toNat<b[i].toNat
   ·rw[ahY d,ahY d];exact⟨_,rfl,rfl⟩
   ·rw[ain d,ain d];by_cases e:b[i].toNat<a[i].toNat
    ·rw[ahY e,ahY e];exact⟨_,rfl,rfl⟩
    ·rw[ain e,ain e,cC (by omega)];exact o n (i+1) (by omega) (by omega) (by omega) (by omega)
  ·rw[ahK (by omega:(i:Int)>=(b.length:Int)),ahS,ail (show b.length<=i by omega)];exact⟨_,rfl,rfl⟩
def acS{N:Nat}(e:FN N)(a b:Bs)(f:a.length<100000000):du N a b=some (E9 a b):=by
 unfold FN at e;obtain⟨y,d,c⟩:=aat N a b f a.length N 0 (by omega) (by omega) (by omega) (by omega);rw[aiv,aiv]at c;unfold du az syv;rw[show au N N (a,b,a,(a.length:Int),0)=some y from d,ahE,<-c];rcases y with i|⟨x,z⟩
 ·rfl
 ·show Option.bind (bif decide ((x.length:Int)<(z.length:Int)) then _ else _) _=some (if x.length<z.length then(-1:Int) else 0);by_cases h:x.length<z.length
  ·rw[ahK (by omega:(x.length:Int)<(z.length:Int)),ahY h];rfl
  ·rw[ahH (by omega:¬(x.length:Int)<(z.length:Int)),ain h];rfl
def oM:List Bs->Bool
 |[]=>true
 |a::r=>match r with
  |[]=>true
  |b::_=>decide (E9 a b<0)&&oM r
def HF(a b:Bs)(r:List Bs):oM (a::b::r)=(decide (E9 a b<0)&&oM (b::r)):=rfl
def OL:∀(l:List Bs)(i:Nat),oM l=true->oM (l.take i)=true
 |_,0,_=>by simp[oM]
 |[],_+1,_=>rfl
 |[a],i+1,_=>by simp[oM]
 |a::b::r,1,_=>rfl
 |a::b::r,i+2,h=>by
  rw[HF,ahF]at h;have:=OL (b::r) (i+1) h.2;simp only[ajy]at this⊢;rw[HF,h.1,this];rfl
def aau(N:Nat)(e:FN N)(l:List Bs)(q:l.length<100000000)(o:∀x∈l,x.length<100000000):∀(k n i:Nat),l.length-i=k->k<n->1<=i->i<=l.length->bu N n (l,(l.length:Int),(i:Int))=some (bif oM (l.drop (i-1)) then .inr () else .inl false):=by
 intro k;induction k with
 |zero=>
  intro n i g j f d;obtain⟨n,rfl⟩:∃m,n=m+1:=⟨n-1,by omega⟩;show(bif decide ((i:Int)<(l.length:Int)) then _ else _)=_;rw[ahH (by omega),ahM,ah9 (show i-1<l.length by omega),ail (show l.length<=i-1+1 by omega)];rfl
 |succ k p=>
  intro n i g j f d;obtain⟨n,rfl⟩:∃m,n=m+1:=⟨n-1,by omega⟩;have b:i<l.length:=by omega
  have a:i-1<l.length:=by omega
  show(bif decide ((i:Int)<(l.length:Int)) then _ else _)=_;rw[ahK (by omega),ahS,ahK (by omega:(i:Int)>0),ahS,UX (by omega) (by omega),cr (ahG a),ahE,cr (ahG b),ahE,acS e _ _ (o _ (ais a)),ahE,cC (by omega),ah9 a,ah9 (show i-1+1<l.length by omega),HF];have c:l[i-1+1]'(by omega)=l[i]:=by congr 1;omega
  rw[c];by_cases h:E9 l[i-1] l[i]<0
  ·rw[ahH (by omega:¬E9 l[i-1] l[i]>=0),ahK h,ahM,akk];refine(p n (i+1) (by omega) (by omega) (by omega) (by omega)).trans ?_;rw[Nat.add_sub_cancel,ah9 b,show i-1+1+1=i+1 from by omega]
  ·rw[ahK (by omega:E9 l[i-1] l[i]>=0),ahH h];rfl
def NL{N:Nat}(b:FN N)(l:List Bs)(e:l.length<100000000)(g:∀x∈l,x.length<100000000):cM N l=some (oM l):=by
 have a:=b;unfold FN at a;unfold cM syv;cases l with
 |nil=>
  obtain⟨n,rfl⟩:∃m,N=m+1:=⟨N-1,by omega⟩;rfl
 |cons x r=>
  have c:bu N N (x::r,((x::r).length:Int),0)=some (bif oM (x::r) then .inr () else .inl false):=by
   obtain⟨n,f⟩:∃m,N=m+1:=⟨N-1,by omega⟩;have d:=aau N b (x::r) e g ((x::r).length-1) n 1 rfl (by omega) (by omega) (by simp);rw[show bu N N=bu N (n+1) from by rw[<-f]];show(bif decide ((0:Int)<((x::r).length:Int)) then _ else _)=_;rw[ahK (by simp only[ahL];omega),ahS];exact d
  rw[c,ahE];cases oM (x::r)<;>rfl
end Go.Fw
namespace Go.Fw
open Go
abbrev Rdn:=List (Bs×Bs)
noncomputable def rF(v:Bs×Bs):TLV:=(0,true,16,am (fZ v.1)++v.2)
def NM(v:Bs×Bs):fK v=am (rF v):=rfl
noncomputable def mP(N:Nat)(r:Rdn):Bool:= !r.isEmpty&&(r.all (ky N)&&oM (r.map fK))
noncomputable def kg(r:Rdn):Bs:=tlv 0 true 17 ((r.map fK).flatten)
noncomputable def oU(N:Nat)(n:List Rdn):Bool:=n.all (mP N)
noncomputable def rG(n:List Rdn):Bs:=tlv 0 true 16 ((n.map kg).flatten)
def wA(v:Bs×Bs):Nat:=v.1.length+v.2.length+20
def wR(r:Rdn):Nat:=(r.map wA).sum+20
def wN(n:List Rdn):Nat:=(n.map wR).sum+20
def XH(v:Bs×Bs)(h:wA v<100000000):(fK v).length<=6*wA v:=by
 unfold wA at h⊢;have e:=sd v.1;have a:=gr (c:=0) (num:=6) (k:=false) (b:=jx v.1) (by omega);have f:(am (fZ v.1)).length<=(jx v.1).length+6:=a;have d:=gr (c:=0) (num:=16) (k:=true) (b:=am (fZ v.1)++v.2) (by rw[ahJ];omega);rw[ahJ]at d;show(tlv 0 true 16 (am (fZ v.1)++v.2)).length<=_;omega
def ou{T:Type}(w:T->Nat):∀(r:List T)(v:T),v∈r->w v<=(r.map w).sum
 |[],_,h=>by simp at h
 |a::r,v,h=>by
  simp only[ahU,ai6];rcases ah8.1 h with rfl|h
  ·omega
  ·have:=ou w r v h;omega
def IC{T:Type}(w:T->Nat)(e:T->Bs)(c:Nat):∀(r:List T),(∀v∈r,(e v).length<=c*w v)->((r.map e).flatten).length<=c*(r.map w).sum
 |[],_=>by simp
 |a::r,h=>by
  have d:=h a (by simp);have f:=IC w e c r λv b=>h v (by simp[b]);simp only[ahU,List.flatten_cons,ahJ,ai6,Nat.mul_add];omega
def yQ{T:Type}(w:T->Nat)(c:Nat)(b:∀v,c<=w v):∀(r:List T),c*r.length<=(r.map w).sum
 |[]=>by simp
 |a::r=>by
  have d:=b a;have e:=yQ w c b r;simp only[ahU,ai6,ahL,Nat.mul_add];omega
def OM(r:Rdn)(h:wR r<50000000):((r.map fK).flatten).length+120<=6*wR r:=by
 unfold wR at h⊢;have:=IC wA fK 6 r λv a=>XH v (by have:=ou wA r v a;omega);omega
def aav(r:Rdn)(h:wR r<50000000):(kg r).length<=6*wR r:=by
 have a:=OM r h;have d:=gr (c:=0) (num:=17) (k:=true) (b:=(r.map fK).flatten) (by omega);show(tlv 0 true 17 _).length<=_;omega
def XI{α:Type}(l:List α):(!l.isEmpty)= !((l.length:Int)==0):=by
 rw[Sx];cases l<;>simp
def aaw{N:Nat}(e:FN N)(r:Rdn)(h:wR r<10000000)(k:Int)(c:Bool):bc N N (r,(r.length:Int),0,k,c,[])=if r.all (ky N)=true then some (.inr (k,c,r.map fK)) else some (.inl 8):=by
 have b:=e;unfold FN at b;have l:=yQ wA 20 (λv=>by unfold wA;omega) r;unfold wR at h;refine VT r (ky N) fK (λn i a=>bc N n (r,(r.length:Int),(i:Int),k,c,a)) (λp=>(k,c,p)) 8 (λn i x a d f=> ?_) (λn a f=> ?_) N (by omega)
 ·have g:=ah d;have m:=ou wA r x (aif d);have j:wA x=x.1.length+x.2.length+20:=rfl;show(bif decide ((i:Int)<(r.length:Int)) then(bL N (i:Int) r).bind _ else _)=_;rw[ahK (by omega),ahS];unfold bL syv;rw[cr d,ahE,aeV e x (by omega) (by omega)];cases ky N x
  ·rfl
  ·simp only[ahS,ahE,aiG];rw[show((0:Int) !=0)=false from rfl,ahM,fY (by omega) (by simp only[ahL,ah1];omega),ahE,cC (by omega)];rfl
 ·show(bif decide ((r.length:Int)<(r.length:Int)) then _ else _)=_;rw[ahH (by omega)];rfl
def abB{N:Nat}(a:FN N)(r:Rdn)(h:wR r<10000000):dR N r=some (bif mP N r then(kg r,0) else([],8)):=by
 have b:=a;unfold FN at b;have c:=OM r (by omega);have j:=yQ wA 20 (λv=>by unfold wA;omega) r;unfold dR mP syv;rw[XI];cases g:((r.length:Int)==0)
 ·rw[ahM];unfold bQ syv;rw[aaw a r h];cases i:r.all (ky N)
  ·simp
  ·rw[ahY rfl,ahE];dsimp only;unfold wR at h c;rw[ahS,NL a _ (by simp;omega) (λx f=>by
    obtain⟨v,d,rfl⟩:=aiz.1 f;have:=vQ fK r v d;omega),ahE]
   cases hO:oM (r.map fK)
   ·rfl
   ·have e:=H4 a 0 17 (by omega) (by omega) true (r.map fK) (by simp;omega) (by omega);rw[aiK,ahM,show aI N 0 true 17 (r.map fK)=_ from e];rfl
 ·rfl
def VU(n:List Rdn)(h:wN n<50000000):((n.map kg).flatten).length+120<=6*wN n:=by
 unfold wN at h⊢;have:=IC wR kg 6 n λv a=>aav v (by have:=ou wR n v a;omega);omega
def R5{N:Nat}(b:FN N)(l:List Rdn)(h:wN l<10000000):fM N l=some (bif oU N l then(rG l,0) else([],8)):=by
 have c:=b;unfold FN at c;have g:=VU l (by omega);have o:=yQ wR 20 (λv=>by unfold wR;omega) l;unfold wN at h g;have k:=VT l (mP N) kg (λn i a=>bq N n (l,(l.length:Int),(i:Int),16,false,a)) (λp=>((16:Int),false,p)) 8 (λn i x a d f=>by
  have j:=ah d;have e:=ou wR l x (aif d);show(bif decide ((i:Int)<(l.length:Int)) then(cN N (i:Int) l).bind _ else _)=_;rw[ahK (by omega),ahS];unfold cN syv;rw[cr d,ahE,abB b x (by omega)];cases mP N x
  ·rfl
  ·simp only[ahS,ahE,aiG];rw[show((0:Int) !=0)=false from rfl,ahM,fY (by omega) (by simp only[ahL,ah1];omega),ahE,cC (by omega)];rfl) (λn a f=>by
  show(bif decide ((l.length:Int)<(l.length:Int)) then _ else _)=_;rw[ahH (by omega)];rfl) N (by omega)
 unfold fM cb oU syv;rw[show bq N N (l,(l.length:Int),0,16,false,[])=_ from k];cases m:l.all (mP N)
 ·simp
 ·rw[ahY rfl,ahE];dsimp only;have e:=H4 b 0 16 (by omega) (by omega) true (l.map kg) (by simp;omega) (by omega);rw[ahM,show aI N 0 true 16 (l.map kg)=_ from e];rfl
def VV{N:Nat}(a:FN N)(l:List Rdn)(h:wN l<10000000):iw N l=some (oU N l):=by
 unfold iw syv;rw[R5 a l h];cases oU N l<;>rfl
def XJ{N:Nat}(a:FN N)(l:Rdn)(h:wR l<10000000):jm N l=some (mP N l):=by
 unfold jm syv;rw[abB a l h];cases mP N l<;>rfl
end Go.Fw
def ak7:=@List.mem_of_mem_take
namespace Go.Fw
open Go
noncomputable def HH(r:Rdn):TLV:=(0,true,17,(r.map fK).flatten)
def XK(r:Rdn):kg r=am (HH r):=rfl
noncomputable def ID(r:List Rdn):TLV:=(0,true,16,(r.map kg).flatten)
def IE{T:Type}(enc:T->Bs)(tl:T->TLV)(h:∀v,enc v=am (tl v))(vs:List T):vs.map enc=(vs.map tl).map am:=by
 rw[List.map_map];exact List.map_congr_left λv _=>h v
def lu(t:TLV):t.2.2.2.length<(am t).length:=by have:=vP t;omega
def kO:∀(b:List TLV)(t:TLV),t∈b->(am t).length<=(aA b).length
 |[],_,h=>by simp at h
 |a::r,t,h=>by
  rw[iq,ahJ];rcases ah8.1 h with rfl|h
  ·omega
  ·have:=kO r t h;omega
def Fa{N:Nat}(k:FN N)(a:Bs)(y:a.length<9000000)(b:List TLV)(l:List bU)(m:gz (EL a) b l)(z:(aA b).length<9000000)(n i:Nat)(e:bU)(t:TLV)(acc:Rdn)(v:Bs×Bs)(c o:Int)(d:l[i]?=some e)(j:EL a t e)(g:acc.length=i)(w:cA N (am t)=some (v,c,o))(r:b[i]?=some t):
 bw N (n+1) (a,l,(l.length:Int),(i:Int),0,0,acc,(b.take i).map am)=bif c !=0 then some (.inl (c,aq .i64 e.2.2.2.1 o)) else bif oM ((b.take (i+1)).map am) then bw N n (a,l,(l.length:Int),((i+1:Nat):Int),0,0,acc++[v],(b.take (i+1)).map am) else some (.inl (7,e.2.2.2.1)):=by
 have q:=ah d;have h:=m.length;have p:=iV b;have f:(b.take i).map am++[am t]=(b.take (i+1)).map am:=by rw[aiM,r,aiN];rfl
 show(bif decide ((i:Int)<(l.length:Int)) then _ else _)=_;rw[ahK (by omega),ahS,cr d,ahE,j.whole,ahE,fY (by omega) (by simp;omega),ahE,ahE,w,ahE,f];dsimp only;rw[NL k _ (by simp;omega) (λx d=>by
  obtain⟨u,s,rfl⟩:=aiz.1 d;have:=kO b u (ak7 s);omega),ahE,fY (by omega) (by simp only[ahL,ah1];omega),ahE,cC (by omega)]
 cases oM ((b.take (i+1)).map am)<;>rfl
def XL{N:Nat}(k:FN N)(a:Bs)(y:a.length<9000000):OW (dq N a) (PS (mP N) kg a):=by
 have x:=k;unfold FN at x;unfold dq syv;refine ai (sT k a (by omega) 0 17) ?_;rintro⟨l,e,o⟩ (⟨L,d,w,_,_,I,j⟩|⟨w,G,H⟩)
 ·cases L;dsimp only at j⊢;rw[show((0:Int) !=0)=false from rfl,ahM,Sx];have P:(aA d).length<a.length:=by rw[I];exact gS
  have M:=iV d;have q:=j.length;by_cases g:l=[]
  ·rw[ahK g];exact aa (qk (by decide) (by omega) (by omega))
  ·rw[ahH g,ahM];have E:=aeW (λi=>oM ((d.take (i+1)).map am)) a d l j (ky N) fK (cA N) (λn i b=>bw N n (a,l,(l.length:Int),(i:Int),0,0,b,(d.take i).map am)) (λv=>((0:Int),(0:Int),v)) (λc o=>(c,o))
    (λt h=>acQ k _ (by have:=kO d t h;omega))
    (λn i e t b v s m h f r p=>by
      show bw N (n+1) _=_;rw[Fa k a y d l j (by omega) n i e t b v 0 0 s m f r h,p];rfl)
    (λn i e t b v s m h f r p=>by
      show bw N (n+1) _=_;rw[Fa k a y d l j (by omega) n i e t b v 0 0 s m f r h,p];rfl)
    (λn i e t b v c o s m h f r p=>by
      show bw N (n+1) _=_;rw[Fa k a y d l j (by omega) n i e t b v c o s m f r h,show(c !=0)=true from by simpa using p];rfl)
    (λn b J=>by
      show(bif decide ((l.length:Int)<(l.length:Int)) then _ else _)=_;rw[ahH (by omega)];rfl) N (by omega) (by omega)
   have O:bw N N (a,l,(l.length:Int),0,0,0,[],[])=bw N N (a,l,(l.length:Int),((0:Nat):Int),0,0,[],(d.take 0).map am):=rfl;rw[O];rcases E with⟨F,B,C,u,D⟩|⟨c,o,B,C,u,D⟩
   ·rw[B,ahE];have z:d≠[]:=λe=>by subst e;exact g (aip (by simpa using q.symm))
    have A:F≠[]:=λe=>by
     subst e;have:=aii List.length u;simp at this;exact z (aip this.symm)
    have hO:oM (F.map fK)=true:=by
     have K:0<l.length:=by cases l with|nil=>exact absurd rfl g|cons=>simp
     have:=D (l.length-1) (by omega);rw[show l.length-1+1=d.length from by omega,ajh]at this;rw[u,this]
    refine aa (Wg ?_ ?_)
    ·unfold mP;rw[C,hO];cases F with
     |nil=>exact absurd rfl A
     |cons=>rfl
    ·rw[I];unfold kg;rw[u];rfl
   ·rw[B,ahE];exact aa (qk C u D)
 ·dsimp only at w G H⊢;rw[show(e !=0)=true from by simpa using w];exact aa (qk w G H)
def R6{T:Type}(enc:T->Bs)(tl:T->TLV)(h:∀v,enc v=am (tl v))(vs:List T):(vs.map enc).flatten=aA (vs.map tl):=by
 rw[IE enc tl h];rfl
def aeX{N:Nat}(q:FN N)(r:Rdn)(h:mP N r=true)(a:Bs)(p:kg r=a)(G:a.length<9000000):dq N a=some (r,0,0):=by
 have u:=q;unfold FN at u;unfold mP at h;simp only[ahF]at h;obtain⟨D,E,F⟩:=h;have M:((r.map fK).flatten).length<a.length:=by rw[<-p];exact gS
 have j:=R6 fK rF NM r;have f:∀v∈r,(fK v).length<9000000:=λv g=>by have:=vQ fK r v g;omega
 have o:∀v∈r,ky N v=true:=ah7.1 E;obtain⟨l,C,s⟩:=m8 q (c:=0) (num:=17) (by omega) (by omega) a (r.map rF) (by rw[<-p,<-j];rfl) (λt y=>by
  obtain⟨v,g,rfl⟩:=aiz.1 y;have:=f v g;exact rx (by omega) (by omega) (by have:=gS (c:=0) (num:=16) (k:=true) (b:=am (fZ v.1)++v.2);have e:(tlv 0 true 16 (am (fZ v.1)++v.2)).length=(fK v).length:=rfl;omega)) (by omega) 0 17 rfl rfl
 have m:=s.length;have K:(aA (r.map rF)).length<9000000:=by rw[<-j];omega
 have I:=iV (r.map rF);unfold dq syv;rw[C,ahE];dsimp only;have x:l≠[]:=λe=>by
  subst e;have:r=[]:=aip (by simpa using m);subst this;cases D
 have B:=IE fK rF NM r;have z:=aar (λi=>oM (((r.map rF).take (i+1)).map am)) (λi=>by
  show oM (((r.map rF).take (i+1)).map am)=true;rw[List.map_take,<-B];exact OL _ _ F) a (r.map rF) l s fK (cA N) (λn i d=>bw N n (a,l,(l.length:Int),(i:Int),0,0,d,((r.map rF).take i).map am)) (γ:=Int×Int) (λv=>((0:Int),(0:Int),v)) r B
  (λv g=>acP q v (o v g) _ rfl (f v g))
  (λn i e t d v L p y w g H=>by
    show bw N (n+1) _=_;rw[Fa q a G _ l s K n i e t d v 0 0 L p w g y,H];rfl)
  (λn d A=>by
    show(bif decide ((l.length:Int)<(l.length:Int)) then _ else _)=_;rw[ahH (by omega)];rfl) N (by omega)
 have J:bw N N (a,l,(l.length:Int),0,0,0,[],[])=bw N N (a,l,(l.length:Int),((0:Nat):Int),0,0,[],((r.map rF).take 0).map am):=rfl;rw[show((0:Int) !=0)=false from rfl,ahM,Sx,ahH x,ahM,J,z];rfl
end Go.Fw
namespace Go.Fw
open Go
def acT{r:Rdn}(h:(kg r).length<9000000):okT (HH r):=by
 have a:((r.map fK).flatten).length<(kg r).length:=gS;exact rx (by omega) (by omega) (by omega)
def HI{N:Nat}(q:FN N)(a:Bs)(b:List TLV)(l:List bU)(j:gz (EL a) b l)(r:(aA b).length<9000000)(n i:Nat)(e:bU)(t:TLV)(acc:List Rdn)(v:Rdn)(c o:Int)(g:l[i]?=some e)(h:EL a t e)(d:acc.length=i)(p:dq N (am t)=some (v,c,o)):
 cS N (n+1) (a,l,(l.length:Int),(i:Int),0,0,acc)=bif c !=0 then some (.inl (c,aq .i64 e.2.2.2.1 o)) else cS N n (a,l,(l.length:Int),((i+1:Nat):Int),0,0,acc++[v]):=by
 have m:=ah g;have f:=j.length;have k:=iV b;show(bif decide ((i:Int)<(l.length:Int)) then _ else _)=_;rw[ahK (by omega),ahS,cr g,ahE,h.whole,ahE,p,ahE];dsimp only;rw[fY (by omega) (by simp only[ahL,ah1];omega),ahE,cC (by omega)];rfl
def acU{N:Nat}(h:FN N)(a:Bs)(H:a.length<9000000):OW (iz N a) (PS (oU N) rG a):=by
 have m:=h;unfold FN at m;unfold iz syv;refine ai (sT h a (by omega) 0 16) ?_;rintro⟨l,e,o⟩ (⟨D,f,j,_,_,A,g⟩|⟨j,y,z⟩)
 ·cases D;dsimp only at g⊢;rw[show((0:Int) !=0)=false from rfl,ahM];have I:(aA f).length<a.length:=by rw[A];exact gS
  have F:=iV f;have C:=g.length;have x:=af7 a f l g (mP N) kg (dq N) (λn i b=>cS N n (a,l,(l.length:Int),(i:Int),0,0,b)) (λv=>((0:Int),(0:Int),v)) (λc o=>(c,o))
   (λt p=>XL h _ (by have:=kO f t p;omega))
   (λn i e t b v r k p d q=>by
     show cS N (n+1) _=_;rw[HI h a f l g (by omega) n i e t b v 0 0 r k d q];rfl)
   (λn i e t b v c o r k p d q E=>by
     show cS N (n+1) _=_;rw[HI h a f l g (by omega) n i e t b v c o r k d q,show(c !=0)=true from by simpa using E];rfl)
   (λn b B=>by
     show(bif decide ((l.length:Int)<(l.length:Int)) then _ else _)=_;rw[ahH (by omega)];rfl) N (by omega) (by omega)
  rw[show cS N N (a,l,(l.length:Int),0,0,0,[])=cS N N (a,l,(l.length:Int),((0:Nat):Int),0,0,[]) from rfl];rcases x with⟨J,s,u,w⟩|⟨c,o,s,u,w,G⟩
  ·rw[s,ahE];refine aa (Wg u ?_);rw[A];unfold rG;rw[w];rfl
  ·rw[s,ahE];exact aa (qk u w G)
 ·dsimp only at j y z⊢;rw[show(e !=0)=true from by simpa using j];exact aa (qk j y z)
def acV{N:Nat}(m:FN N)(r:List Rdn)(h:oU N r=true)(a:Bs)(k:rG r=a)(D:a.length<9000000):iz N a=some (r,0,0):=by
 have p:=m;unfold FN at p;have E:((r.map kg).flatten).length<a.length:=by rw[<-k];exact gS
 have g:=R6 kg HH XK r;have d:∀v∈r,(kg v).length<9000000:=λv f=>by have:=vQ kg r v f;omega
 have j:∀v∈r,mP N v=true:=ah7.1 h;obtain⟨l,y,o⟩:=m8 m (c:=0) (num:=16) (by omega) (by omega) a (r.map HH) (by rw[<-k,<-g];rfl) (λt x=>by
  obtain⟨v,f,rfl⟩:=aiz.1 x;exact acT (d v f)) (by omega) 0 16 rfl rfl
 have w:=o.length;have B:(aA (r.map HH)).length<9000000:=by rw[<-g];omega
 have z:=iV (r.map HH);unfold iz syv;rw[y,ahE];dsimp only;have A:=IE kg HH XK r;have s:=T4 a (r.map HH) l o kg (dq N) (λn i b=>cS N n (a,l,(l.length:Int),(i:Int),0,0,b)) (γ:=Int×Int) (λv=>((0:Int),(0:Int),v)) r A
  (λv f=>aeX m v (j v f) _ rfl (d v f))
  (λn i e t b v C k x q f=>by
    show cS N (n+1) _=_;rw[HI m a _ l o B n i e t b v 0 0 C k q f];rfl)
  (λn b u=>by
    show(bif decide ((l.length:Int)<(l.length:Int)) then _ else _)=_;rw[ahH (by omega)];rfl) N (by omega)
 rw[show((0:Int) !=0)=false from rfl,ahM,show cS N N (a,l,(l.length:Int),0,0,0,[])=cS N N (a,l,(l.length:Int),((0:Nat):Int),0,0,[]) from rfl,s];rfl
def XM{N:Nat}{r:Rdn}(h:mP N r=true):wR r<=32*(kg r).length:=by
 unfold mP at h;simp only[ahF]at h;have a:=ah7.1 h.2.1;have i:((r.map fK).flatten).length<(kg r).length:=gS;have b:∀(l:Rdn),(∀v∈l,ky N v=true)->(l.map wA).sum<=32*((l.map fK).flatten).length:=by
  intro l;induction l with
  |nil=>simp
  |cons v l g=>
   intro c;have j:=acR (c v (by simp));have d:=g λx f=>c x (by simp[f]);have e:=Ey (rF v);rw[<-NM]at e;simp only[ahU,ai6,List.flatten_cons,ahJ];unfold wA at d⊢;omega
 have:=b r a;unfold wR;omega
def acW{N:Nat}{n:List Rdn}(h:oU N n=true):wN n<=32*(rG n).length:=by
 have a:=ah7.1 h;have f:((n.map kg).flatten).length<(rG n).length:=gS;have b:∀(l:List Rdn),(∀v∈l,mP N v=true)->(l.map wR).sum<=32*((l.map kg).flatten).length:=by
  intro l;induction l with
  |nil=>simp
  |cons v l e=>
   intro c;have g:=XM (c v (by simp));have i:=e λx d=>c x (by simp[d]);simp only[ahU,ai6,List.flatten_cons,ahJ];omega
 have:=b n a;unfold wN;omega
end Go.Fw
namespace Go.Fw
open Go
abbrev eS:=Bs×Bool×Bs
def Bw:TLV:=(0,false,1,[255])
def oN(b:Bs):TLV:=(0,false,4,b)
noncomputable def lg(v:eS):List TLV:=fZ v.1::((bif v.2.1 then [Bw] else [])++[oN v.2.2])
noncomputable def wc(v:eS):Bool:=j5 v.1
noncomputable def HK(v:eS):TLV:=(0,true,16,aA (lg v))
noncomputable def lw(v:eS):Bs:=am (HK v)
def wE(v:eS):Nat:=v.1.length+v.2.2.length+40
def aax(b:Bs)(h:b.length<4000000000):(am (oN b)).length<=b.length+6:=gr (b:=b) (by omega)
def XN:(am Bw).length=3:=by decide
def HM(v:eS)(h:wE v<100000000):(aA (lg v)).length+200<=6*wE v:=by
 unfold wE at h⊢;have a:=sd v.1;have d:(am (fZ v.1)).length<=(jx v.1).length+6:=gr (c:=0) (num:=6) (k:=false) (b:=jx v.1) (by omega);have e:=aax v.2.2 (by omega);have f:=XN;unfold lg;cases v.2.1
 ·simp only[ahM,ait];rw[PU,ahJ];omega
 ·simp only[ahS,akn];rw[abQ,ahJ,ahJ];omega
def aay(v:eS)(h:wE v<100000000):(lw v).length<=6*wE v:=by
 have a:=HM v h;have d:(lw v).length<=(aA (lg v)).length+6:=gr (c:=0) (num:=16) (k:=true) (b:=aA (lg v)) (by unfold wE at a h;omega);omega
def qi{N:Nat}(g:FN N)(c num:Nat)(k:Bool)(b:Bs)(e f:Int)(a:e=(c:Int))(d:f=(num:Int))(i:c<4)(j:num<31)(l:b.length<2000000000):aI N e k f [b]=some (am (c,k,num,b),0):=by
 subst a d;have h:=H4 g c num i j k [b] (by simp) (by simp;omega);rw[h];simp[am]
def Bx{N:Nat}(a:FN N)(xs:List Bs)(b:Bs)(e:xs.flatten=b)(c:xs.length<10000000)(d:b.length<2000000000):aE N xs=some (am (0,true,16,b),0):=by
 subst e;exact MG a xs c (by omega)
def af8{N:Nat}(a:FN N)(v:eS)(h:wE v<10000000):li N v=some (bif wc v then(lw v,0) else([],8)):=by
 have e:=HM v (by omega);have d:=h;unfold wE at d e;have f:=sd v.1;unfold li wc syv;rw[Dy a _ (by omega)];cases hO:j5 v.1
 ·rfl
 ·rw[ahS,ahE];dsimp only;rw[show((0:Int) !=0)=false from rfl,ahM,qi a 0 6 false (jx v.1) 0 6 rfl rfl (by omega) (by omega) (by omega),ahE];dsimp only;rw[fY (by omega) (by simp),ahE];cases c:v.2.1
  ·have b:[am (fZ v.1),am (oN v.2.2)].flatten=aA (lg v):=by
    unfold lg;rw[c];simp[aA]
   rw[ahM,ahE];dsimp only;rw[qi a 0 4 false v.2.2 0 4 rfl rfl (by omega) (by omega) (by omega),ahE];dsimp only;rw[fY (by omega) (by simp),ahE,show(ju (ju 0 0) 0 !=0)=false from rfl,ahM];show Option.bind (aE N [am (fZ v.1),am (oN v.2.2)]) _=_;rw[Bx a _ _ b (by simp) (by omega)];rfl
  ·have b:[am (fZ v.1),am Bw,am (oN v.2.2)].flatten=aA (lg v):=by
    unfold lg;rw[c];simp[aA]
   rw[ahS,show lO true=some [255] from rfl,ahE,qi a 0 1 false [255] 0 1 rfl rfl (by omega) (by omega) (by simp),ahE];dsimp only;rw[fY (by omega) (by simp),ahE,ahE];dsimp only;rw[qi a 0 4 false v.2.2 0 4 rfl rfl (by omega) (by omega) (by omega),ahE];dsimp only;rw[fY (by omega) (by simp),ahE,show(ju (ju (ju 0 0) 0) 0 !=0)=false from rfl,ahM];show Option.bind (aE N [am (fZ v.1),am Bw,am (oN v.2.2)]) _=_;rw[Bx a _ _ b (by simp) (by omega)];rfl
def aeY:cP [255]=some (true,0):=rfl
def acX{v:eS}(h:(lw v).length<9000000):okT (HK v):=by
 have a:(aA (lg v)).length<(lw v).length:=gS;exact rx (by omega) (by omega) (by omega)
def aeZ{N:Nat}(o:FN N)(v:eS)(h:wc v=true)(a:Bs)(n:lw v=a)(C:a.length<9000000):kR N a=some (v,0,0):=by
 obtain⟨s,c,b⟩:=v;have hO:j5 s=true:=h;have D:(aA (lg (s,c,b))).length<a.length:=by rw[<-n];exact gS
 have y:=Dz s;have E:(am (fZ s)).length<=(aA (lg (s,c,b))).length:=kO _ _ (by simp[lg]);have z:(am (oN b)).length<=(aA (lg (s,c,b))).length:=kO _ _ (by simp[lg]);have e:=lu (oN b);have p:b.length<(am (oN b)).length:=e;have g:okT (fZ s):=rx (by omega) (by omega) (by omega);have f:okT (oN b):=rx (by omega) (by omega) (by omega);have q:okT Bw:=rx (by omega) (by omega) (by simp);have d:=NZ o hO (by omega);unfold kR syv;cases c
 ·obtain⟨l,k,m⟩:=m8 o (c:=0) (num:=16) (by omega) (by omega) a [fZ s,oN b] (by rw[<-n];rfl) (by simp[g,f]) (by omega) 0 16 rfl rfl;rw[k];rcases m with _|⟨i,_|⟨j,⟨⟩⟩⟩;have r:=i.yes 0 6 false 0 6 rfl rfl rfl rfl rfl;have t:=i.body;have u:=j.yes 0 4 false 0 4 rfl rfl rfl rfl rfl;have w:=j.body;simp[ix0,ix1,r,t,u,w,show(fZ s).2.2.2=jx s from rfl,show(oN b).2.2.2=b from rfl,d,m9 (show b.length<10000000 by omega),show aX .i64 2 1=1 from rfl]
 ·obtain⟨l,k,m⟩:=m8 o (c:=0) (num:=16) (by omega) (by omega) a [fZ s,Bw,oN b] (by rw[<-n];rfl) (by simp[g,f,q]) (by omega) 0 16 rfl rfl;rw[k];rcases m with _|⟨i,_|⟨j,_|⟨x,⟨⟩⟩⟩⟩;have r:=i.yes 0 6 false 0 6 rfl rfl rfl rfl rfl;have t:=i.body;have A:=j.yes 0 1 false 0 1 rfl rfl rfl rfl rfl;have B:=j.body;have u:=x.yes 0 4 false 0 4 rfl rfl rfl rfl rfl;have w:=x.body;simp[ix0,ix1,ix2,r,t,A,B,u,w,aeY,show(fZ s).2.2.2=jx s from rfl,show Bw.2.2.2=[255] from rfl,show(oN b).2.2.2=b from rfl,d,m9 (show b.length<10000000 by omega),show aX .i64 3 1=2 from rfl]
end Go.Fw
namespace Go.Fw
open Go
def wL(l:List eS):Nat:=(l.map wE).sum+20
noncomputable def Fb:List Bs->List eS->Bool
 |_,[]=>true
 |seen,x::r=> !Hn x.1 seen&&(j5 x.1&&Fb (BX x.1 seen) r)
noncomputable def lj(l:List eS):Bool:=Fb [] l&& !l.isEmpty
noncomputable def Fc(l:List eS):TLV:=(0,true,16,(l.map lw).flatten)
noncomputable def lh(l:List eS):Bs:=am (Fc l)
def KF:∀(l:List eS)(seen:List Bs),Fb seen l=true->∀x∈l,j5 x.1=true
 |[],_,_,x,b=>by simp at b
 |a::r,seen,h,x,b=>by
  unfold Fb at h;simp only[ahF]at h;rcases ah8.1 b with rfl|b
  ·exact h.2.1
  ·exact KF r _ h.2.2 x b
def ON{N:Nat}(a:FN N)(v:eS)(h:v.1.length<10000000):cO N v=some (j5 v.1):=by
 unfold cO syv;rw[BA a _ h];rfl
def XO{N:Nat}(b:FN N)(l:List eS)(h:l.length<10000000)(f:∀x∈l,x.1.length<10000000):∀(k n i:Nat)(seen:List Bs),l.length-i=k->k<n->i<=l.length->
 jc N n (l,l,(l.length:Int),(i:Int),seen)=some (bif Fb seen (l.drop i) then .inr l else .inl false):=by
 intro k;induction k with
 |zero=>
  intro n i seen d e c;obtain⟨n,rfl⟩:∃m,n=m+1:=⟨n-1,by omega⟩;show(bif decide ((i:Int)<(l.length:Int)) then _ else _)=_;rw[ahH (by omega),ahM,ail (by omega)];rfl
 |succ k g=>
  intro n i seen d e c;obtain⟨n,rfl⟩:∃m,n=m+1:=⟨n-1,by omega⟩;have a:i<l.length:=by omega
  show(bif decide ((i:Int)<(l.length:Int)) then _ else _)=_;rw[ahK (by omega),ahS,cr (ahG a),ahE,ON b _ (f _ (ais a)),ahE,cC (by omega),ah9 a];unfold Fb;cases Hn l[i].1 seen
  ·cases j5 l[i].1
   ·rfl
   ·simp only[ahM,aiK,aj7,akk];exact g n (i+1) _ (by omega) (by omega) (by omega)
  ·rfl
def KG{N:Nat}(c:FN N)(l:List eS)(d:l.length<10000000)(e:∀x∈l,x.1.length<10000000):ki N l=some (lj l):=by
 have b:=c;unfold FN at b;unfold ki lj syv;have h:=XO c l d e l.length N 0 [] (by omega) (by omega) (by omega);rw[show jc N N (l,l,(l.length:Int),0,[])=_ from h,ahE,aiv];cases Fb [] l
 ·rfl
 ·simp only[ahS,akk,ahI];cases l with
  |nil=>rfl
  |cons a r=>exact ahK (by simp only[ahL];omega)
def Mk{N:Nat}(a:FN N)(l:List eS)(b:l.length<10000000)(c:∀x∈l,x.1.length<10000000):jd N l=some (lj l):=by
 unfold jd syv;rw[KG a l b c];rfl
def FX(l:List eS)(h:wL l<50000000):((l.map lw).flatten).length+120<=6*wL l:=by
 unfold wL at h⊢;have:=IC wE lw 6 l λv a=>aay v (by have:=ou wE l v a;omega);omega
def OO(l:List eS)(h:wL l<50000000):(lh l).length<=6*wL l:=by
 have a:=FX l h;have d:(lh l).length<=((l.map lw).flatten).length+6:=gr (c:=0) (num:=16) (k:=true) (b:=(l.map lw).flatten) (by omega);omega
def Ml(l:List eS):40*l.length+20<=wL l:=by
 have:=yQ wE 40 (λv=>by unfold wE;omega) l;unfold wL;omega
def R7{l:List eS}{x:eS}(h:x∈l):x.1.length+x.2.2.length+60<=wL l:=by
 have a:=ou wE l x h;have b:wE x=x.1.length+x.2.2.length+40:=rfl;unfold wL;omega
def XP{N:Nat}(c:FN N)(l:List eS)(h:wL l<10000000):gG N l=some (bif lj l then(lh l,0) else([],8)):=by
 have d:=c;unfold FN at d;have m:=FX l (by omega);have o:=Ml l;unfold gG syv;rw[KG c l (by omega) (λx b=>by have:=R7 b;omega),ahE];cases f:lj l
 ·rfl
 ·have e:l.all wc=true:=by
   unfold lj at f;rw[ahF]at f;exact ah7.2 λx b=>KF l [] f.1 x b
  have k:=VT l wc lw (λn i a=>iL N n (l,(l.length:Int),(i:Int),a)) (λp=>p) 8 (λn i x a b g=>by
   have j:=ah b;have q:=R7 (aif b);show(bif decide ((i:Int)<(l.length:Int)) then _ else _)=_;rw[ahK (by omega),ahS,cr b,ahE,af8 c x (by unfold wE;omega)];cases wc x
   ·rfl
   ·simp only[ahS,ahE,aiG];rw[show((0:Int) !=0)=false from rfl,ahM,fY (by omega) (by simp only[ahL,ah1];omega),ahE,cC (by omega)];rfl) (λn a g=>by
   show(bif decide ((l.length:Int)<(l.length:Int)) then _ else _)=_;rw[ahH (by omega)];rfl) N (by omega)
  rw[aiK,ahM,show iL N N (l,(l.length:Int),0,[])=_ from k,ahY e,ahE];dsimp only;rw[Bx c (l.map lw) _ rfl (by simp;omega) (by omega)];rfl
def XQ{N:Nat}(q:FN N)(a:Bs)(b:List TLV)(l:List bU)(j:gz (EL a) b l)(r:(aA b).length<9000000)(n i:Nat)(e:bU)(t:TLV)(acc:List eS)(v:eS)(c o:Int)(g:l[i]?=some e)(h:EL a t e)(d:acc.length=i)(p:kR N (am t)=some (v,c,o)):
 fj N (n+1) (a,l,(l.length:Int),(i:Int),0,0,acc)=bif c !=0 then some (.inl (c,aq .i64 e.2.2.2.1 o)) else fj N n (a,l,(l.length:Int),((i+1:Nat):Int),0,0,acc++[v]):=by
 have m:=ah g;have f:=j.length;have k:=iV b;show(bif decide ((i:Int)<(l.length:Int)) then _ else _)=_;rw[ahK (by omega),ahS,cr g,ahE,h.whole,ahE,p,ahE];dsimp only;rw[fY (by omega) (by simp only[ahL,ah1];omega),ahE,cC (by omega)];rfl
def ae0{v:eS}(h:wc v=true):wE v<=32*(lw v).length:=by
 have a:=IP h;have b:=Dz v.1;have c:(aA (lg v)).length<(lw v).length:=gS;have d:(am (fZ v.1)).length+(am (oN v.2.2)).length<=(aA (lg v)).length:=by
  unfold lg;cases v.2.1
  ·simp only[ahM,ait];rw[PU,ahJ];omega
  ·simp only[ahS,akn];rw[abQ,ahJ,ahJ];omega
 have e:v.2.2.length<(am (oN v.2.2)).length:=lu (oN v.2.2);unfold wE;omega
def T5:∀(l:List eS),l.all wc=true->(l.map wE).sum<=32*((l.map lw).flatten).length
 |[],_=>by simp
 |v::l,h=>by
  rw[ai3,ahF]at h;have a:=ae0 h.1;have b:=T5 l h.2;simp only[ahU,ai6,List.flatten_cons,ahJ];omega
def Mm{l:List eS}(h:lj l=true):l.all wc=true:=by
 unfold lj at h;rw[ahF]at h;exact ah7.2 λx a=>KF l [] h.1 x a
def T6{N:Nat}(g:FN N)(r:List eS)(h:lj r=true)(a:Bs)(m:lh r=a)(I:a.length<300000):kl N a=some (r,0,0):=by
 have p:=g;unfold FN at p;have J:((r.map lw).flatten).length<a.length:=by rw[<-m];exact lu (Fc r)
 have j:=R6 lw HK (λ_=>rfl) r;have d:∀v∈r,(lw v).length<9000000:=λv f=>by have:=vQ lw r v f;omega
 have k:∀v∈r,wc v=true:=ah7.1 (Mm h);have E:=T5 r (Mm h);have F:=yQ wE 40 (λv=>by unfold wE;omega) r;obtain⟨l,A,o⟩:=m8 g (c:=0) (num:=16) (by omega) (by omega) a (r.map HK) (by rw[<-m,<-j];rfl) (λt z=>by
  obtain⟨v,f,rfl⟩:=aiz.1 z;exact acX (d v f)) (by omega) 0 16 rfl rfl
 have y:=o.length;have D:(aA (r.map HK)).length<9000000:=by rw[<-j];omega
 have B:=iV (r.map HK);unfold kl syv;rw[A,ahE];dsimp only;have C:=IE lw HK (λ_=>rfl) r;have u:=T4 a (r.map HK) l o lw (kR N) (λn i b=>fj N n (a,l,(l.length:Int),(i:Int),0,0,b)) (γ:=Int×Int) (λv=>((0:Int),(0:Int),v)) r C
  (λv f=>aeZ g v (k v f) _ rfl (d v f))
  (λn i e t b v s m z q f=>by
    show fj N (n+1) _=_;rw[XQ g a _ l o D n i e t b v 0 0 s m q f];rfl)
  (λn b w=>by
    show(bif decide ((l.length:Int)<(l.length:Int)) then _ else _)=_;rw[ahH (by omega)];rfl) N (by omega)
 rw[show((0:Int) !=0)=false from rfl,ahM,show fj N N (a,l,(l.length:Int),0,0,0,[])=fj N N (a,l,(l.length:Int),((0:Nat):Int),0,0,[]) from rfl,u,ahE];dsimp only;rw[KG g r (by omega) (λx s=>by
  have G:=ou wE r x s;have H:wE x=x.1.length+x.2.2.length+40:=rfl;omega),h]
 rfl
end Go.Fw
namespace Go.Fw
open Go
def LO(y:Int):Bool:=bif (Int.tmod y 4==0) then(bif (Int.tmod y 100 !=0) then true else(Int.tmod y 400==0)) else false
def Zx(y:Int):gm y=some (LO y):=by
 unfold gm LO syv;cases (Int.tmod y 4==0)<;>cases (Int.tmod y 100 !=0)<;>rfl
def LP(l:Bool):Nat->Int
 |1=>31|2=>(if l then 29 else 28)|3=>31|4=>30|5=>31|6=>30|7=>31|8=>31|9=>30|10=>31|11=>30|12=>31|_=>0
def EA(y m:Int):Int:=if 0<=y/\y<=9999 then LP (LO y) m.toNat else 0
def Zy(y m:Int):gn y m=some (EA y m):=by
 unfold gn EA syv;rw[Zx];by_cases a:y<0
 ·rw[ahK a,ain (by omega)];rfl
 ·by_cases c:y>9999
  ·rw[ahH a,ahK c,ain (by omega)];rfl
  ·rw[ahH a,ahH c,ahY (by omega)];generalize LO y=l;by_cases b:m<1
   ·rw[ahK b];have:m.toNat=0:=by omega
    rw[this];rfl
   ·by_cases d:m>12
    ·rw[ahH b,ahK d];obtain⟨k,e⟩:∃k,m.toNat=k+13:=⟨m.toNat-13,by omega⟩;rw[e];rfl
    ·rw[ahH b,ahH d];have f:m=1∨m=2∨m=3∨m=4∨m=5∨m=6∨m=7∨m=8∨m=9∨m=10∨m=11∨m=12:=by omega
     rcases f with rfl|rfl|rfl|rfl|rfl|rfl|rfl|rfl|rfl|rfl|rfl|rfl<;>cases l<;>rfl
abbrev kJ:=Int×Int×Int×Int×Int×Int
def p7(t:kJ):Bool:=decide (t.2.2.2.1>=0)&&(decide (t.2.2.2.1<24)&&(decide (t.2.2.2.2.1>=0)&&(decide (t.2.2.2.2.1<60)&&(decide (t.2.2.2.2.2>=0)&&(decide (t.2.2.2.2.2<60)&&(decide (t.2.2.1>=1)&&decide (t.2.2.1<=EA t.1 t.2.1)))))))
def wM(t:kJ):dZ t=some (p7 t):=by
 obtain⟨y,b,d,h,a,s⟩:=t;unfold dZ p7 syv;simp only[Zy,ahE];cases decide (h>=0)<;>cases decide (h<24)<;>cases decide (a>=0)<;>cases decide (a<60)<;>cases decide (s>=0)<;>cases decide (s<60)<;>cases decide (d>=1)<;>rfl
def me(t:kJ):Bool:=p7 t&&decide (t.1>=1950)
def z8(t:kJ):dO t=some (me t):=by
 unfold dO me syv;rw[wM];simp only[ahE];cases p7 t<;>rfl
end Go.Fw
def akv:=@Int.tmod_eq_emod_of_nonneg
def alm:=@Int.ofNat_inj
namespace Go.Fw
open Go
def dg(d:Nat):UInt8:=UInt8.ofNat (48+d)
def XR{d:Nat}(h:d<=9):(dg d).toNat=48+d:=by unfold dg;rw[aje];omega
def d2(n:Nat):Bs:=[dg (n / 10),dg (n % 10)]
def Mn(b d h a s:Nat):Bs:=d2 b++(d2 d++(d2 h++(d2 a++(d2 s++[90]))))
def NO(y b d h a s:Nat):Bs:=d2 (y % 100)++Mn b d h a s
def B6(y b d h a s:Nat):Bs:=d2 (y / 100)++(d2 (y % 100)++Mn b d h a s)
def aaz(y m:Int):EA y m<=31:=by
 unfold EA;split
 ·have:∀(l:Bool)(k:Nat),LP l k<=31:=by
   intro l k;unfold LP;split<;>first|omega|(split<;>omega)
  exact this _ _
 ·omega
def XT{y m:Int}(h:1<=EA y m):0<=y/\y<=9999/\1<=m/\m<=12:=by
 unfold EA at h;split at h
 ·rename_i a;refine⟨a.1,a.2,?_⟩;by_cases b:1<=m/\m<=12
  ·exact b
  ·exfalso;have e:LP (LO y) m.toNat=0:=by
    rcases ahW 12 m.toNat with c|c
    ·obtain⟨k,d⟩:∃k,m.toNat=k+13:=⟨m.toNat-13,by omega⟩;rw[d];rfl
    ·have:m.toNat=0:=by omega
     rw[this];rfl
   omega
 ·omega
def sU{t:kJ}(h:p7 t=true):∃y a d h b s:Nat,t=((y:Int),(a:Int),(d:Int),(h:Int),(b:Int),(s:Int))/\y<=9999/\1<=a/\a<=12/\1<=d/\d<=31/\h<24/\b<60/\s<60:=by
 obtain⟨y,a,d,g,b,s⟩:=t;unfold p7 at h;simp only[ahF,aij]at h;obtain⟨c,j,e,k,f,l,n,o⟩:=h;have p:=aaz y a;obtain⟨i,q,r,u⟩:=XT (y:=y) (m:=a) (by omega);refine⟨y.toNat,a.toNat,d.toNat,g.toNat,b.toNat,s.toNat,?_,by omega,by omega,by omega,by omega,by omega,by omega,by omega,by omega⟩;rw[ajl i,ajl (by omega),ajl (by omega),ajl c,ajl e,ajl f]
def Mo(n:Nat)(h:n<1000):toB (IntKind.wrap .u8 (aq .i64 48 (gy .i64 (n:Int) 10)))=some (dg (n / 10)):=by
 have e:gy .i64 (n:Int) 10=((n / 10:Nat):Int):=by
  show IntKind.i64.wrap ((n:Int).tdiv 10)=_;rw[aj0 (by omega),aie _ (by omega)];omega
 rw[e,gb (by omega),show(48:Int)+((n / 10:Nat):Int)=((48+n / 10:Nat):Int) from by omega,nC];unfold dg;rw[show(48+n / 10) % 256=48+n / 10 from by omega]
def Mp(n:Nat):toB (IntKind.wrap .u8 (aq .i64 48 (Int.tmod (n:Int) 10)))=some (dg (n % 10)):=by
 have e:Int.tmod (n:Int) 10=((n % 10:Nat):Int):=by
  rw[akv (by omega)];omega
 rw[e,gb (by omega),show(48:Int)+((n % 10:Nat):Int)=((48+n % 10:Nat):Int) from by omega,nC];unfold dg;rw[show(48+n % 10) % 256=48+n % 10 from by omega]
def VW{b α:Type}(x:Option b)(K:b->Option α):∀(a:List (Option b)),a≠[]->(∀o∈a,o=x)->agree a K=x.bind K:=by
 intro a c h
 match a with
 |[]=>exact absurd rfl c
 |o::r=>
  have e:o::r=List.replicate (r.length+1) x:=List.eq_replicate_iff.2 ⟨by simp,h⟩;rw[e,qe]
def Ao(N n i:Nat)(l:List Int)(x:Nat)(a a2 a3 a4 a5 b:Int)(acc:Bs)(c:l[i]?=some (x:Int))(d:l.length<=1000)(f:x<1000)(g:acc.length<=100000):dK N (n+1) (l,(l.length:Int),(i:Int),a,a2,a3,a4,a5,b,acc)=dK N n (l,(l.length:Int),((i+1:Nat):Int),a,a2,a3,a4,a5,b,acc++d2 x):=by
 have e:=ah c;show(bif decide ((i:Int)<(l.length:Int)) then _ else _)=_;rw[ahK (by omega),ahS,cr c,ahE,Mo x f,ahE,Mp,ahE,fY (by omega) (by simp only[ahL,ah1];omega),ahE,cC (by omega)];rfl
def aaA(N n:Nat)(l:List Int)(a a2 a3 a4 a5 b:Int)(acc:Bs):dK N (n+1) (l,(l.length:Int),(l.length:Int),a,a2,a3,a4,a5,b,acc)=some (a,a2,a3,a4,a5,b,acc):=by
 show(bif decide ((l.length:Int)<(l.length:Int)) then _ else _)=_;rw[ahH (by omega)];rfl
def XU{N:Nat}(f:FN N)(b d h a s:Nat)(j:b<=99/\d<=99/\h<=99/\a<=99/\s<=99)(c a2 a3 a4 a5 e:Int)(acc:Bs)(i:acc.length<=100):
 dK N N ([(b:Int),(d:Int),(h:Int),(a:Int),(s:Int)],(([(b:Int),(d:Int),(h:Int),(a:Int),(s:Int)].length:Nat):Int),0,c,a2,a3,a4,a5,e,acc)=some (c,a2,a3,a4,a5,e,acc++(d2 b++(d2 d++(d2 h++(d2 a++d2 s))))):=by
 unfold FN at f;obtain⟨n,g⟩:∃n,N=n+6:=⟨N-6,by omega⟩;rw[show dK N N=dK N (n+6) from by rw[<-g],show(0:Int)=((0:Nat):Int) from rfl];have L:∀x:Nat,(d2 x).length=2:=λ_=>rfl;rw[Ao N (n+5) 0 _ b _ _ _ _ _ _ _ rfl (by simp) (by omega) (by omega),Ao N (n+4) 1 _ d _ _ _ _ _ _ _ rfl (by simp) (by omega) (by simp[L];omega),Ao N (n+3) 2 _ h _ _ _ _ _ _ _ rfl (by simp) (by omega) (by simp[L];omega),Ao N (n+2) 3 _ a _ _ _ _ _ _ _ rfl (by simp) (by omega) (by simp[L];omega),Ao N (n+1) 4 _ s _ _ _ _ _ _ _ rfl (by simp) (by omega) (by simp[L];omega)];refine(aaA N n _ _ _ _ _ _ _ _).trans ?_;simp[ah6]
def ae1{N:Nat}(f:FN N)(b d h a s:Nat)(i:b<=99/\d<=99/\h<=99/\a<=99/\s<=99)(c a2 a3 a4 a5 e:Int)(acc:Bs)(g:acc.length<=100):
 bt N N ([(b:Int),(d:Int),(h:Int),(a:Int),(s:Int)],(([(b:Int),(d:Int),(h:Int),(a:Int),(s:Int)].length:Nat):Int),0,c,a2,a3,a4,a5,e,acc)=some (c,a2,a3,a4,a5,e,acc++(d2 b++(d2 d++(d2 h++(d2 a++d2 s))))):=XU f b d h a s i c a2 a3 a4 a5 e acc g
def XV(y:Nat):Int.tmod (y:Int) 100=((y % 100:Nat):Int):=by
 rw[akv (by omega)];omega
def ae2(y:Nat)(h:y<100000):gy .i64 (y:Int) 100=((y / 100:Nat):Int):=by
 show IntKind.i64.wrap ((y:Int).tdiv 100)=_;rw[aj0 (by omega),aie _ (by omega)];omega
def acY{N:Nat}(f:FN N)(y b d h a s:Nat)(c:p7 ((y:Int),(b:Int),(d:Int),(h:Int),(a:Int),(s:Int))=true)(g:1950<=y)(i:y<=2049):jI N ((y:Int),(b:Int),(d:Int),(h:Int),(a:Int),(s:Int))=some (NO y b d h a s,0):=by
 obtain⟨_,_,_,_,_,_,e,_,_,_,_,_,_,_,_⟩:=sU c;simp only[ah3,alm]at e;have L:∀x:Nat,(d2 x).length=2:=λ_=>rfl;unfold jI;rw[wM,c,ahE,aiK,ahM,ahH (by dsimp only;omega),ahM,ahH (by dsimp only;omega),ahM,qe];simp only[XV];rw[Mo _ (by omega),ahE,Mp,ahE,fY (by omega) (by simp),ahE,qe];rw[XU f b d h a s (by omega) _ _ _ _ _ _ _ (by simp),ahE];dsimp only;rw[fY (by omega) (by simp[L]),ahE];simp[NO,Mn,d2]
def acZ{N:Nat}(p:FN N)(y b d h a s:Nat)(i:p7 ((y:Int),(b:Int),(d:Int),(h:Int),(a:Int),(s:Int))=true):ic N ((y:Int),(b:Int),(d:Int),(h:Int),(a:Int),(s:Int))=some (B6 y b d h a s,0):=by
 obtain⟨_,_,_,_,_,_,e,_,_,_,_,_,_,_,_⟩:=sU i;simp only[ah3,alm]at e;have L:∀x:Nat,(d2 x).length=2:=λ_=>rfl;unfold ic;rw[wM,i,ahE,aiK,ahM];refine(VW (some (B6 y b d h a s,0)) _ _ (by simp) ?_).trans rfl;have g:∀j k:Nat,((toB (IntKind.wrap .u8 (aq .i64 48 (gy .i64 (gy .i64 (y:Int) 100) 10)))).bind λl=>(toB (IntKind.wrap .u8 (aq .i64 48 (Int.tmod (gy .i64 (y:Int) 100) 10)))).bind λm=>(app 1 ([]:List UInt8) [l,m]).bind λv=>
  agree (List.replicate (j+1) ((toB (IntKind.wrap .u8 (aq .i64 48 (gy .i64 (Int.tmod (y:Int) 100) 10)))).bind λn=>(toB (IntKind.wrap .u8 (aq .i64 48 (Int.tmod (Int.tmod (y:Int) 100) 10)))).bind λo=>(app 1 v [n,o]).bind λw=>
  agree (List.replicate (k+1) ((bt N N ([(b:Int),(d:Int),(h:Int),(a:Int),(s:Int)],(([(b:Int),(d:Int),(h:Int),(a:Int),(s:Int)].length:Nat):Int),0,(y:Int),(b:Int),(d:Int),(h:Int),(a:Int),(s:Int),w)).bind λ(z,A,q,r,t,u,c)=>(app 1 c ([90]:Bs)).bind λf=>some (f,(0:Int)):Option (Bs×Int))) some:Option (Bs×Int))) some:Option (Bs×Int))=some (B6 y b d h a s,0):=by
  intro j k;rw[ae2 y (by omega),XV,Mo _ (by omega),ahE,Mp,ahE,fY (by omega) (by simp),ahE,qe,Mo _ (by omega),ahE,Mp,ahE,fY (by omega) (by simp),ahE,qe,ae1 p b d h a s (by omega) _ _ _ _ _ _ _ (by simp),ahE];dsimp only;rw[fY (by omega) (by simp[L]),ahE];simp[B6,Mn,d2]
 repeat' first|refine List.forall_mem_cons.2 ⟨g _ _,?_⟩|exact λ_ h=>absurd h akx
def isD(b:UInt8):Bool:=decide (48<=b.toNat/\b.toNat<=57)
def nu{b:UInt8}(h:isD b=true):∃d,d<=9/\b=dg d:=by
 have a:=aih h;refine⟨b.toNat-48,by omega,?_⟩;unfold dg;rw[show 48+(b.toNat-48)=b.toNat from by omega];simp
def XW{d:Nat}(h:d<=9):isD (dg d)=true:=by
 unfold isD;rw[XR h];exact ahK (by omega)
def HN(N:Nat)(k:Int)(s a:Bs)(j:s.length<10000000):∀(m n i:Nat),s.length-i=m->m<n->i<=s.length->
 dS N n (k,s,(s.length:Int),(i:Int),a,0,0,0,0,0,0)=some (bif (s.drop i).all isD then .inr (k,a,0,0,0,0,0,0) else .inl (false,0,0,0,0,0,0)):=by
 intro m;induction m with
 |zero=>
  intro n i d e c;obtain⟨n,rfl⟩:∃m,n=m+1:=⟨n-1,by omega⟩;show(bif decide ((i:Int)<(s.length:Int)) then _ else _)=_;rw[ahH (by omega),ahM,ail (by omega)];rfl
 |succ m f=>
  intro n i d e c;obtain⟨n,rfl⟩:∃m,n=m+1:=⟨n-1,by omega⟩;have b:i<s.length:=by omega
  show(bif decide ((i:Int)<(s.length:Int)) then _ else _)=_;rw[ahK (by omega),ahS,cr (ahG b),ahE,cC (by omega),ah9 b,ai3];by_cases g:s[i].toNat<48
  ·rw[ahK (by omega:((s[i].toNat:Nat):Int)<48),show isD s[i]=false from ahH (by omega)];rfl
  ·rw[ahH (by omega:¬((s[i].toNat:Nat):Int)<48),ahM];by_cases h:s[i].toNat>57
   ·rw[ahK (by omega:((s[i].toNat:Nat):Int)>57),show isD s[i]=false from ahH (by omega)];rfl
   ·rw[ahH (by omega:¬((s[i].toNat:Nat):Int)>57),show isD s[i]=true from ahK (by omega),ahM,akk];exact f n (i+1) (by omega) (by omega) (by omega)
def dgv{d:Nat}(h:d<=9):IntKind.wrap .i64 (aX .u8 ((dg d).toNat:Int) 48)=(d:Int):=by
 rw[XR h];show IntKind.wrap .i64 (IntKind.u8.wrap (((48+d:Nat):Int)-48))=_;rw[IntKind.wrap_u8,aie _ (by omega)];omega
def vR(d e:Nat)(hd:d<=9)(a:e<=9):aq .i64 (kZ .i64 (IntKind.wrap .i64 (aX .u8 ((dg d).toNat:Int) 48)) 10) (IntKind.wrap .i64 (aX .u8 ((dg e).toNat:Int) 48))=((10*d+e:Nat):Int):=by
 rw[dgv hd,dgv a];show IntKind.i64.wrap (IntKind.i64.wrap ((d:Int)*10)+(e:Int))=_;rw[aie ((d:Int)*10) (by omega),aie _ (by omega)];omega
def Fd(d e:Nat)(hd:d<=9)(a:e<=9):d2 (10*d+e)=[dg d,dg e]:=by
 unfold d2;rw[show(10*d+e) / 10=d from by omega,show(10*d+e) % 10=e from by omega]
end Go.Fw
namespace Go.Fw
open Go
def aaB{N:Nat}(U:FN N)(j m g o p q r s t u d f:Nat)(h:j<=9/\m<=9/\g<=9/\o<=9/\p<=9/\q<=9/\r<=9/\s<=9/\t<=9/\u<=9/\d<=9/\f<=9)(y:Nat)(z:y=if 10*j+m<50 then 10*j+m+2000 else 10*j+m+1900):
 eF N [dg j,dg m,dg g,dg o,dg p,dg q,dg r,dg s,dg t,dg u,dg d,dg f,90] 2=some (((y:Int),((10*g+o:Nat):Int),((10*p+q:Nat):Int),((10*r+s:Nat):Int),((10*t+u:Nat):Int),((10*d+f:Nat):Int)),p7 ((y:Int),((10*g+o:Nat):Int),((10*p+q:Nat):Int),((10*r+s:Nat):Int),((10*t+u:Nat):Int),((10*d+f:Nat):Int))):=by
 have A:=U;unfold FN at A;obtain⟨G,H,J,L,M,O,P,Q,R,S,w,x⟩:=h;unfold eF;rw[show((([dg j,dg m,dg g,dg o,dg p,dg q,dg r,dg s,dg t,dg u,dg d,dg f,90].length:Nat):Int) !=aq .i64 2 11)=false from rfl,ahM];rw[show ix [dg j,dg m,dg g,dg o,dg p,dg q,dg r,dg s,dg t,dg u,dg d,dg f,90] (aX .i64 (([dg j,dg m,dg g,dg o,dg p,dg q,dg r,dg s,dg t,dg u,dg d,dg f,90].length:Nat):Int) 1)=some 90 from rfl,ahE,show((((90:UInt8).toNat:Nat):Int) !=90)=false from rfl,ahM];rw[show slc [dg j,dg m,dg g,dg o,dg p,dg q,dg r,dg s,dg t,dg u,dg d,dg f,90] 0 (aX .i64 (([dg j,dg m,dg g,dg o,dg p,dg q,dg r,dg s,dg t,dg u,dg d,dg f,90].length:Nat):Int) 1)=some [dg j,dg m,dg g,dg o,dg p,dg q,dg r,dg s,dg t,dg u,dg d,dg f] from rfl,ahE];have T:=HN N 2 [dg j,dg m,dg g,dg o,dg p,dg q,dg r,dg s,dg t,dg u,dg d,dg f] [dg j,dg m,dg g,dg o,dg p,dg q,dg r,dg s,dg t,dg u,dg d,dg f,90] (by simp) 12 N 0 rfl (by omega) (by simp);rw[aiv,show([dg j,dg m,dg g,dg o,dg p,dg q,dg r,dg s,dg t,dg u,dg d,dg f]:Bs).all isD=true from by simp[XW,G,H,J,L,M,O,P,Q,R,S,w,x]]at T;rw[show dS N N (2,[dg j,dg m,dg g,dg o,dg p,dg q,dg r,dg s,dg t,dg u,dg d,dg f],_,0,_,0,0,0,0,0,0)=_ from T,ahS,ahE];dsimp only;rw[ix0,ahE,ix1,ahE,show((2:Int)==4)=false from rfl,ahM,vR j m G H];have B:∀K:Int->Option ((Int×Int×Int×Int×Int×Int)×Bool),(bif decide (aq .i64 ((10*j+m:Nat):Int) 1900<1950) then K (aq .i64 (aq .i64 ((10*j+m:Nat):Int) 1900) 100) else K (aq .i64 ((10*j+m:Nat):Int) 1900))=K (y:Int):=by
  intro K;rw[gb (a:=((10*j+m:Nat):Int)) (by omega)];by_cases v:10*j+m<50
  ·rw[ahK (by omega),ahS,gb (by omega),z,ahY v];congr 1
  ·rw[ahH (by omega),ahM,z,ain v];congr 1
 have D:∀(c:Bool)(E F:Int)(l:Bs),((((bif c then some (l,(0:Int),(0:Int),(0:Int),(0:Int),(0:Int),(0:Int),(2:Int),E,(0:Int),(0:Int),(0:Int),(0:Int),(0:Int)) else some (l,(0:Int),(0:Int),(0:Int),(0:Int),(0:Int),(0:Int),(2:Int),F,(0:Int),(0:Int),(0:Int),(0:Int),(0:Int)):Option (Bs×Int×Int×Int×Int×Int×Int×Int×Int×Int×Int×Int×Int×Int)))))=some (l,(0:Int),(0:Int),(0:Int),(0:Int),(0:Int),(0:Int),(2:Int),bif c then E else F,(0:Int),(0:Int),(0:Int),(0:Int),(0:Int)):=by
  intro c E F l;cases c<;>rfl
 have C:(bif decide (aq .i64 ((10*j+m:Nat):Int) 1900<1950) then(aq .i64 (aq .i64 ((10*j+m:Nat):Int) 1900) 100) else(aq .i64 ((10*j+m:Nat):Int) 1900))=(y:Int):=by
  rw[gb (a:=((10*j+m:Nat):Int)) (by omega)];by_cases v:10*j+m<50
  ·rw[ahK (by omega),ahS,gb (by omega),z,ahY v];omega
  ·rw[ahH (by omega),ahM,z,ain v];omega
 rw[D,C,ahE];dsimp only;rw[ahE];dsimp only;generalize n:[dg j,dg m,dg g,dg o,dg p,dg q,dg r,dg s,dg t,dg u,dg d,dg f,(90:UInt8)]=cc;have I:∀(i:Int)(k:Nat)(b:UInt8),i=(k:Int)->cc[k]?=some b->ix cc i=some b:=λi k b e V=>by rw[e];exact cr V
 simp only[show aq .i64 2 2=4 from rfl,show aq .i64 4 2=6 from rfl,show aq .i64 6 2=8 from rfl,show aq .i64 8 2=10 from rfl,show aq .i64 10 2=12 from rfl,show aq .i64 12 2=14 from rfl,show aX .i64 4 2=2 from rfl,show aX .i64 4 1=3 from rfl,show aX .i64 6 2=4 from rfl,show aX .i64 6 1=5 from rfl,show aX .i64 8 2=6 from rfl,show aX .i64 8 1=7 from rfl,show aX .i64 10 2=8 from rfl,show aX .i64 10 1=9 from rfl,show aX .i64 12 2=10 from rfl,show aX .i64 12 1=11 from rfl,show aX .i64 14 2=12 from rfl,show aX .i64 14 1=13 from rfl];rw[I 2 2 (dg g) rfl (by rw[<-n];rfl),ahE,I 3 3 (dg o) rfl (by rw[<-n];rfl),ahE,I 4 4 (dg p) rfl (by rw[<-n];rfl),ahE,I 5 5 (dg q) rfl (by rw[<-n];rfl),ahE,I 6 6 (dg r) rfl (by rw[<-n];rfl),ahE,I 7 7 (dg s) rfl (by rw[<-n];rfl),ahE,I 8 8 (dg t) rfl (by rw[<-n];rfl),ahE,I 9 9 (dg u) rfl (by rw[<-n];rfl),ahE,I 10 10 (dg d) rfl (by rw[<-n];rfl),ahE,I 11 11 (dg f) rfl (by rw[<-n];rfl),ahE];rw[vR g o J L,vR p q M O,vR r s P Q,vR t u R S,vR d f w x,wM];rfl
def R8{N:Nat}(Q:FN N)(g j s t f l m n o p q r c d:Nat)(h:g<=9/\j<=9/\s<=9/\t<=9/\f<=9/\l<=9/\m<=9/\n<=9/\o<=9/\p<=9/\q<=9/\r<=9/\c<=9/\d<=9)(y:Nat)(U:y=100*(10*g+j)+(10*s+t)):
 eF N [dg g,dg j,dg s,dg t,dg f,dg l,dg m,dg n,dg o,dg p,dg q,dg r,dg c,dg d,90] 4=some (((y:Int),((10*f+l:Nat):Int),((10*m+n:Nat):Int),((10*o+p:Nat):Int),((10*q+r:Nat):Int),((10*c+d:Nat):Int)),p7 ((y:Int),((10*f+l:Nat):Int),((10*m+n:Nat):Int),((10*o+p:Nat):Int),((10*q+r:Nat):Int),((10*c+d:Nat):Int))):=by
 have x:=Q;unfold FN at x;obtain⟨B,C,O,P,D,E,F,G,H,J,K,L,v,w⟩:=h;unfold eF;generalize a:[dg g,dg j,dg s,dg t,dg f,dg l,dg m,dg n,dg o,dg p,dg q,dg r,dg c,dg d,(90:UInt8)]=cc;generalize u:[dg g,dg j,dg s,dg t,dg f,dg l,dg m,dg n,dg o,dg p,dg q,dg r,dg c,dg d]=ss;have I:∀(i:Int)(k:Nat)(b:UInt8),i=(k:Int)->cc[k]?=some b->ix cc i=some b:=λi k b e R=>by rw[e];exact cr R
 have S:((cc.length:Nat):Int)=15:=by rw[<-a];rfl
 have T:ss.length=14:=by rw[<-u];rfl
 have z:slc cc 0 14=some ss:=by rw[<-a,<-u];rfl
 have M:=HN N 4 ss cc (by omega) 14 N 0 (by omega) (by omega) (by omega);rw[aiv,show ss.all isD=true from by rw[<-u];simp[XW,B,C,O,P,D,E,F,G,H,J,K,L,v,w]]at M;rw[S,show((15:Int) !=aq .i64 4 11)=false from rfl,ahM,show aX .i64 15 1=14 from rfl,I 14 14 90 rfl (by rw[<-a];rfl),ahE,show((((90:UInt8).toNat:Nat):Int) !=90)=false from rfl,ahM,z,ahE,show dS N N (4,ss,((ss.length:Nat):Int),0,cc,0,0,0,0,0,0)=_ from M,ahS,ahE];dsimp only;rw[I 0 0 (dg g) rfl (by rw[<-a];rfl),ahE,I 1 1 (dg j) rfl (by rw[<-a];rfl),ahE,show((4:Int)==4)=true from rfl,ahS,qe,I 2 2 (dg s) rfl (by rw[<-a];rfl),ahE,I 3 3 (dg t) rfl (by rw[<-a];rfl),ahE,ahE];dsimp only;rw[ahE];dsimp only;have A:aq .i64 (kZ .i64 100 ((10*g+j:Nat):Int)) ((10*s+t:Nat):Int)=(y:Int):=by
  show IntKind.i64.wrap (IntKind.i64.wrap (100*((10*g+j:Nat):Int))+_)=_;rw[aie (100*((10*g+j:Nat):Int)) (by omega),aie _ (by omega)];omega
 simp only[show aq .i64 2 2=4 from rfl,show aq .i64 4 2=6 from rfl,show aq .i64 6 2=8 from rfl,show aq .i64 8 2=10 from rfl,show aq .i64 10 2=12 from rfl,show aq .i64 12 2=14 from rfl,show aX .i64 4 2=2 from rfl,show aX .i64 4 1=3 from rfl,show aX .i64 6 2=4 from rfl,show aX .i64 6 1=5 from rfl,show aX .i64 8 2=6 from rfl,show aX .i64 8 1=7 from rfl,show aX .i64 10 2=8 from rfl,show aX .i64 10 1=9 from rfl,show aX .i64 12 2=10 from rfl,show aX .i64 12 1=11 from rfl,show aX .i64 14 2=12 from rfl,show aX .i64 14 1=13 from rfl];rw[I 4 4 (dg f) rfl (by rw[<-a];rfl),ahE,I 5 5 (dg l) rfl (by rw[<-a];rfl),ahE,I 6 6 (dg m) rfl (by rw[<-a];rfl),ahE,I 7 7 (dg n) rfl (by rw[<-a];rfl),ahE,I 8 8 (dg o) rfl (by rw[<-a];rfl),ahE,I 9 9 (dg p) rfl (by rw[<-a];rfl),ahE,I 10 10 (dg q) rfl (by rw[<-a];rfl),ahE,I 11 11 (dg r) rfl (by rw[<-a];rfl),ahE,I 12 12 (dg c) rfl (by rw[<-a];rfl),ahE,I 13 13 (dg d) rfl (by rw[<-a];rfl),ahE];rw[vR g j B C,vR s t O P,vR f l D E,vR m n F G,vR o p H J,vR q r K L,vR c d v w,A,wM];rfl
end Go.Fw
namespace Go.Fw
open Go
def ac1{N:Nat}(l:FN N)(c:Bs)(k:Nat)(n:c.length<10000000)(o:k=2∨k=4):(∃s,c=s++[90]/\s.length=k+10/\s.all isD=true)∨eF N c (k:Int)=some ((0,0,0,0,0,0),false):=by
 have f:=l;unfold FN at f;unfold eF;have d:aq .i64 (k:Int) 11=((k+11:Nat):Int):=by rw[gb (by omega)];omega
 rw[d];by_cases a:c.length=k+11
 ·obtain⟨s,b,rfl⟩:∃s b,c=s++[b]:=⟨c.dropLast,c.getLast (λe=>by rw[e]at a;simp at a),(ajQ _).symm⟩;have m:s.length=k+10:=by simp at a;omega
  rw[show(((s++[b]).length:Int) !=((k+11:Nat):Int))=false from by rw[a];simp,ahM,UX (by omega) (by omega),cr (show(s++[b])[(s++[b]).length-1]?=some b from by rw[a,show k+11-1=s.length from by omega];simp),ahE];by_cases i:b=90
  ·subst i;by_cases h:s.all isD=true
   ·exact .inl ⟨s,rfl,m,h⟩
   ·right;rw[show((((90:UInt8).toNat:Nat):Int) !=90)=false from rfl,ahM];have g:slc (s++[(90:UInt8)]) 0 (((s++[(90:UInt8)]).length-1:Nat):Int)=some s:=by
     unfold slc;rw[ahY ⟨by omega,by omega,by omega⟩,aiL,a,show k+11-1=s.length from by omega];simp
    have j:=HN N (k:Int) s (s++[90]) (by omega) s.length N 0 (by omega) (by omega) (by omega);rw[aiv,show s.all isD=false from by simpa using h]at j;rw[g,ahE,show dS N N ((k:Int),s,(s.length:Int),0,s++[90],0,0,0,0,0,0)=_ from j,ahM];rfl
  ·right;rw[show(((b.toNat:Nat):Int) !=90)=true from by
    simp only[bne_iff_ne,ne_eq];intro e;exact i (UInt8.toNat_inj.1 (by rw[show b.toNat=90 from by omega];rfl))]
   rfl
 ·right;rw[show((c.length:Int) !=((k+11:Nat):Int))=true from by simp only[bne_iff_ne,ne_eq];omega];rfl
def Sa(t:kJ)(y b d h a s:Nat):Prop:=t=((y:Int),(b:Int),(d:Int),(h:Int),(a:Int),(s:Int))/\p7 t=true
def X1{N:Nat}(L:FN N)(c:Bs)(hc:c.length<10000000):OW (cj N c) λr=>(r.2=0/\∃y O d h M s,Sa r.1 y O d h M s/\c=B6 y O d h M s)∨r=((0,0,0,0,0,0),6):=by
 unfold cj syv;rcases ac1 L c 4 hc (by omega) with⟨s,rfl,hs,v⟩|h
 ·match s,hs,v with
  |[a0,a1,b0,b1,a2,a3,a4,a5,a6,a7,a8,a9,P,Q],_,v=>
   simp only[ai3,List.all_nil,Bool.and_true,ahF]at v;obtain⟨R,S,k0,k1,T,U,V,W,X,Y,Z,h9,w,x⟩:=v;obtain⟨f,B,rfl⟩:=nu R;obtain⟨g,C,rfl⟩:=nu S;obtain⟨i,z,rfl⟩:=nu k0;obtain⟨j,A,rfl⟩:=nu k1;obtain⟨e,D,rfl⟩:=nu T;obtain⟨m,E,rfl⟩:=nu U;obtain⟨n,F,rfl⟩:=nu V;obtain⟨o,G,rfl⟩:=nu W;obtain⟨p,H,rfl⟩:=nu X;obtain⟨q,I,rfl⟩:=nu Y;obtain⟨t,J,rfl⟩:=nu Z;obtain⟨u,K,rfl⟩:=nu h9;obtain⟨a,k,rfl⟩:=nu w;obtain⟨b,l,rfl⟩:=nu x;have h:=R8 L f g i j e m n o p q t u a b ⟨B,C,z,A,D,E,F,G,H,I,J,K,k,l⟩ _ rfl;rw[show [dg f,dg g,dg i,dg j,dg e,dg m,dg n,dg o,dg p,dg q,dg t,dg u,dg a,dg b]++[(90:UInt8)]=[dg f,dg g,dg i,dg j,dg e,dg m,dg n,dg o,dg p,dg q,dg t,dg u,dg a,dg b,90] from rfl,h,ahE];dsimp only;refine ax (λhv=>aa (.inl ⟨rfl,_,_,_,_,_,_,⟨rfl,hv⟩,?_⟩)) λ_=>aa (.inr rfl);unfold B6 Mn;rw[Fd e m D E,Fd n o F G,Fd p q H I,Fd t u J K,Fd a b k l,show(100*(10*f+g)+(10*i+j)) / 100=10*f+g from by omega,show(100*(10*f+g)+(10*i+j)) % 100=10*i+j from by omega,Fd f g B C,Fd i j z A];rfl
 ·rw[show eF N c 4=_ from h];exact aa (.inr rfl)
def X2{N:Nat}(f:FN N){t:kJ}{y b d h a s:Nat}(i:Sa t y b d h a s)(j:1950<=y)(k:y<=2049):nN N (NO y b d h a s)=some (t,0):=by
 obtain⟨rfl,c⟩:=i;obtain⟨_,_,_,_,_,_,e,_,_,_,_,_,_,_,_⟩:=sU c;simp only[ah3,alm]at e;have g:=aaB f (y % 100 / 10) (y % 100 % 10) (b / 10) (b % 10) (d / 10) (d % 10) (h / 10) (h % 10) (a / 10) (a % 10) (s / 10) (s % 10) (by omega) y (by split<;>omega);unfold nN syv;rw[show NO y b d h a s=[dg (y % 100 / 10),dg (y % 100 % 10),dg (b / 10),dg (b % 10),dg (d / 10),dg (d % 10),dg (h / 10),dg (h % 10),dg (a / 10),dg (a % 10),dg (s / 10),dg (s % 10),90] from rfl,g,ahE];dsimp only;rw[show 10*(b / 10)+b % 10=b from by omega,show 10*(d / 10)+d % 10=d from by omega,show 10*(h / 10)+h % 10=h from by omega,show 10*(a / 10)+a % 10=a from by omega,show 10*(s / 10)+s % 10=s from by omega,c];rfl
def X3{N:Nat}(f:FN N){t:kJ}{y b d h a s:Nat}(i:Sa t y b d h a s):cj N (B6 y b d h a s)=some (t,0):=by
 obtain⟨rfl,c⟩:=i;obtain⟨_,_,_,_,_,_,e,_,_,_,_,_,_,_,_⟩:=sU c;simp only[ah3,alm]at e;have g:=R8 f (y / 100 / 10) (y / 100 % 10) (y % 100 / 10) (y % 100 % 10) (b / 10) (b % 10) (d / 10) (d % 10) (h / 10) (h % 10) (a / 10) (a % 10) (s / 10) (s % 10) (by omega) y (by omega);unfold cj syv;rw[show B6 y b d h a s=[dg (y / 100 / 10),dg (y / 100 % 10),dg (y % 100 / 10),dg (y % 100 % 10),dg (b / 10),dg (b % 10),dg (d / 10),dg (d % 10),dg (h / 10),dg (h % 10),dg (a / 10),dg (a % 10),dg (s / 10),dg (s % 10),90] from rfl,g,ahE];dsimp only;rw[show 10*(b / 10)+b % 10=b from by omega,show 10*(d / 10)+d % 10=d from by omega,show 10*(h / 10)+h % 10=h from by omega,show 10*(a / 10)+a % 10=a from by omega,show 10*(s / 10)+s % 10=s from by omega,c];rfl
def aaC(t:kJ):Bs:=B6 t.1.toNat t.2.1.toNat t.2.2.1.toNat t.2.2.2.1.toNat t.2.2.2.2.1.toNat t.2.2.2.2.2.toNat
def aaD(t:kJ):Bs:=NO t.1.toNat t.2.1.toNat t.2.2.1.toNat t.2.2.2.1.toNat t.2.2.2.2.1.toNat t.2.2.2.2.2.toNat
def kP(t:kJ):TLV:=bif decide (t.1>2049) then(0,false,24,aaC t) else(0,false,23,aaD t)
def rH(t:kJ):Bs:=am (kP t)
def Fe(t:kJ):okT (kP t):=by
 unfold kP;cases decide (t.1>2049)
 ·exact rx (by omega) (by omega) (show 13<10000000 by omega)
 ·exact rx (by omega) (by omega) (show 15<10000000 by omega)
def By(t:kJ):(rH t).length<=21:=by
 unfold rH kP;cases decide (t.1>2049)
 ·exact aiW (gr (c:=0) (num:=23) (k:=false) (b:=aaD t) (show 13<_ by omega)) (show 13+6<=21 by omega)
 ·exact aiW (gr (c:=0) (num:=24) (k:=false) (b:=aaC t) (show 15<_ by omega)) (show 15+6<=21 by omega)
def Sc{N:Nat}(b:FN N)(t:kJ):ip N t=some (bif me t then(rH t,0) else([],8)):=by
 unfold ip syv;rw[z8,ahE];cases a:me t
 ·rfl
 ·unfold me at a;rw[ahF,aij]at a;obtain⟨y,e,d,h,c,s,rfl,_⟩:=sU a.1;have f:1950<=y:=by have:=a.2;dsimp only at this;omega
  rw[aiK,ahM];unfold rH kP;by_cases g:y>2049
  ·rw[ahK (show((y:Int))>2049 by omega),ahS,acZ b y e d h c s a.1,ahE];dsimp only;rw[show((0:Int) !=0)=false from rfl,ahM,qi b 0 24 false _ 0 24 rfl rfl (by omega) (by omega) (show 15<_ by omega)];rfl
  ·rw[ahH (show ¬((y:Int))>2049 by omega),ahM,acY b y e d h c s a.1 f (by omega),ahE];dsimp only;rw[show((0:Int) !=0)=false from rfl,ahM,qi b 0 23 false _ 0 23 rfl rfl (by omega) (by omega) (show 13<_ by omega)];rfl
def NP{N:Nat}(i:FN N)(t:kJ)(c:me t=true)(a:Bs)(m:rH t=a):ka N a=some (t,0,0):=by
 obtain⟨e,l,b⟩:=agx i a (kP t) m.symm (Fe t);unfold me at c;rw[ahF,aij]at c;obtain⟨y,g,d,h,f,s,rfl,_⟩:=sU c.1;have k:1950<=y:=by have:=c.2;dsimp only at this;omega
 unfold ka syv;rw[l,ahE];dsimp only;rw[show((0:Int) !=0)=false from rfl,ahM,b.body,ahE];by_cases n:y>2049
 ·have j:kP ((y:Int),(g:Int),(d:Int),(h:Int),(f:Int),(s:Int))=(0,false,24,B6 y g d h f s):=by
   unfold kP;rw[ahK (show((y:Int))>2049 by omega)];rfl
  rw[j]at b⊢;rw[b.no 0 23 false 0 23 rfl rfl (by simp),ahE,ahM,b.yes 0 24 false 0 24 rfl rfl rfl rfl rfl,ahE,ahS,X3 i ⟨rfl,c.1⟩];simp only[ahE];rw[ahH (show ¬((y:Int))<=2049 by omega)];rfl
 ·have j:kP ((y:Int),(g:Int),(d:Int),(h:Int),(f:Int),(s:Int))=(0,false,23,NO y g d h f s):=by
   unfold kP;rw[ahH (show ¬((y:Int))>2049 by omega)];rfl
  rw[j]at b⊢;rw[b.yes 0 23 false 0 23 rfl rfl rfl rfl rfl,ahE,ahS,X2 i ⟨rfl,c.1⟩ k (by omega)];rfl
end Go.Fw
namespace Go.Fw
open Go
def sgn(x:UInt8):Int:=if x.toNat<128 then(x.toNat:Int) else(x.toNat:Int)-256
def beI(a:Int)(r:Bs):Int:=r.foldl (λn x=>256*n+(x.toNat:Int)) a
def Sd:Bs->Int
 |[]=>0
 |x::r=>beI (sgn x) r
set_option maxRecDepth 100000 in
def ac2(x:UInt8):IntKind.wrap .i64 (IntKind.wrap .i8 (x.toNat:Int))=sgn x:=by
 have h:∀n:Fin 256,IntKind.wrap .i64 (IntKind.wrap .i8 (n.val:Int))=if n.val<128 then(n.val:Int) else(n.val:Int)-256:=by decide
 exact h ⟨x.toNat,x.toNat_lt⟩
def ac3(x:UInt8): -128<=sgn x/\sgn x<128:=by
 have:=x.toNat_lt;unfold sgn;split<;>omega
def af9(N:Nat)(r:Bs)(p:r.length<=7):∀(k n i:Nat)(a:Int),r.length-i=k->k<n->i<=r.length->-(128*256 ^ i:Nat)<=a->a<(128*256 ^ i:Nat)->gp N n (a,r,(r.length:Int),(i:Int))=some (beI a (r.drop i)):=by
 intro k;induction k with
 |zero=>
  intro n i a d e c _ _;obtain⟨n,rfl⟩:∃m,n=m+1:=⟨n-1,by omega⟩;show(bif decide ((i:Int)<(r.length:Int)) then _ else _)=_;rw[ahH (by omega),ahM,ail (by omega)];rfl
 |succ k g=>
  intro n i a d e c h j;obtain⟨n,rfl⟩:∃m,n=m+1:=⟨n-1,by omega⟩;have b:i<r.length:=by omega
  have l:=r[i].toNat_lt;have o:256 ^ i<=256 ^ 6:=akp (by omega) (by omega);have f:256 ^ (i+1)=256*256 ^ i:=by rw[ake,Nat.mul_comm]
  show(bif decide ((i:Int)<(r.length:Int)) then _ else _)=_;rw[ahK (by omega),ahS,cr (ahG b),ahE,z7,cC (by omega),Tp (by omega) (by omega) (by omega) (by omega)];refine(g n (i+1) _ (by omega) (by omega) (by omega) (by omega) (by omega)).trans ?_;rw[ah9 b];rfl
def T8{N:Nat}(e:FN N)(c:Bs)(f:c.length<10000000):gj N c=some (bif mN c&&decide (c.length<=8) then(Sd c,true) else(0,false)):=by
 unfold FN at e;unfold gj syv;rw[kX,ahE];cases h:mN c
 ·rfl
 ·by_cases a:c.length<=8
  ·rw[ahH (by omega:¬(c.length:Int)>8),ahK a];cases c with
   |nil=>cases h
   |cons x r=>
    have d:=ac3 x;have b:=af9 N r (by simp at a;omega) r.length N 0 (sgn x) (by omega) (by simp at a;omega) (by omega) (by simpa using d.1) (by simpa using d.2);rw[aiv]at b;simp only[aiK,ahM,ix0,ahE,qq,ac2,akk,ahS];rw[show gp N N (sgn x,r,(r.length:Int),0)=_ from b];rfl
  ·rw[ahK (by omega:(c.length:Int)>8),ahH a];rfl
def ur:Bs->Bs
 |[]=>[]
 |x::r=>match r with
  |[]=>[x]
  |_::_=>bif mN (x::r) then x::r else ur r
def Se:∀(c:Bs),c≠[]->mN (ur c)=true
 |[],h=>absurd rfl h
 |[x],_=>rfl
 |x::y::r,_=>by
  unfold ur;cases h:mN (x::y::r)
  ·exact Se (y::r) (by simp)
  ·exact h
def T9:∀(c:Bs),Sd (ur c)=Sd c
 |[]=>rfl
 |[x]=>rfl
 |x::y::r=>by
  unfold ur;cases h:mN (x::y::r)
  ·rw[ahM,T9 (y::r)];have a:(!(x.toNat==0&&decide (y.toNat<128))&& !(x.toNat==255&& !decide (y.toNat<128)))=false:=h;show beI (sgn y) r=beI (sgn x) (y::r);have e:beI (sgn x) (y::r)=beI (256*sgn x+(y.toNat:Int)) r:=rfl;rw[e];congr 1;unfold sgn;by_cases b:y.toNat<128
   ·rw[ahY b];simp[b]at a;rw[a,ahY (by omega)];omega
   ·rw[ain b];simp[b]at a;rw[a,ain (by omega)];omega
  ·rfl
def OQ:∀(c:Bs),(ur c).length<=c.length
 |[]=>ahO _
 |[x]=>ahO _
 |x::y::r=>by
  unfold ur;cases mN (x::y::r)
  ·have:=OQ (y::r);simp only[ahM,ahL]at this⊢;omega
  ·exact ahO _
def abC(N:Nat):∀(c:Bs)(n:Nat),c.length<n->c.length<1000->kF N n c=some (ur c)
 |[],n,h,_=>by
  obtain⟨n,rfl⟩:∃m,n=m+1:=⟨n-1,by omega⟩;rfl
 |[x],n,h,_=>by
  obtain⟨n,rfl⟩:∃m,n=m+1:=⟨n-1,by omega⟩;rfl
 |x::y::r,n,h,a=>by
  obtain⟨n,rfl⟩:∃m,n=m+1:=⟨n-1,by omega⟩;show(bif decide (((x::y::r).length:Int)>1) then _ else _)=_;rw[ahK (by simp only[ahL];omega),ahS,kX,ahE,qq];unfold ur;cases mN (x::y::r)
  ·exact abC N (y::r) n (by simp at h⊢;omega) (by simp at a⊢;omega)
  ·rfl
def sV(N n:Nat)(v i:Nat)(acc:Bs)(f:i<=63)(d:acc.length<=1000):eY N (n+1) ((v:Int),(i:Int),acc)=eY N n ((v:Int),(i:Int)-8,acc++[UInt8.ofNat (v / 2 ^ i % 256)]):=by
 have e:vL .i64 (v:Int) (i:Int)=((v / 2 ^ i:Nat):Int):=by
  show(v:Int).fdiv (2 ^ min ((i:Int)).toNat 64)=_;rw[aiL,show min i 64=i from by omega,akq _ (by exact Int.le_of_lt (Int.pow_pos (by decide)))];simp
 have b:aX .i64 (i:Int) 8=(i:Int)-8:=pZ (by omega);show(bif decide ((i:Int)>=0) then(bif decide (0<=(i:Int)) then(toB (IntKind.wrap .u8 (vL .i64 (v:Int) (i:Int)))).bind (λa=>(app 1 acc [a]).bind λc=>eY N n ((v:Int),aX .i64 (i:Int) 8,c)) else none) else some acc)=_;rw[ahK (show 0<=(i:Int) by omega),ahS,ahS,e,nC,ahE,fY (by omega) (by simp only[ahL,ah1];omega),ahE,b]
def B7(v:Nat):Bs:=[UInt8.ofNat (v / 2 ^ 56 % 256),UInt8.ofNat (v / 2 ^ 48 % 256),UInt8.ofNat (v / 2 ^ 40 % 256),UInt8.ofNat (v / 2 ^ 32 % 256),UInt8.ofNat (v / 2 ^ 24 % 256),UInt8.ofNat (v / 2 ^ 16 % 256),UInt8.ofNat (v / 2 ^ 8 % 256),UInt8.ofNat (v / 2 ^ 0 % 256)]
def ac4(n:Nat):(UInt8.ofNat (n % 256)).toNat=n % 256:=by rw[aje];omega
def ae3(v:Nat)(h:v<2147483648):Sd (B7 v)=(v:Int):=by
 show beI (sgn _) _=_;unfold beI sgn;simp only[als,List.foldl_nil,ac4];rw[ahY (by omega)];omega
def pn(v:Nat):Bs:=ur (B7 v)
def ac5(v:Nat):mN (pn v)=true:=Se _ (by simp[B7])
def ae4(v:Nat)(h:v<2147483648):Sd (pn v)=(v:Int):=by unfold pn;rw[T9,ae3 v h]
def KJ(v:Nat):(pn v).length<=8:=OQ (B7 v)
def aaE{N:Nat}(b:FN N)(v:Nat):iT N (v:Int)=some (pn v):=by
 unfold FN at b;obtain⟨n,c⟩:∃n,N=n+9:=⟨N-9,by omega⟩;have a:eY N N ((v:Int),56,[])=some (B7 v):=by
  rw[show eY N N=eY N (n+9) from by rw[<-c]];rw[show(56:Int)=((56:Nat):Int) from rfl,sV N (n+8) v 56 [] (by omega) (by simp),show((56:Nat):Int)-8=((48:Nat):Int) from rfl,sV N (n+7) v 48 _ (by omega) (by simp),show((48:Nat):Int)-8=((40:Nat):Int) from rfl,sV N (n+6) v 40 _ (by omega) (by simp),show((40:Nat):Int)-8=((32:Nat):Int) from rfl,sV N (n+5) v 32 _ (by omega) (by simp),show((32:Nat):Int)-8=((24:Nat):Int) from rfl,sV N (n+4) v 24 _ (by omega) (by simp),show((24:Nat):Int)-8=((16:Nat):Int) from rfl,sV N (n+3) v 16 _ (by omega) (by simp),show((16:Nat):Int)-8=((8:Nat):Int) from rfl,sV N (n+2) v 8 _ (by omega) (by simp),show((8:Nat):Int)-8=((0:Nat):Int) from rfl,sV N (n+1) v 0 _ (by omega) (by simp)];rfl
 unfold iT syv;rw[a,ahE,show decide ((((B7 v).length:Nat):Int)>1)=true from rfl,ahS,kX,ahE];unfold pn;show(bif !mN (B7 v) then(slc (B7 v) 1 ((B7 v).length:Int)).bind _ else _)=_;unfold B7;rw[qq];unfold ur;cases mN _
 ·rw[aj7,ahS,ahE,abC N _ N (by simp;omega) (by simp)];rfl
 ·rfl
end Go.Fw
