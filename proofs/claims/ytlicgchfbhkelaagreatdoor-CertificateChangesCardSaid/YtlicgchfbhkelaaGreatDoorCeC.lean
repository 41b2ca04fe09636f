/- The closure of what leads where, reckoned over a table. -/
import GoSem.ClaimFollow
import Derived.KernelRfl
set_option linter.defProp false
namespace Go.Fw
open Go
def RS(K:List (List Nat)):Nat->List Nat->Nat->List Nat->List Nat
 |0,_,_,seen=>seen.reverse
 |n+1,l,m,seen=>match l with
  |[]=>seen.reverse
  |f::todo=>match Nat.beq (Nat.land (Nat.shiftRight m f) 1) 1 with
   |true=>RS K n todo m seen
   |false=>RS K n ((K[f]?).getD []++todo) (Nat.lor m (Nat.shiftLeft 1 f)) (f::seen)
def aet{P:Program}{K:List (List Nat)}(o:P.funcs.toList.map P.leadsTo=K):∀(n:Nat)(a:List Nat)(m:Nat)(seen:List Nat),(∀g,m.testBit g=seen.contains g)->P.closureVia n a seen=RS K n a m seen:=by
 have q:∀g:Nat,(P.funcs[g]?).elim [] P.leadsTo=(K[g]?).getD []:=by
  intro g;subst o;rw[List.getElem?_map,Array.getElem?_toList];cases P.funcs[g]? <;>rfl
 have p:∀m f:Nat,Nat.beq (Nat.land (Nat.shiftRight m f) 1) 1=m.testBit f:=by
  intro m f;have:Nat.land (Nat.shiftRight m f) 1=(m>>>f)&&& 1:=rfl;rw[this,Nat.and_one_is_mod,Nat.testBit_eq_decide_div_mod_eq,Nat.shiftRight_eq_div_pow];rw[Bool.eq_iff_iff];simp[Nat.beq_eq]
 intro n;induction n with
 |zero=>intro a m seen h;cases a<;>rfl
 |succ n d=>
  intro a m seen h;cases a with
  |nil=>rfl
  |cons f a=>
   simp only[Program.closureVia,RS,p,h f];cases r:seen.contains f with
   |true=>simp only[if_true];exact d _ _ _ h
   |false=>
    simp only[Bool.false_eq_true,if_false];rw[q];refine d _ _ _ λg=> ?_;have e:Nat.lor m (Nat.shiftLeft 1 f)=m|||(1<<<f):=rfl
    rw[e,Nat.testBit_or,h g,Nat.testBit_shiftLeft,List.contains_cons];by_cases b:g=f
    ·subst b;simp
    ·have i:(g==f)=false:=by simpa using b
     rw[i];have j:(decide (g>=f)&&Nat.testBit 1 (g-f))=false:=by
      by_cases l:g>=f
      ·obtain⟨k,c⟩:∃k,g-f=k+1:=⟨g-f-1,by omega⟩;rw[c,Nat.testBit_succ];simp
      ·simp[l]
     rw[j];simp
def closure_of{P:Program}{K:List (List Nat)}{f:FuncId}{N:Nat}{L:List Nat}(a:P.funcs.toList.map P.leadsTo=K)(c:1+(K.map λl=>l.length+1).sum=N)(b:RS K N [f] 0 []=L):P.closure f=L:=by
 unfold Program.closure;have e:(P.funcs.toList.map λg=>(P.leadsTo g).length+1).sum=(K.map λl=>l.length+1).sum:=by
  subst a;rw[List.map_map];rfl
 rw[e,c,aet a N [f] 0 [] (λg=>by simp),b]
def inPlace_of{P:Program}{f:FuncId}{L:List Nat}(h:P.closure f=L):P.inPlace f=P.inPlaceOf L:=by
 unfold Program.inPlace Program.inPlaceOf;rw[h]
def varsNamed_of{P:Program}{f:FuncId}{L:List Nat}(h:P.closure f=L):P.varsNamed f=P.varsOf L:=by
 unfold Program.varsNamed Program.varsOf;rw[h]
end Go.Fw
