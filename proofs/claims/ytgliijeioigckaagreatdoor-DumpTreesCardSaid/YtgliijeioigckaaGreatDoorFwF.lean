/- A framework for proofs about Go programs in this model: part F. Everything is proved; no condition is added. -/
import Derived.Test.YtgliijeioigckaaGreatDoorFwE
set_option linter.unusedVariables false
set_option linter.unusedSimpArgs false
namespace Go.Fw
open Go.RowKit
inductive Node where
 |mk (cls num:Int) (cons:Bool) (content:List UInt8) (kids:List Node)
 deriving Inhabited
def Node.cls:Node→Int| .mk c _ _ _ _=>c
def Node.num:Node→Int| .mk _ m _ _ _=>m
def Node.cons:Node→Bool| .mk _ _ k _ _=>k
def Node.body:Node→List UInt8| .mk _ _ _ b _=>b
def Node.kids:Node→List Node| .mk _ _ _ _ ks=>ks
inductive Spot where
 |mk (at' stop:Int) (nd:Node) (kids:List Spot)
 deriving Inhabited
def Spot.at' :Spot→Int| .mk a _ _ _=>a
def Spot.stop:Spot→Int| .mk _ e _ _=>e
def Spot.nd:Spot→Node| .mk _ _ n _=>n
def Spot.kids:Spot→List Spot| .mk _ _ _ ks=>ks
inductive TC where
 |byte|int (k:IntKind)|bool|str|sl (t:TC)|pair (a b:TC)|unit|node|spot
 deriving DecidableEq,Inhabited
@[reducible] def TC.Den:TC→Type
  | .byte=>UInt8
  | .int _=>Int
  | .bool=>Bool
  | .str=>List UInt8
  | .sl t=>List t.Den
  | .pair a b=>a.Den×b.Den
  | .unit=>Unit
  | .node=>Node
  | .spot=>Spot
def bytesD(b:List UInt8):D:= .list (flatE byteE b) b.length false
mutual
def nodeCells:Node→List D
 | .mk c n k b ks=>[.int .i64 c,.int .i64 n,.bool k,bytesD b,.list (nodesFlat ks) ks.length false]
def nodesFlat:List Node→List D
 |[]=>[]
 |n::ns=>nodeCells n++nodesFlat ns
end
theorem pureL_app{a b:List D}(h1:pureL a=true) (h2:pureL b=true):pureL (a++b)=true:=by rw[pureL_append,h1,h2];rfl
mutual
theorem nodeCells_pure:∀n,pureL (nodeCells n)=true
 | .mk c n k b ks=>by simp[nodeCells,pureL,D.pure,bytesD,flat_pure,nodesFlat_pure ks]
theorem nodesFlat_pure:∀ns,pureL (nodesFlat ns)=true
 |[]=>rfl
 |n::ns=>by simp only[nodesFlat];exact pureL_app (nodeCells_pure n) (nodesFlat_pure ns)
end
mutual
def spotCells:Spot→List D
 | .mk a e (.mk c n k b ks) ss=>[.int .i64 a,.int .i64 e,.int .i64 c,.int .i64 n,.bool k,bytesD b,.list (nodesFlat ks) ks.length false,.list (spotsFlat ss) ss.length false]
def spotsFlat:List Spot→List D
 |[]=>[]
 |n::ns=>spotCells n++spotsFlat ns
end
mutual
theorem spotCells_pure:∀n,pureL (spotCells n)=true
 | .mk a e (.mk c n k b ks) ss=>by simp[spotCells,pureL,D.pure,bytesD,flat_pure,nodesFlat_pure ks,spotsFlat_pure ss]
theorem spotsFlat_pure:∀ns,pureL (spotsFlat ns)=true
 |[]=>rfl
 |n::ns=>by simp only[spotsFlat];exact pureL_app (spotCells_pure n) (spotsFlat_pure ns)
end
def spotE:Enc Spot:=⟨8,spotCells,spotsFlat,rfl,fun _ _=>rfl,fun n=>by cases n with|mk a e n ss=>cases n;rfl,spotCells_pure,fun n=>by cases n with|mk a e n ss=>cases n;rfl⟩
def nodeE:Enc Node:=⟨5,nodeCells,nodesFlat,rfl,fun _ _=>rfl,fun n=>by cases n;rfl,nodeCells_pure,fun n=>by cases n;rfl⟩
def unitE:Enc Unit:=mkE 0 (fun _=>[]) (fun _=>rfl) (fun _=>rfl) (fun _=>rfl)
def pairE{α β:Type}(A:Enc α) (B:Enc β):Enc (α×β):=mkE (A.sz+B.sz) (fun x=>A.cells x.1++B.cells x.2) (fun x=>by simp[A.len,B.len]) (fun x=>pureL_app (A.pure _) (B.pure _)) (fun x=>by simp only[List.all_append,A.cell,B.cell,Bool.and_self])
def intEk(k:IntKind):Enc Int:=mkE 1 (fun n=>[.int k n]) (fun _=>rfl) (fun _=>rfl) (fun _=>rfl)
def strEk:Enc (List UInt8):=mkE 1 (fun s=>[.str s]) (fun _=>rfl) (fun _=>rfl) (fun _=>rfl)
def TC.enc:(t:TC)→Enc t.Den
 | .byte=>byteE
 | .int k=>intEk k
 | .bool=>boolE
 | .str=>strEk
 | .sl t=>listE t.enc
 | .pair a b=>pairE a.enc b.enc
 | .unit=>unitE
 | .node=>nodeE
 | .spot=>spotE
abbrev TC.flat(t:TC) (xs:List t.Den):List D:=flatE t.enc xs
abbrev TC.sz(t:TC):Nat:=t.enc.sz
abbrev TC.cells(t:TC) (x:t.Den):List D:=t.enc.cells x
inductive SV where
 |int (k:IntKind) (n:Int)
 |bool (b:Bool)
 |str (s:List UInt8)
 |sl (t:TC) (xs:List t.Den) (full:Bool)
 |nils
 |lst (cs:List SV) (n:Nat) (full:Bool)
 |agg (cs:List SV)
 |tup (cs:List SV)
 |func (fn:Fn) (a b:List SV)
 |iface (t:TypeId) (v:SV)
 |own (l g:Nat)
 |ap (l g:Nat) (i:Int) (o:Nat)
 |rp (t:TC) (x:t.Den) (o:Nat)
 |rc (cs:List SV) (o:Nat)
 |raw (d:D)
 deriving Inhabited
inductive SObj where
 |cells (cs:List SV) (fz:Bool)
 |arr (t:TC) (xs:List t.Den) (fz:Bool) (g:Nat)
 |raw (o:AObj)
 |it (s:List UInt8) (pos:Int)
 |smap (ks:List (List UInt8))
 |junk
 deriving Inhabited
abbrev SEnv:=List (Nat×SV)
abbrev SSto:=List SObj
def OwnR(S:SSto) (σ:Sto) (l g:Nat) (d:D):Prop:=
 l<S.length∧∀t xs fz g',S[l]? =some (.arr t xs fz g')→g≤g'∧(g=g'→∃fr u,σ[l]? =some (.cells (t.flat xs) fr u)∧d= .sl l u 0 xs.length t.sz false)
def ApR(S:SSto) (σ:Sto) (l g:Nat) (i:Int) (o:Nat) (d:D):Prop:=
 l<S.length∧∀t xs fz g',S[l]? =some (.arr t xs fz g')→g≤g'∧(g=g'→∃fr u,σ[l]? =some (.cells (t.flat xs) fr u)∧d= .ptr l u (i.toNat*t.sz+o))
mutual
def VR(S:SSto) (σ:Sto):SV→D→Prop
 | .int k n,d=>d= .int k n
 | .bool b,d=>d= .bool b
 | .str s,d=>d= .str s
 | .sl t xs f,d=>∃f',d= .list (t.flat xs) xs.length f'∧(f=true→f' =true)
 | .nils,d=>d= .list [] 0 true
 | .lst cs n f,d=>∃ds f',d= .list ds n f'∧(f=true→f' =true)∧VRs S σ cs ds
 | .agg cs,d=>∃ds,d= .agg ds∧VRs S σ cs ds
 | .tup cs,d=>∃ds,d= .tuple ds∧VRs S σ cs ds
 | .func fn a b,d=>∃da db,d= .func fn da db∧VRs S σ a da∧VRs S σ b db
 | .iface t v,d=>∃e,d= .iface t e∧VR S σ v e
 | .own l g,d=>OwnR S σ l g d
 | .ap l g i o,d=>ApR S σ l g i o d
 | .rp t x o,d=>∃hd tl,d= .rptr (hd++t.cells x++tl) (hd.length+o)
 | .rc cs o,d=>∃ds,d= .rptr ds o∧VRs S σ cs ds
 | .raw e,d=>d=e
def VRs(S:SSto) (σ:Sto):List SV→List D→Prop
 |[],ds=>ds=[]
 |v::vs,ds=>∃e es,ds=e::es∧VR S σ v e∧VRs S σ vs es
end
structure Pres (S:SSto) (σ:Sto) (S' :SSto) (σ' :Sto):Prop where
 own:∀l g d,OwnR S σ l g d→OwnR S' σ' l g d
 ap:∀l g i o d,ApR S σ l g i o d→ApR S' σ' l g i o d
theorem Pres.refl(S:SSto) (σ:Sto):Pres S σ S σ:=⟨fun _ _ _ h=>h,fun _ _ _ _ _ h=>h⟩
theorem Pres.trans{S S' S'' :SSto}{σ σ' σ'' :Sto}(h:Pres S σ S' σ') (k:Pres S' σ' S'' σ''):Pres S σ S'' σ'' :=
 ⟨fun l g d x=>k.own l g d (h.own l g d x),fun l g i o d x=>k.ap l g i o d (h.ap l g i o d x)⟩
mutual
theorem VR.pres{S S' :SSto}{σ σ' :Sto}(h:Pres S σ S' σ'):∀(v:SV) (d:D),VR S σ v d→VR S' σ' v d
 | .int _ _,_,x=>by simpa only[VR] using x
 | .bool _,_,x=>by simpa only[VR] using x
 | .str _,_,x=>by simpa only[VR] using x
 | .sl _ _ _,_,x=>by simpa only[VR] using x
 | .nils,_,x=>by simpa only[VR] using x
 | .lst cs _ _,_,x=>by
   simp only[VR]at x⊢
   obtain⟨ds,f',e,hf,hv⟩:=x
   exact⟨ds,f',e,hf,VRs.pres h cs ds hv⟩
 | .agg cs,_,x=>by
   simp only[VR]at x⊢
   obtain⟨ds,e,hv⟩:=x
   exact⟨ds,e,VRs.pres h cs ds hv⟩
 | .tup cs,_,x=>by
   simp only[VR]at x⊢
   obtain⟨ds,e,hv⟩:=x
   exact⟨ds,e,VRs.pres h cs ds hv⟩
 | .func _ a b,_,x=>by
   simp only[VR]at x⊢
   obtain⟨da,db,e,h1,h2⟩:=x
   exact⟨da,db,e,VRs.pres h a da h1,VRs.pres h b db h2⟩
 | .iface _ v,_,x=>by
   simp only[VR]at x⊢
   obtain⟨e,h1,h2⟩:=x
   exact⟨e,h1,VR.pres h v e h2⟩
 | .own _ _,_,x=>by simp only[VR]at x⊢;exact h.own _ _ _ x
 | .ap _ _ _ _,_,x=>by simp only[VR]at x⊢;exact h.ap _ _ _ _ _ x
 | .rp _ _ _,_,x=>by simpa only[VR] using x
 | .rc cs _,_,x=>by
   simp only[VR]at x⊢
   obtain⟨ds,e,hv⟩:=x
   exact⟨ds,e,VRs.pres h cs ds hv⟩
 | .raw _,_,x=>by simpa only[VR] using x
theorem VRs.pres{S S' :SSto}{σ σ' :Sto}(h:Pres S σ S' σ'):∀(vs:List SV) (ds:List D),VRs S σ vs ds→VRs S' σ' vs ds
 |[],_,x=>by simpa only[VRs] using x
 |v::vs,_,x=>by
  simp only[VRs]at x⊢
  obtain⟨e,es,h1,h2,h3⟩:=x
  exact⟨e,es,h1,VR.pres h v e h2,VRs.pres h vs es h3⟩
end
mutual
def SV.pure:SV→Bool
 | .lst cs _ _=>SV.pures cs
 | .agg cs=>SV.pures cs
 | .tup cs=>SV.pures cs
 | .func _ a b=>SV.pures a&&SV.pures b
 | .iface _ v=>v.pure
 | .own _ _=>false
 | .ap _ _ _ _=>false
 | .rp _ _ _=>false
 | .rc cs _=>SV.pures cs
 | .raw d=>d.pure
 |_=>true
def SV.pures:List SV→Bool
 |[]=>true
 |v::vs=>v.pure&&SV.pures vs
end
theorem TC.flat_pure(t:TC) (xs:List t.Den):pureL (t.flat xs)=true:=Go.Fw.flat_pure _ _
mutual
theorem VR.pure{S S' :SSto}{σ σ' :Sto}:∀(v:SV) (d:D),v.pure=true→VR S σ v d→VR S' σ' v d∧d.pure=true
 | .int _ _,_,_,x=>by simp only[VR]at x⊢;subst x;exact⟨rfl,rfl⟩
 | .bool _,_,_,x=>by simp only[VR]at x⊢;subst x;exact⟨rfl,rfl⟩
 | .str _,_,_,x=>by simp only[VR]at x⊢;subst x;exact⟨rfl,rfl⟩
 | .sl t xs _,_,_,x=>by simp only[VR]at x⊢;obtain⟨f',rfl,h⟩:=x;exact⟨⟨f',rfl,h⟩,t.flat_pure xs⟩
 | .nils,_,_,x=>by simp only[VR]at x⊢;subst x;exact⟨rfl,rfl⟩
 | .lst cs _ _,_,p,x=>by
   simp only[VR]at x⊢
   obtain⟨ds,f',rfl,hf,hv⟩:=x
   obtain⟨h1,h2⟩:=VRs.pure cs ds p hv
   exact⟨⟨ds,f',rfl,hf,h1⟩,h2⟩
 | .agg cs,_,p,x=>by
   simp only[VR]at x⊢
   obtain⟨ds,rfl,hv⟩:=x
   obtain⟨h1,h2⟩:=VRs.pure cs ds p hv
   exact⟨⟨ds,rfl,h1⟩,h2⟩
 | .tup cs,_,p,x=>by
   simp only[VR]at x⊢
   obtain⟨ds,rfl,hv⟩:=x
   obtain⟨h1,h2⟩:=VRs.pure cs ds p hv
   exact⟨⟨ds,rfl,h1⟩,h2⟩
 | .func _ a b,_,p,x=>by
   simp only[VR]at x⊢
   simp only[SV.pure,Bool.and_eq_true]at p
   obtain⟨da,db,rfl,h1,h2⟩:=x
   obtain⟨a1,a2⟩:=VRs.pure a da p.1 h1
   obtain⟨b1,b2⟩:=VRs.pure b db p.2 h2
   exact⟨⟨da,db,rfl,a1,b1⟩,by simp[D.pure,a2,b2]⟩
 | .iface _ v,_,p,x=>by
   simp only[VR]at x⊢
   obtain⟨e,rfl,h2⟩:=x
   obtain⟨a1,a2⟩:=VR.pure v e p h2
   exact⟨⟨e,rfl,a1⟩,a2⟩
 | .own _ _,_,p,_=>by cases p
 | .ap _ _ _ _,_,p,_=>by cases p
 | .rp t y o,_,p,_=>by cases p
 | .rc cs _,_,p,x=>by
   simp only[VR]at x⊢
   obtain⟨ds,rfl,hv⟩:=x
   obtain⟨h1,h2⟩:=VRs.pure cs ds p hv
   exact⟨⟨ds,rfl,h1⟩,h2⟩
 | .raw e,_,p,x=>by simp only[VR]at x⊢;subst x;exact⟨rfl,p⟩
theorem VRs.pure{S S' :SSto}{σ σ' :Sto}:∀(vs:List SV) (ds:List D),SV.pures vs=true→VRs S σ vs ds→VRs S' σ' vs ds∧pureL ds=true
 |[],_,_,x=>by simp only[VRs]at x⊢;subst x;exact⟨rfl,rfl⟩
 |v::vs,_,p,x=>by
  simp only[VRs]at x⊢
  simp only[SV.pures,Bool.and_eq_true]at p
  obtain⟨e,es,rfl,h2,h3⟩:=x
  obtain⟨a1,a2⟩:=VR.pure v e p.1 h2
  obtain⟨b1,b2⟩:=VRs.pure vs es p.2 h3
  exact⟨⟨e,es,rfl,a1,b1⟩,by simp[pureL,a2,b2]⟩
end
theorem OwnR.mk{S:SSto}{σ:Sto}{l g:Nat}{d:D}{t:TC}{xs:List t.Den}{fz:Bool}{fr u:Nat}(h1:S[l]? =some (.arr t xs fz g)) (h2:σ[l]? =some (.cells (t.flat xs) fr u)) (h3:d= .sl l u 0 xs.length t.sz false):OwnR S σ l g d:=
 ⟨lt_of_getElem? h1,fun t' xs' fz' g' h=>by rw[h1]at h;cases h;exact⟨Nat.le_refl _,fun _=>⟨fr,u,h2,h3⟩⟩⟩
theorem ApR.mk{S:SSto}{σ:Sto}{l g o:Nat}{i:Int}{d:D}{t:TC}{xs:List t.Den}{fz:Bool}{fr u:Nat}(h1:S[l]? =some (.arr t xs fz g)) (h2:σ[l]? =some (.cells (t.flat xs) fr u)) (h3:d= .ptr l u (i.toNat*t.sz+o)):ApR S σ l g i o d:=
 ⟨lt_of_getElem? h1,fun t' xs' fz' g' h=>by rw[h1]at h;cases h;exact⟨Nat.le_refl _,fun _=>⟨fr,u,h2,h3⟩⟩⟩
mutual
def D.lo(m:Nat):D→Bool
 | .ptr l _ _=>Nat.blt l m
 | .sl l _ _ _ _ _=>Nat.blt l m
 | .map l=>Nat.blt l m
 | .rptr cs _=>D.los m cs
 | .list cs _ _=>D.los m cs
 | .cmap a b=>D.los m a&&D.los m b
 | .pmap a b=>D.los m a&&D.los m b
 | .func _ a b=>D.los m a&&D.los m b
 | .iface _ v=>D.lo m v
 | .agg cs=>D.los m cs
 | .tuple cs=>D.los m cs
 |_=>true
def D.los(m:Nat):List D→Bool
 |[]=>true
 |d::ds=>D.lo m d&&D.los m ds
end
def AObj.lo(m:Nat):AObj→Bool
 | .cells cs _ _=>D.los m cs
 | .map a b=>D.los m a&&D.los m b
 | .miter a b _ _=>D.los m a&&D.los m b
 |_=>true
def ObR(S:SSto) (σ:Sto):SObj→AObj→Prop
 | .cells cs fz,ob=>∃ds fr,ob= .cells ds fr 0∧(fz=false→fr=0)∧VRs S σ cs ds
 | .arr t xs fz _,ob=>∃fr u,ob= .cells (t.flat xs) fr u∧(fz=false→fr=0)
 | .raw a,ob=>ob=a
 | .it s p,ob=>ob= .siter s p.toNat
 | .smap ks,ob=>ob= .map (ks.map .str) (ks.map fun _=> .bool true)
 | .junk,ob=>ob.lo 0=true
structure StR (S:SSto) (σ:Sto):Prop where
 len:S.length=σ.length
 obj:∀(l:Nat) (o:SObj),S[l]? =some o→∃a,σ[l]? =some a∧ObR S σ o a
def sget:SEnv→Nat→Option SV
 |[],_=>none
 |(i,v)::r,t=>match Nat.beq i t with
  |true=>some v
  |false=>sget r t
def ER(S:SSto) (σ:Sto) (τ:SEnv) (τ' :Env):Prop:=∀t v,sget τ t=some v→∃d,get τ' t=some d∧VR S σ v d
theorem ER.pres{S S' :SSto}{σ σ' :Sto}{τ:SEnv}{τ' :Env}(h:Pres S σ S' σ') (x:ER S σ τ τ'):ER S' σ' τ τ' :=
 fun t v hv=>by obtain⟨d,h1,h2⟩:=x t v hv;exact⟨d,h1,VR.pres h v d h2⟩
theorem sget_cons{τ:SEnv}{i t:Nat}{v:SV}:sget ((i,v)::τ) t=if i=t then some v else sget τ t:=by
 simp only[sget]
 split
 ·rename_i h;rw[if_pos (nbeq h)]
 ·rename_i h;rw[if_neg (fun e=>by subst e;rw[Nat.beq_refl]at h;cases h)]
theorem ER.push{S:SSto}{σ:Sto}{τ:SEnv}{τ' :Env}{t:Nat}{v:SV}{d:D}(x:ER S σ τ τ') (h:VR S σ v d):ER S σ ((t,v)::τ) ((t,d)::τ'):=by
 intro t' v' hv
 rw[sget_cons]at hv
 simp only[get]
 by_cases e:t=t'
 ·rw[if_pos e]at hv⊢;cases hv;exact⟨d,rfl,h⟩
 ·rw[if_neg e]at hv⊢;exact x t' v' hv
def TC.scells:(t:TC)→t.Den→List SV
 | .byte,b=>[.int .u8 b.toNat]
 | .int k,n=>[.int k n]
 | .bool,b=>[.bool b]
 | .str,s=>[.str s]
 | .sl t,xs=>[.sl t xs false]
 | .pair a b,x=>a.scells x.1++b.scells x.2
 | .unit,_=>[]
 | .node,n=>[.int .i64 n.cls,.int .i64 n.num,.bool n.cons,.sl .byte n.body false,.sl .node n.kids false]
 | .spot,s=>[.int .i64 s.at',.int .i64 s.stop,.int .i64 s.nd.cls,.int .i64 s.nd.num,.bool s.nd.cons,.sl .byte s.nd.body false,.sl .node s.nd.kids false,.sl .spot s.kids false]
theorem VRs.append{S:SSto}{σ:Sto}:∀{a b:List SV}{da db:List D},VRs S σ a da→VRs S σ b db→VRs S σ (a++b) (da++db)
 |[],_,_,_,h,k=>by simp only[VRs]at h;subst h;exact k
 |v::a,b,_,db,h,k=>by
  simp only[VRs]at h
  obtain⟨e,es,rfl,h1,h2⟩:=h
  simp only[List.cons_append,VRs]
  exact⟨e,es++db,rfl,h1,VRs.append h2 k⟩
theorem TC.scells_ok(S:SSto) (σ:Sto):∀(t:TC) (x:t.Den),VRs S σ (t.scells x) (t.cells x)
 | .byte,b=>by simp only[TC.scells,VRs,VR];exact⟨_,_,rfl,rfl,rfl⟩
 | .int k,n=>by simp only[TC.scells,VRs,VR];exact⟨_,_,rfl,rfl,rfl⟩
 | .bool,b=>by simp only[TC.scells,VRs,VR];exact⟨_,_,rfl,rfl,rfl⟩
 | .str,s=>by simp only[TC.scells,VRs,VR];exact⟨_,_,rfl,rfl,rfl⟩
 | .sl t,xs=>by simp only[TC.scells,VRs,VR];exact⟨_,_,rfl,⟨false,rfl,fun h=>by cases h⟩,rfl⟩
 | .pair a b,x=>VRs.append (TC.scells_ok S σ a x.1) (TC.scells_ok S σ b x.2)
 | .unit,_=>by simp only[TC.scells,VRs];rfl
 | .node,.mk c m k b ks=>by
   simp only[TC.scells,VRs,VR]
   exact⟨_,_,rfl,rfl,_,_,rfl,rfl,_,_,rfl,rfl,_,_,rfl,⟨false,rfl,fun h=>by cases h⟩,_,_,rfl,⟨false,rfl,fun h=>by cases h⟩,rfl⟩
 | .spot,.mk a e (.mk c m k b ks) ss=>by
   simp only[TC.scells,VRs,VR]
   exact⟨_,_,rfl,rfl,_,_,rfl,rfl,_,_,rfl,rfl,_,_,rfl,rfl,_,_,rfl,rfl,_,_,rfl,⟨false,rfl,fun h=>by cases h⟩,_,_,rfl,⟨false,rfl,fun h=>by cases h⟩,_,_,rfl,⟨false,rfl,fun h=>by cases h⟩,rfl⟩
def asList(t:TC):SV→Option (List t.Den)
 | .sl u xs _=>match decEq u t with
   |isTrue h=>some (h▸xs)
   |isFalse _=>none
 | .nils=>some []
 |_=>none
theorem asList_ok{S:SSto}{σ:Sto}{t:TC}{v:SV}{xs:List t.Den}{d:D}(h:asList t v=some xs) (hv:VR S σ v d):∃f,d= .list (t.flat xs) xs.length f:=by
 unfold asList at h
 split at h
 ·split at h<;>try (cases h;done)
  rename_i e _
  subst e
  cases h
  simp only[VR]at hv
  obtain⟨f',rfl,_⟩:=hv
  exact⟨f',rfl⟩
 ·cases h
  simp only[VR]at hv
  subst hv
  refine⟨true,?_⟩
  show D.list [] 0 true= .list (flatE t.enc []) 0 true
  rw[flatE_nil]
 ·cases h
def TC.take{α:Type}:(t:TC)→List SV→(t.Den→List SV→Option α)→Option α
 | .byte,cs,K=>match cs with
   | .int .u8 n::r=>(toB n).bind fun b=>K b r
   |_=>none
 | .int k,cs,K=>match cs with
   | .int k' n::r=>match decEq k' k with
     |isTrue _=>K n r
     |isFalse _=>none
   |_=>none
 | .bool,cs,K=>match cs with
   | .bool b::r=>K b r
   |_=>none
 | .str,cs,K=>match cs with
   | .str s::r=>K s r
   |_=>none
 | .sl t,cs,K=>match cs with
   |v::r=>match asList t v with
    |some xs=>K xs r
    |none=>none
   |_=>none
 | .pair a b,cs,K=>a.take cs fun x r=>b.take r fun y r' =>K (x,y) r'
 | .unit,cs,K=>K () cs
 | .node,cs,K=>match cs with
   | .int .i64 c:: .int .i64 m:: .bool k::v::w::r=>match asList .byte v,asList .node w with
     |some b,some ks=>K (.mk c m k b ks) r
     |_,_=>none
   |_=>none
 | .spot,cs,K=>match cs with
   | .int .i64 a:: .int .i64 e:: .int .i64 c:: .int .i64 m:: .bool k::v::w::u::r=>match asList .byte v,asList .node w,asList .spot u with
     |some b,some ks,some ss=>K (.mk a e (.mk c m k b ks) ss) r
     |_,_,_=>none
   |_=>none
theorem Weaks.refl:∀ds:List D,Weaks ds ds
 |[]=>rfl
 |d::ds=>⟨Weak.refl d,Weaks.refl ds⟩
theorem Weaks.append:∀{a b c d:List D},Weaks a b→Weaks c d→Weaks (a++c) (b++d)
 |[],b,c,d,h,k=>by
  have h:b=[]:=h
  subst h;exact k
 |x::a,[],_,_,h,_=>h.elim
 |x::a,y::b,c,d,h,k=>⟨h.1,Weaks.append h.2 k⟩
theorem TC.take_ok{α:Type}{S:SSto}{σ:Sto}:∀(t:TC) (cs:List SV) (ds:List D) (K:t.Den→List SV→Option α) (r:α),t.take cs K=some r→VRs S σ cs ds→
 ∃x cs' d1 d2,K x cs' =some r∧ds=d1++d2∧Weaks d1 (t.cells x)∧VRs S σ cs' d2
 | .byte,cs,ds,K,r,h,hv=>by
   simp only[TC.take]at h
   split at h<;>try (cases h;done)
   obtain⟨b,hb,h⟩:=bind_inv h
   simp only[VRs,VR]at hv
   obtain⟨e,es,rfl,rfl,h3⟩:=hv
   exact⟨b,_,[_],es,h,rfl,by rw[toB_inv hb];exact Weaks.refl _,h3⟩
 | .int k,cs,ds,K,r,h,hv=>by
   simp only[TC.take]at h
   split at h<;>try (cases h;done)
   split at h<;>try (cases h;done)
   rename_i e _
   subst e
   simp only[VRs,VR]at hv
   obtain⟨e,es,rfl,rfl,h3⟩:=hv
   exact⟨_,_,[_],es,h,rfl,Weaks.refl _,h3⟩
 | .bool,cs,ds,K,r,h,hv=>by
   simp only[TC.take]at h
   split at h<;>try (cases h;done)
   simp only[VRs,VR]at hv
   obtain⟨e,es,rfl,rfl,h3⟩:=hv
   exact⟨_,_,[_],es,h,rfl,Weaks.refl _,h3⟩
 | .str,cs,ds,K,r,h,hv=>by
   simp only[TC.take]at h
   split at h<;>try (cases h;done)
   simp only[VRs,VR]at hv
   obtain⟨e,es,rfl,rfl,h3⟩:=hv
   exact⟨_,_,[_],es,h,rfl,Weaks.refl _,h3⟩
 | .sl t,cs,ds,K,r,h,hv=>by
   simp only[TC.take]at h
   split at h<;>try (cases h;done)
   split at h<;>try (cases h;done)
   rename_i xs hx
   simp only[VRs]at hv
   obtain⟨e,es,rfl,h2,h3⟩:=hv
   obtain⟨f,rfl⟩:=asList_ok hx h2
   exact⟨xs,_,[_],es,h,rfl,⟨Weak.list,rfl⟩,h3⟩
 | .pair a b,cs,ds,K,r,h,hv=>by
   simp only[TC.take]at h
   obtain⟨x,cs1,d1,d2,h1,rfl,w1,v1⟩:=TC.take_ok a cs ds _ r h hv
   obtain⟨y,cs2,d3,d4,h2,rfl,w2,v2⟩:=TC.take_ok b cs1 d2 _ r h1 v1
   exact⟨(x,y),cs2,d1++d3,d4,h2,by simp,Weaks.append w1 w2,v2⟩
 | .unit,cs,ds,K,r,h,hv=>⟨(),cs,[],ds,h,rfl,rfl,hv⟩
 | .node,cs,ds,K,r,h,hv=>by
   simp only[TC.take]at h
   split at h<;>try (cases h;done)
   split at h<;>try (cases h;done)
   rename_i b ks hb hk
   simp only[VRs,VR]at hv
   obtain⟨e1,r1,rfl,rfl,e2,r2,rfl,rfl,e3,r3,rfl,rfl,e4,r4,rfl,h4,e5,r5,rfl,h5,h6⟩:=hv
   obtain⟨f,rfl⟩:=asList_ok hb h4
   obtain⟨f',rfl⟩:=asList_ok hk h5
   exact⟨_,_,[_,_,_,_,_],r5,h,rfl,⟨Weak.refl _,Weak.refl _,Weak.refl _,Weak.list,Weak.list,rfl⟩,h6⟩
 | .spot,cs,ds,K,r,h,hv=>by
   simp only[TC.take]at h
   split at h<;>try (cases h;done)
   split at h<;>try (cases h;done)
   rename_i b ks ss hb hk hs
   simp only[VRs,VR]at hv
   obtain⟨e1,r1,rfl,rfl,e2,r2,rfl,rfl,e3,r3,rfl,rfl,e4,r4,rfl,rfl,e5,r5,rfl,rfl,e6,r6,rfl,h6,e7,r7,rfl,h7,e8,r8,rfl,h8,h9⟩:=hv
   obtain⟨f,rfl⟩:=asList_ok hb h6
   obtain⟨f',rfl⟩:=asList_ok hk h7
   obtain⟨f'',rfl⟩:=asList_ok hs h8
   exact⟨_,_,[_,_,_,_,_,_,_,_],r8,h,rfl,⟨Weak.refl _,Weak.refl _,Weak.refl _,Weak.refl _,Weak.refl _,Weak.list,Weak.list,Weak.list,rfl⟩,h9⟩
end Go.Fw
namespace Go.Fw
open Go.RowKit
def isNilL(cs:List D) (n:Nat) (f:Bool):Bool:=cs.isEmpty&&Nat.beq n 0&&f
mutual
def ofD:D→SV
 | .int k n=> .int k n
 | .bool b=> .bool b
 | .str s=> .str s
 | .list cs n f=>match isNilL cs n f with
   |true=> .nils
   |false=> .lst (ofDs cs) n f
 | .agg cs=> .agg (ofDs cs)
 | .tuple cs=> .tup (ofDs cs)
 | .func fn a b=> .func fn (ofDs a) (ofDs b)
 | .iface t v=> .iface t (ofD v)
 | .rptr cs o=> .rc (ofDs cs) o
 |d=> .raw d
def ofDs:List D→List SV
 |[]=>[]
 |d::ds=>ofD d::ofDs ds
end
mutual
theorem ofD_ok(S:SSto) (σ:Sto):∀d,VR S σ (ofD d) d
 | .int _ _=>by simp[ofD,VR]
 | .bool _=>by simp[ofD,VR]
 | .str _=>by simp[ofD,VR]
 | .list cs n f=>by
   simp only[ofD]
   split
   ·rename_i h
    simp only[isNilL,Bool.and_eq_true,List.isEmpty_iff]at h
    simp only[VR]
    rw[h.1.1,nbeq h.1.2,h.2]
   ·simp only[VR];exact⟨cs,f,rfl,id,ofDs_ok S σ cs⟩
 | .agg cs=>by simp only[ofD,VR];exact⟨cs,rfl,ofDs_ok S σ cs⟩
 | .tuple cs=>by simp only[ofD,VR];exact⟨cs,rfl,ofDs_ok S σ cs⟩
 | .func _ a b=>by simp only[ofD,VR];exact⟨a,b,rfl,ofDs_ok S σ a,ofDs_ok S σ b⟩
 | .iface _ v=>by simp only[ofD,VR];exact⟨v,rfl,ofD_ok S σ v⟩
 | .rptr cs _=>by simp only[ofD,VR];exact⟨cs,rfl,ofDs_ok S σ cs⟩
 | .nilp=>by simp[ofD,VR]
 | .ptr _ _ _=>by simp[ofD,VR]
 | .sl _ _ _ _ _ _=>by simp[ofD,VR]
 | .map _=>by simp[ofD,VR]
 | .nilmap=>by simp[ofD,VR]
 | .cmap _ _=>by simp[ofD,VR]
 | .pmap _ _=>by simp[ofD,VR]
 | .nilf=>by simp[ofD,VR]
 | .nili=>by simp[ofD,VR]
 | .anyi=>by simp[ofD,VR]
 | .junk=>by simp[ofD,VR]
theorem ofDs_ok(S:SSto) (σ:Sto):∀ds,VRs S σ (ofDs ds) ds
 |[]=>by simp[ofDs,VRs]
 |d::ds=>by simp only[ofDs,VRs];exact⟨d,ds,rfl,ofD_ok S σ d,ofDs_ok S σ ds⟩
end
def sev(τ:SEnv):Operand→Option SV
 | .tmp t=>sget τ t
 | .const v=>match constD v with
   |some d=>some (ofD d)
   |none=>none
 | .func f=>some (.func (.func f) [] [])
 | .global _=>none
def sevs(τ:SEnv):List Operand→Option (List SV)
 |[]=>some []
 |x::xs=>match sev τ x with
  |some d=>match sevs τ xs with
   |some ds=>some (d::ds)
   |none=>none
  |none=>none
def sevp(τ:SEnv):List (Nat×Operand)→Option (List (Nat×SV))
 |[]=>some []
 |(i,x)::xs=>match sev τ x with
  |some d=>match sevp τ xs with
   |some ds=>some ((i,d)::ds)
   |none=>none
  |none=>none
section
variable {S:SSto}{σ:Sto}{τ:SEnv}{τ' :Env}
theorem sev_ok(h:ER S σ τ τ') {x:Operand}{v:SV}(hx:sev τ x=some v):∃d,ev τ' x=some d∧VR S σ v d:=by
 cases x<;>simp only[sev]at hx
 case tmp=>exact h _ _ hx
 case const=>
  split at hx<;>try (cases hx;done)
  rename_i d hd
  cases hx
  exact⟨d,hd,ofD_ok S σ d⟩
 case func=>cases hx;exact⟨_,rfl,by simp only[VR,VRs];exact⟨[],[],rfl,rfl,rfl⟩⟩
 case global=>cases hx
theorem sevs_ok(h:ER S σ τ τ'):∀{xs:List Operand}{vs:List SV},sevs τ xs=some vs→∃ds,evs τ' xs=some ds∧VRs S σ vs ds
 |[],_,hx=>by simp only[sevs,Option.some.injEq]at hx;subst hx;exact⟨[],rfl,by simp only[VRs]⟩
 |x::xs,_,hx=>by
  simp only[sevs]at hx
  split at hx<;>try (cases hx;done)
  rename_i v hv
  split at hx<;>try (cases hx;done)
  rename_i vs hvs
  cases hx
  obtain⟨d,h1,h2⟩:=sev_ok h hv
  obtain⟨ds,h3,h4⟩:=sevs_ok h hvs
  exact⟨d::ds,by simp only[evs,h1,h3],by simp only[VRs];exact⟨d,ds,rfl,h2,h4⟩⟩
def VRp(S:SSto) (σ:Sto):List (Nat×SV)→List (Nat×D)→Prop
 |[],ds=>ds=[]
 |(i,v)::vs,ds=>∃e es,ds=(i,e)::es∧VR S σ v e∧VRp S σ vs es
theorem sevp_ok(h:ER S σ τ τ'):∀{xs:List (Nat×Operand)}{vs:List (Nat×SV)},sevp τ xs=some vs→∃ds,evp τ' xs=some ds∧VRp S σ vs ds
 |[],_,hx=>by simp only[sevp,Option.some.injEq]at hx;subst hx;exact⟨[],rfl,by simp only[VRp]⟩
 |(i,x)::xs,_,hx=>by
  simp only[sevp]at hx
  split at hx<;>try (cases hx;done)
  rename_i v hv
  split at hx<;>try (cases hx;done)
  rename_i vs hvs
  cases hx
  obtain⟨d,h1,h2⟩:=sev_ok h hv
  obtain⟨ds,h3,h4⟩:=sevp_ok h hvs
  exact⟨(i,d)::ds,by simp only[evp,h1,h3],by simp only[VRp];exact⟨d,ds,rfl,h2,h4⟩⟩
end
theorem VRs.length{S:SSto}{σ:Sto}:∀{cs:List SV}{ds:List D},VRs S σ cs ds→ds.length=cs.length
 |[],_,h=>by simp only[VRs]at h;subst h;rfl
 |v::cs,_,h=>by
  simp only[VRs]at h
  obtain⟨e,es,rfl,_,h2⟩:=h
  simp[VRs.length h2]
theorem VRs.drop{S:SSto}{σ:Sto}:∀(n:Nat) {cs:List SV}{ds:List D},VRs S σ cs ds→VRs S σ (cs.drop n) (ds.drop n)
 |0,_,_,h=>by simpa using h
 |n+1,[],_,h=>by simp only[VRs]at h;subst h;simp[VRs]
 |n+1,v::cs,_,h=>by
  simp only[VRs]at h
  obtain⟨e,es,rfl,_,h2⟩:=h
  simpa using VRs.drop n h2
theorem VRs.take{S:SSto}{σ:Sto}:∀(n:Nat) {cs:List SV}{ds:List D},VRs S σ cs ds→VRs S σ (cs.take n) (ds.take n)
 |0,_,_,_=>by simp[VRs]
 |n+1,[],_,h=>by simp only[VRs]at h;subst h;simp[VRs]
 |n+1,v::cs,_,h=>by
  simp only[VRs]at h
  obtain⟨e,es,rfl,h1,h2⟩:=h
  simp only[List.take_succ_cons,VRs]
  exact⟨e,es.take n,rfl,h1,VRs.take n h2⟩
theorem VRs.get{S:SSto}{σ:Sto}:∀{cs:List SV}{ds:List D}{i:Nat}{v:SV},VRs S σ cs ds→cs[i]? =some v→∃d,ds[i]? =some d∧VR S σ v d
 |[],_,_,_,_,h=>by simp at h
 |v::cs,_,0,_,h,hv=>by
  simp only[VRs]at h
  obtain⟨e,es,rfl,h1,h2⟩:=h
  simp at hv;subst hv
  exact⟨e,by simp,h1⟩
 |v::cs,_,i+1,_,h,hv=>by
  simp only[VRs]at h
  obtain⟨e,es,rfl,h1,h2⟩:=h
  obtain⟨d,k1,k2⟩:=VRs.get h2 (by simpa using hv)
  exact⟨d,by simpa using k1,k2⟩
def isCur(S:SSto) (l g:Nat):Bool:=match S[l]? with
 |some (.arr _ _ _ g')=>Nat.beq g g'
 |_=>false
def svCells(S:SSto):SV→Option (List SV)
 | .agg cs=>some cs
 | .tup _=>none
 | .raw d=>match d.isCell with
   |true=>some [.raw d]
   |false=>none
 | .own l g=>match isCur S l g with
   |true=>some [.own l g]
   |false=>none
 | .ap l g i o=>match isCur S l g with
   |true=>some [.ap l g i o]
   |false=>none
 |v=>some [v]
theorem isCur_own{S:SSto}{σ:Sto}{l g:Nat}{d:D}(h:isCur S l g=true) (hv:OwnR S σ l g d):∃t xs fz fr u,S[l]? =some (.arr t xs fz g)∧σ[l]? =some (.cells (t.flat xs) fr u)∧d= .sl l u 0 xs.length t.sz false:=by
 unfold isCur at h
 split at h<;>try (cases h;done)
 rename_i t xs fz g' h1
 have:=nbeq h
 subst this
 obtain⟨fr,u,h4,h5⟩:=(hv.2 t xs fz g h1).2 rfl
 exact⟨t,xs,fz,fr,u,h1,h4,h5⟩
theorem isCur_ap{S:SSto}{σ:Sto}{l g o:Nat}{i:Int}{d:D}(h:isCur S l g=true) (hv:ApR S σ l g i o d):∃t xs fz fr u,S[l]? =some (.arr t xs fz g)∧σ[l]? =some (.cells (t.flat xs) fr u)∧d= .ptr l u (i.toNat*t.sz+o):=by
 unfold isCur at h
 split at h<;>try (cases h;done)
 rename_i t xs fz g' h1
 have:=nbeq h
 subst this
 obtain⟨fr,u,h4,h5⟩:=(hv.2 t xs fz g h1).2 rfl
 exact⟨t,xs,fz,fr,u,h1,h4,h5⟩
theorem svCells_ok{S:SSto}{σ:Sto}{v:SV}{cs:List SV}{d:D}(h:svCells S v=some cs) (hv:VR S σ v d):∃ds,d.cells? =some ds∧VRs S σ cs ds:=by
 have one:∀{v:SV}{d:D},VR S σ v d→VRs S σ [v] [d]:=fun hv=>by simp only[VRs];exact⟨_,_,rfl,hv,rfl⟩
 cases v<;>simp only[svCells]at h<;>try (cases h;done)
 case agg=>cases h;simp only[VR]at hv;obtain⟨ds,rfl,hv⟩:=hv;exact⟨ds,rfl,hv⟩
 case raw e=>
  split at h<;>try (cases h;done)
  rename_i hc
  cases h
  have hv0:=hv
  simp only[VR]at hv
  subst hv
  exact⟨[d],by cases d<;>simp_all[D.isCell,D.cells?],one hv0⟩
 case own l g=>
  split at h<;>try (cases h;done)
  rename_i hc
  cases h
  have hv0:=hv
  simp only[VR]at hv
  obtain⟨t,xs,fz,fr,u,_,_,rfl⟩:=isCur_own hc hv
  exact⟨_,rfl,one hv0⟩
 case ap l g i o=>
  split at h<;>try (cases h;done)
  rename_i hc
  cases h
  have hv0:=hv
  simp only[VR]at hv
  obtain⟨t,xs,fz,fr,u,_,_,rfl⟩:=isCur_ap hc hv
  exact⟨_,rfl,one hv0⟩
 all_goals
  cases h
  have hv0:=hv
  simp only[VR]at hv
  first
   |(subst hv;exact⟨_,rfl,one hv0⟩)
   |(obtain⟨_,rfl,_⟩:=hv;exact⟨_,rfl,one hv0⟩)
   |(obtain⟨_,_,rfl,_⟩:=hv;exact⟨_,rfl,one hv0⟩)
   |(obtain⟨_,_,rfl⟩:=hv;exact⟨_,rfl,one hv0⟩)
def sfill(S:SSto) (place:Nat→Option (Nat×Nat)):List SV→List (Nat×SV)→Option (List SV)
 |cells,[]=>some cells
 |cells,(i,v)::rest=>match place i with
  |some (off,n)=>match svCells S v with
   |some cs=>match Nat.beq cs.length n&&Nat.ble (off+n) cells.length with
    |true=>sfill S place (cells.take off++cs++cells.drop (off+n)) rest
    |false=>none
   |none=>none
  |none=>none
theorem sfill_ok{S:SSto}{σ:Sto}{place:Nat→Option (Nat×Nat)}:∀{ps:List (Nat×SV)}{cells out:List SV}{ds:List D}{pd:List (Nat×D)},sfill S place cells ps=some out→VRs S σ cells ds→VRp S σ ps pd→
 ∃do',fillD place ds pd=some do'∧VRs S σ out do'
 |[],cells,out,ds,pd,h,hv,hp=>by
  simp only[VRp]at hp
  subst hp
  simp only[sfill,Option.some.injEq]at h
  subst h
  exact⟨ds,rfl,hv⟩
 |(i,v)::rest,cells,out,ds,pd,h,hv,hp=>by
  simp only[VRp]at hp
  obtain⟨e,es,rfl,h1,h2⟩:=hp
  simp only[sfill]at h
  split at h<;>try (cases h;done)
  rename_i off n hpl
  split at h<;>try (cases h;done)
  rename_i cs hcs
  split at h<;>try (cases h;done)
  rename_i hc
  simp only[Bool.and_eq_true]at hc
  obtain⟨es',k1,k2⟩:=svCells_ok hcs h1
  have l1:=k2.length
  have l2:=hv.length
  have e1:cs.length=n:=nbeq hc.1
  have e2:off+n≤cells.length:=Nat.le_of_ble_eq_true hc.2
  obtain⟨do',m1,m2⟩:=sfill_ok h (((hv.take off).append k2).append (hv.drop (off+n))) h2
  refine⟨do',?_,m2⟩
  simp only[fillD,hpl,k1]
  rw[if_pos ⟨by omega,by omega⟩]
  exact m1
def ROk{α:Type}(T:Tys) (S:SSto) (σ:Sto) (τ' :Env) (op:Op) (fp:List Nat) (K:SV→Option α) (r:α):Prop:=
 ∃v d0 d,K v=some r∧VR S σ v d∧Weak d0 d∧∀s:Sto,(∀l ∈ fp,s[l]? =σ[l]?)→aop T τ' s op=some (d0,s)
theorem cond_inv{α:Type}{b:Bool}{x y:Option α}{r:α}(h:cond b x y=some r):(b=true∧x=some r)∨(b=false∧y=some r):=by
 cases b
 ·exact .inr ⟨rfl,h⟩
 ·exact .inl ⟨rfl,h⟩
section
variable {α:Type}{T:Tys}{S:SSto}{σ:Sto}{τ:SEnv}{τ' :Env}{K:SV→Option α}{r:α}
def withV(τ:SEnv) (x:Operand) (K:SV→Option α):Option α:=match sev τ x with
 |some v=>K v
 |none=>none
theorem withV_inv{x:Operand}(h:withV τ x K=some r):∃v,sev τ x=some v∧K v=some r:=by
 unfold withV at h
 split at h
 ·exact⟨_,by assumption,h⟩
 ·cases h
theorem vr_int{k:IntKind}{n:Int}:VR S σ (.int k n) (.int k n):=by simp only[VR]
theorem vr_bool{b:Bool}:VR S σ (.bool b) (.bool b):=by simp only[VR]
theorem vr_str{b:List UInt8}:VR S σ (.str b) (.str b):=by simp only[VR]
def wadd(k:IntKind) (a b:Int):Int:=k.wrap (a+b)
def wsub(k:IntKind) (a b:Int):Int:=k.wrap (a-b)
def wmul(k:IntKind) (a b:Int):Int:=k.wrap (a*b)
def wquo(k:IntKind) (a b:Int):Int:=k.wrap (a.tdiv b)
def wshl(k:IntKind) (a b:Int):Int:=k.wrap (a*2 ^ min b.toNat k.bits)
def wshr(k:IntKind) (a b:Int):Int:=a.fdiv (2 ^ min b.toNat k.bits)
def sInt(op:BinOp) (k k' :IntKind) (a b:Int) (K:SV→Option α):Option α:=
 match op with
 | .shl=>cond (decide (0≤b)) (K (.int k (wshl k a b))) none
 | .shr=>cond (decide (0≤b)) (K (.int k (wshr k a b))) none
 |op=>match decEq k k' with
  |isFalse _=>none
  |isTrue _=>match op with
   | .add=>K (.int k (wadd k a b))
   | .sub=>K (.int k (wsub k a b))
   | .mul=>K (.int k (wmul k a b))
   | .quo=>cond (b==0) none (K (.int k (wquo k a b)))
   | .rem=>cond (b==0) none (K (.int k (a.tmod b)))
   | .and=>K (.int k (bits .and k a b))
   | .or=>K (.int k (bits .or k a b))
   | .xor=>K (.int k (bits .xor k a b))
   | .andNot=>K (.int k (bits .andNot k a b))
   | .eql=>K (.bool (a==b))
   | .neq=>K (.bool (a !=b))
   | .lss=>K (.bool (decide (a<b)))
   | .leq=>K (.bool (decide (a≤b)))
   | .gtr=>K (.bool (decide (a>b)))
   | .geq=>K (.bool (decide (a≥b)))
   |_=>none
theorem sInt_ok{op:BinOp}{k k' :IntKind}{a b:Int}(h:sInt op k k' a b K=some r):∃v d,K v=some r∧VR S σ v d∧intD op k k' a b=some d:=by
 unfold sInt at h
 split at h
 ·rcases cond_inv h with⟨hb,h⟩|⟨_,h⟩
  ·exact⟨_,_,h,vr_int,by simp only[intD,of_decide_eq_true hb,if_true];rfl⟩
  ·cases h
 ·rcases cond_inv h with⟨hb,h⟩|⟨_,h⟩
  ·exact⟨_,_,h,vr_int,by simp only[intD,of_decide_eq_true hb,if_true];rfl⟩
  ·cases h
 ·split at h<;>try (cases h;done)
  rename_i hk _
  subst hk
  split at h
  case h_4=>
   rcases cond_inv h with⟨_,h⟩|⟨hb,h⟩
   ·cases h
   ·exact⟨_,_,h,vr_int,by simp at hb;simp[intD,hb];rfl⟩
  case h_5=>
   rcases cond_inv h with⟨_,h⟩|⟨hb,h⟩
   ·cases h
   ·exact⟨_,_,h,vr_int,by simp at hb;simp[intD,hb]⟩
  all_goals first
   |(cases h;done)
   |exact⟨_,_,h,vr_int,by simp only[intD,if_true];rfl⟩
   |exact⟨_,_,h,vr_int,by simp only[intD,if_true]⟩
   |exact⟨_,_,h,vr_bool,by simp only[intD,if_true]⟩
def sStr(op:BinOp) (a b:List UInt8) (K:SV→Option α):Option α:=
 match op with
 | .add=>(cat a b).bind fun c=>K (.str c)
 | .eql=>K (.bool (a==b))
 | .neq=>K (.bool (!(a==b)))
 | .lss=>K (.bool (Op.bytesLess a b))
 | .leq=>K (.bool (Op.bytesLess a b||a==b))
 | .gtr=>K (.bool (!(Op.bytesLess a b||a==b)))
 | .geq=>K (.bool (!Op.bytesLess a b))
 |_=>none
theorem sStr_ok{op:BinOp}{a b:List UInt8}(h:sStr op a b K=some r):∃v d,K v=some r∧VR S σ v d∧strD op a b=some d:=by
 unfold sStr at h
 split at h
 ·obtain⟨c,hc,h⟩:=bind_inv h
  refine⟨_,_,h,vr_str,?_⟩
  unfold cat at hc
  split at hc<;>try (cases hc;done)
  rename_i hl
  cases hc
  simp[strD,hl]
 all_goals first
  |(cases h;done)
  |exact⟨_,_,h,vr_bool,by simp only[strD]⟩
inductive NK where
 |nilp|ptr|nili|ifc|nilf|fn|other
def svK:SV→NK
 | .raw .nilp=> .nilp
 | .raw (.ptr _ _ _)=> .ptr
 | .raw .nili=> .nili
 | .raw .anyi=> .ifc
 | .raw .nilf=> .nilf
 | .rp _ _ _=> .ptr
 | .rc _ _=> .ptr
 | .iface _ _=> .ifc
 | .func _ _ _=> .fn
 |_=> .other
def sNil(ek:EK) (cst:Bool) (x y:NK):Option Bool:=
 match ek with
 | .ptr=>match x,y with
   | .nilp,.nilp=>some true
   | .nilp,.ptr=>some false
   | .ptr,.nilp=>some false
   |_,_=>none
 | .iface=>match x,y with
   | .nili,.nili=>match cst with
     |true=>some true
     |false=>none
   | .nili,.ifc=>some false
   | .ifc,.nili=>some false
   |_,_=>none
 | .func=>match x,y with
   | .nilf,.nilf=>some true
   | .nilf,.fn=>some false
   | .fn,.nilf=>some false
   |_,_=>none
 |_=>none
theorem svK_ok{v:SV}{d:D}(hv:VR S σ v d):match svK v with
 | .nilp=>d= .nilp
 | .ptr=>(∃l u o,d= .ptr l u o)∨∃cs o,d= .rptr cs o
 | .nili=>d= .nili
 | .ifc=>(∃t e,d= .iface t e)∨d= .anyi
 | .nilf=>d= .nilf
 | .fn=>∃f a b,d= .func f a b
 | .other=>True:=by
 cases v
 case raw e=>
  simp only[VR]at hv
  subst hv
  cases d<;>simp[svK]
 case rp=>simp only[VR]at hv;obtain⟨_,_,rfl⟩:=hv;exact .inr ⟨_,_,rfl⟩
 case rc=>simp only[VR]at hv;obtain⟨_,rfl,_⟩:=hv;exact .inr ⟨_,_,rfl⟩
 case iface=>simp only[VR]at hv;obtain⟨_,rfl,_⟩:=hv;exact .inl ⟨_,_,rfl⟩
 case func=>simp only[VR]at hv;obtain⟨_,_,rfl,_⟩:=hv;exact⟨_,_,_,rfl⟩
 all_goals trivial
theorem sNil_ok{ek:EK}{cst b:Bool}{v w:SV}{d e:D}(h:sNil ek cst (svK v) (svK w)=some b) (hv:VR S σ v d) (hw:VR S σ w e):
 eqD cst ek d e=some b∧(∀op,binD (some ek) op cst d e=match op with| .eql=>(eqD cst ek d e).map .bool| .neq=>(eqD cst ek d e).map fun r=> .bool (!r)|_=>none):=by
 have h1:=svK_ok hv
 have h2:=svK_ok hw
 unfold sNil at h
 split at h<;>(try (cases h;done))<;>split at h<;>try (cases h;done)
 all_goals
  rename_i e1 e2
  rw[e1]at h1
  rw[e2]at h2
  simp only at h1 h2
 all_goals first
  |(cases h;subst h1 h2;exact⟨rfl,fun op=>by cases op<;>rfl⟩)
  |(cases h;subst h1;rcases h2 with⟨_,_,_,rfl⟩|⟨_,_,rfl⟩<;>exact⟨rfl,fun op=>by cases op<;>rfl⟩)
  |(cases h;subst h2;rcases h1 with⟨_,_,_,rfl⟩|⟨_,_,rfl⟩<;>exact⟨rfl,fun op=>by cases op<;>rfl⟩)
  |(cases h;subst h1;rcases h2 with⟨_,_,rfl⟩|rfl<;>exact⟨rfl,fun op=>by cases op<;>rfl⟩)
  |(cases h;subst h2;rcases h1 with⟨_,_,rfl⟩|rfl<;>exact⟨rfl,fun op=>by cases op<;>rfl⟩)
  |(cases h;subst h1;obtain⟨_,_,_,rfl⟩:=h2;exact⟨rfl,fun op=>by cases op<;>rfl⟩)
  |(cases h;subst h2;obtain⟨_,_,_,rfl⟩:=h1;exact⟨rfl,fun op=>by cases op<;>rfl⟩)
  |(subst h1 h2;cases cst<;>simp only at h<;>cases h;exact⟨rfl,fun op=>by cases op<;>rfl⟩)
def scellEq:LK→SV→SV→Option Bool
 | .b,.bool a,.bool b=>some (a==b)
 | .i,.int k a,.int k' b=>match decEq k k' with
   |isTrue _=>some (a==b)
   |isFalse _=>none
 | .s,.str a,.str b=>some (a==b)
 |_,_,_=>none
def sAllEq:List LK→List SV→List SV→Option Bool
 |[],[],[]=>some true
 |[k],[a],[b]=>scellEq k a b
 |k::ks,a::as,b::bs=>match scellEq k a b,sAllEq ks as bs with
  |some r,some s=>some (r&&s)
  |_,_=>none
 |_,_,_=>none
theorem scellEq_ok{k:LK}{v w:SV}{d e:D}{b:Bool}(h:scellEq k v w=some b) (hv:VR S σ v d) (hw:VR S σ w e):cellEq k d e=some b:=by
 unfold scellEq at h
 split at h<;>try (cases h;done)
 ·simp only[VR]at hv hw;subst hv hw;exact h
 ·split at h<;>try (cases h;done)
  rename_i hk _
  subst hk
  simp only[VR]at hv hw;subst hv hw
  simpa[cellEq] using h
 ·simp only[VR]at hv hw;subst hv hw;exact h
theorem sAllEq_ok:∀(ks:List LK) {as bs:List SV}{ds es:List D}{b:Bool},sAllEq ks as bs=some b→VRs S σ as ds→VRs S σ bs es→allEq ks ds es=some b∧ds.length=ks.length∧es.length=ks.length
 |[],as,bs,ds,es,b,h,hv,hw=>by
  unfold sAllEq at h
  split at h<;>simp_all[VRs,allEq]
 |[k],as,bs,ds,es,b,h,hv,hw=>by
  match as,bs,h with
  |[x],[y],h=>
   simp only[sAllEq]at h
   simp only[VRs]at hv hw
   obtain⟨d,_,rfl,h1,rfl⟩:=hv
   obtain⟨e,_,rfl,h2,rfl⟩:=hw
   have:=scellEq_ok h h1 h2
   simp[allEq,this]
  |[],[],h=>simp[sAllEq]at h
  |[],_::_,h=>simp[sAllEq]at h
  |_::_,[],h=>simp[sAllEq]at h
  |_::_::_,[_],h=>simp[sAllEq]at h
  |[_],_::_::_,h=>simp[sAllEq]at h
  |_::_::_,_::_::_,h=>simp[sAllEq]at h
 |k::k2::ks,as,bs,ds,es,b,h,hv,hw=>by
  match as,bs,h with
  |x::as,y::bs,h=>
   simp only[sAllEq]at h
   split at h<;>try (cases h;done)
   rename_i r s hr hs
   cases h
   simp only[VRs]at hv hw
   obtain⟨d,ds',rfl,h1,h1'⟩:=hv
   obtain⟨e,es',rfl,h2,h2'⟩:=hw
   obtain⟨i1,i2,i3⟩:=sAllEq_ok (k2::ks) hs h1' h2'
   have:=scellEq_ok hr h1 h2
   refine⟨?_,by simp[i2],by simp[i3]⟩
   simp only[allEq,this]
   rw[i1]
  |[],[],h=>simp[sAllEq]at h
  |[],_::_,h=>simp[sAllEq]at h
  |_::_,[],h=>simp[sAllEq]at h
def eqF(op:BinOp) (b:Bool) (K:SV→Option α):Option α:=match op with
 | .eql=>K (.bool b)
 | .neq=>K (.bool (!b))
 |_=>none
def sNilF(ek? :Option EK) (op:BinOp) (cst:Bool) (x y:SV) (K:SV→Option α):Option α:=
 match ek? with
 |some ek=>match sNil ek cst (svK x) (svK y) with
  |some b=>eqF op b K
  |none=>none
 |none=>none
def sBin(ek? :Option EK) (op:BinOp) (cst:Bool) (x y:SV) (K:SV→Option α):Option α:=
 match x with
 | .int k a=>match y with
   | .int k' b=>sInt op k k' a b K
   |_=>none
 | .str a=>match y with
   | .str b=>sStr op a b K
   |_=>none
 | .bool a=>match y,ek? with
   | .bool b,some .bool=>eqF op (a==b) K
   |_,_=>none
 | .agg cs=>match y,ek? with
   | .agg ds,some (.flat ks)=>match sAllEq ks cs ds with
     |some b=>eqF op b K
     |none=>none
   |_,_=>none
 |x=>sNilF ek? op cst x y K
theorem eqF_inv{op:BinOp}{b:Bool}(h:eqF op b K=some r):(op= .eql∧K (.bool b)=some r)∨(op= .neq∧K (.bool (!b))=some r):=by
 unfold eqF at h
 split at h
 ·exact .inl ⟨rfl,h⟩
 ·exact .inr ⟨rfl,h⟩
 ·cases h
theorem sNilF_ok{ek? :Option EK}{op:BinOp}{cst:Bool}{x y:SV}{d e:D}(h:sNilF ek? op cst x y K=some r) (hx:VR S σ x d) (hy:VR S σ y e):∃v d',K v=some r∧VR S σ v d'∧binD ek? op cst d e=some d' :=by
 unfold sNilF at h
 split at h<;>try (cases h;done)
 split at h<;>try (cases h;done)
 rename_i b hb
 obtain⟨h1,h2⟩:=sNil_ok hb hx hy
 rcases eqF_inv h with⟨rfl,h⟩|⟨rfl,h⟩
 ·exact⟨_,_,h,vr_bool,by rw[h2,h1];rfl⟩
 ·exact⟨_,_,h,vr_bool,by rw[h2,h1];rfl⟩
theorem sBin_ok{ek? :Option EK}{op:BinOp}{cst:Bool}{x y:SV}{d e:D}(h:sBin ek? op cst x y K=some r) (hx:VR S σ x d) (hy:VR S σ y e):∃v d',K v=some r∧VR S σ v d'∧binD ek? op cst d e=some d' :=by
 unfold sBin at h
 split at h
 ·split at h<;>try (cases h;done)
  simp only[VR]at hx hy
  subst hx hy
  exact sInt_ok h
 ·split at h<;>try (cases h;done)
  simp only[VR]at hx hy
  subst hx hy
  exact sStr_ok h
 ·split at h<;>try (cases h;done)
  simp only[VR]at hx hy
  subst hx hy
  rcases eqF_inv h with⟨rfl,h⟩|⟨rfl,h⟩
  ·exact⟨_,_,h,vr_bool,by simp[binD,eqD]⟩
  ·exact⟨_,_,h,vr_bool,by simp[binD,eqD]⟩
 ·split at h<;>try (cases h;done)
  split at h<;>try (cases h;done)
  rename_i b hb
  simp only[VR]at hx hy
  obtain⟨ds,rfl,hx⟩:=hx
  obtain⟨es,rfl,hy⟩:=hy
  obtain⟨h1,h2,h3⟩:=sAllEq_ok _ hb hx hy
  have h1:=allEq_cells _ _ _ _ h1
  rcases eqF_inv h with⟨rfl,h⟩|⟨rfl,h⟩
  ·exact⟨_,_,h,vr_bool,by simp[binD,eqD,h1,h2,h3]⟩
  ·exact⟨_,_,h,vr_bool,by simp[binD,eqD,h1,h2,h3]⟩
 ·exact sNilF_ok h hx hy
end
end Go.Fw
namespace Go.Fw
open Go.RowKit
theorem Cells.weak{G:Gh}{b:Nat}:∀{ds es:List D}{o:Nat},Weaks ds es→Cells G b o ds→Cells G b o es
 |[],es,o,h,hc=>by
  have h:es=[]:=h
  subst h;exact hc
 |d::ds,[],o,h,_=>h.elim
 |d::ds,e::es,o,h,hc=>by
  simp only[Cells]at hc⊢
  obtain⟨⟨v,h1,h2⟩,h3⟩:=hc
  exact⟨⟨v,h1,h.1 _ _ h2⟩,Cells.weak h.2 h3⟩
theorem Weaks.length:∀{ds es:List D},Weaks ds es→ds.length=es.length
 |[],es,h=>by
  have h:es=[]:=h
  subst h;rfl
 |d::ds,[],h=>h.elim
 |d::ds,e::es,h=>by simp[Weaks.length h.2]
theorem Weak.cellsList{ds es:List D}{n:Nat}{f:Bool}(h:Weaks ds es):Weak (.list ds n f) (.list es n f):=by
 intro G v hv
 simp only[Rep]at hv⊢
 obtain⟨a,cap,e,h1,h2,h3,h4⟩:=hv
 refine⟨a,cap,e,h1,h2,h3,?_⟩
 rcases h4 with⟨b,o,ha,hc⟩|rfl
 ·exact .inl ⟨b,o,ha,hc.weak h⟩
 ·have h:es=[]:=h
  exact .inr h
def TC.takes{α:Type}(t:TC):Nat→List SV→(List t.Den→List SV→Option α)→Option α
 |0,cs,K=>K [] cs
 |n+1,cs,K=>t.take cs fun x r=>t.takes n r fun xs r' =>K (x::xs) r'
theorem TC.takes_ok{α:Type}{S:SSto}{σ:Sto}(t:TC):∀(n:Nat) (cs:List SV) (ds:List D) (K:List t.Den→List SV→Option α) (r:α),t.takes n cs K=some r→VRs S σ cs ds→
 ∃xs cs' d1 d2,K xs cs' =some r∧ds=d1++d2∧Weaks d1 (t.flat xs)∧VRs S σ cs' d2∧xs.length=n
 |0,cs,ds,K,r,h,hv=>⟨[],cs,[],ds,h,rfl,by show Weaks [] (flatE _ []);rw[flatE_nil];rfl,hv,rfl⟩
 |n+1,cs,ds,K,r,h,hv=>by
  simp only[TC.takes]at h
  obtain⟨x,cs1,d1,d2,h1,rfl,w1,v1⟩:=TC.take_ok t cs ds _ r h hv
  obtain⟨xs,cs2,d3,d4,h2,rfl,w2,v2,hl⟩:=TC.takes_ok t n cs1 d2 _ r h1 v1
  refine⟨x::xs,cs2,d1++d3,d4,h2,by simp,?_,v2,by simp[hl]⟩
  show Weaks _ (flatE _ (x::xs))
  rw[flatE_cons]
  exact Weaks.append w1 w2
section
variable {α:Type}{T:Tys}{S:SSto}{σ:Sto}{τ:SEnv}{τ' :Env}{K:SV→Option α}{r:α}
def sRead(S:SSto) (v:SV) (n:Nat) (K:List SV→Option α):Option α:=
 match v with
 | .rp t x o=>match Nat.ble (o+n) (t.scells x).length with
   |true=>K (((t.scells x).drop o).take n)
   |false=>none
 | .rc cs o=>match Nat.ble (o+n) cs.length with
   |true=>K ((cs.drop o).take n)
   |false=>none
 | .raw d=>match d with
   | .ptr l u o=>match S[l]? with
     |some (.cells cs _)=>match Nat.beq u 0&&Nat.ble (o+n) cs.length with
      |true=>K ((cs.drop o).take n)
      |false=>none
     |_=>none
   |_=>none
 | .ap l g i o=>match S[l]? with
   |some (.arr t xs _ g')=>match Nat.beq g g' with
    |true=>(ix xs i).bind fun x=>match Nat.ble (o+n) (t.scells x).length with
     |true=>K (((t.scells x).drop o).take n)
     |false=>none
    |false=>none
   |_=>none
 |_=>none
def fpV:SV→List Nat
 | .raw d=>match d with
   | .ptr l _ _=>[l]
   |_=>[]
 | .ap l _ _ _=>[l]
 | .own l _=>[l]
 |_=>[]
theorem sRead_ok(hS:StR S σ) {v:SV}{n:Nat}{d:D}{K:List SV→Option α}(h:sRead S v n K=some r) (hv:VR S σ v d):
 ∃cs ds,K cs=some r∧VRs S σ cs ds∧ds.length=n∧∀s:Sto,(∀l ∈ fpV v,s[l]? =σ[l]?)→readAt s d n=some ds:=by
 unfold sRead at h
 split at h
 ·split at h<;>try (cases h;done)
  rename_i t x o _ hb
  have hb:=Nat.le_of_ble_eq_true hb
  simp only[VR]at hv
  obtain⟨hd,tl,rfl⟩:=hv
  have hc:=TC.scells_ok S σ t x
  have hl:=hc.length
  refine⟨_,((t.cells x).drop o).take n,h,(hc.drop o).take n,?_,?_⟩
  ·simp only[List.length_take,List.length_drop];omega
  ·intro s _
   simp only[readAt]
   rw[if_pos (by simp only[List.length_append];omega)]
   congr 1
   rw[List.append_assoc,List.drop_length_add_append,List.drop_append_of_le_length (by omega),List.take_append_of_le_length (by simp only[List.length_drop];omega)]
 ·split at h<;>try (cases h;done)
  rename_i cs o _ hb
  have hb:=Nat.le_of_ble_eq_true hb
  simp only[VR]at hv
  obtain⟨ds,rfl,hv⟩:=hv
  have hl:=hv.length
  refine⟨_,(ds.drop o).take n,h,(hv.drop o).take n,?_,?_⟩
  ·simp only[List.length_take,List.length_drop];omega
  ·intro s _
   simp only[readAt]
   rw[if_pos (by omega)]
 ·split at h<;>try (cases h;done)
  split at h<;>try (cases h;done)
  rename_i l u o _ cs fz hl
  split at h<;>try (cases h;done)
  rename_i hb
  simp only[Bool.and_eq_true]at hb
  have hu:=nbeq hb.1
  have hb:=Nat.le_of_ble_eq_true hb.2
  subst hu
  simp only[VR]at hv
  subst hv
  obtain⟨a,ha,ds,fr,rfl,_,hds⟩:=hS.obj _ _ hl
  have hlen:=hds.length
  refine⟨_,(ds.drop o).take n,h,(hds.drop o).take n,?_,?_⟩
  ·simp only[List.length_take,List.length_drop];omega
  ·intro s hs
   have:=hs l (by simp[fpV])
   simp only[readAt,this,ha]
   rw[if_pos ⟨trivial,by omega⟩]
 ·split at h<;>try (cases h;done)
  rename_i l g i o _ t xs fz g' hl
  split at h<;>try (cases h;done)
  rename_i hg
  have hg:=nbeq hg
  subst hg
  obtain⟨x,hx,h⟩:=bind_inv h
  split at h<;>try (cases h;done)
  rename_i hb
  have hb:=Nat.le_of_ble_eq_true hb
  simp only[VR]at hv
  obtain⟨fr,u,h4,rfl⟩:=(hv.2 _ _ _ _ hl).2 rfl
  obtain⟨_,hi,hx⟩:=ix_inv hx
  have hc:=TC.scells_ok S σ t x
  have hlen:=hc.length
  have hsz:(t.cells x).length=t.sz:=t.enc.len x
  have hg:=flatE_get (E:=t.enc) hx
  have hle:i.toNat*t.sz+t.sz≤(t.flat xs).length:=by
   rw[flatE_len,←Nat.succ_mul]
   exact Nat.mul_le_mul_right _ (by omega)
  refine⟨_,((t.cells x).drop o).take n,h,(hc.drop o).take n,?_,?_⟩
  ·simp only[List.length_take,List.length_drop];omega
  ·intro s hs
   have:=hs l (by simp[fpV])
   simp only[readAt,this,h4]
   rw[if_pos ⟨trivial,by omega⟩]
   congr 1
   show((t.flat xs).drop (i.toNat*t.sz+o)).take n=((t.enc.cells x).drop o).take n
   have hsz' :t.enc.sz=t.sz:=rfl
   rw[←hg,←List.drop_drop,List.drop_take,List.take_take]
   congr 1
   omega
 ·cases h
def sFin(b:Bool) (cs:List SV) (K:SV→Option α):Option α:=match b with
 |true=>K (.agg cs)
 |false=>match cs with
  |[v]=>K v
  |_=>none
theorem sFin_ok{b:Bool}{cs:List SV}{ds:List D}(h:sFin b cs K=some r) (hv:VRs S σ cs ds):∃v d,K v=some r∧VR S σ v d∧ldFin b ds=some d:=by
 unfold sFin at h
 split at h
 ·exact⟨_,.agg ds,h,by simp only[VR];exact⟨ds,rfl,hv⟩,rfl⟩
 ·split at h<;>try (cases h;done)
  simp only[VRs]at hv
  obtain⟨e,es,rfl,h1,rfl⟩:=hv
  exact⟨_,e,h,h1,rfl⟩
def sLoad(T:Tys) (τ:SEnv) (S:SSto) (t:TypeId) (x:Operand) (K:SV→Option α):Option α:=
 match lk T.ld t with
 |some (n,b)=>match b||Nat.beq n 1 with
  |true=>withV τ x fun v=>sRead S v n fun cs=>sFin b cs K
  |false=>none
 |none=>none
def fpO(τ:SEnv) (x:Operand):List Nat:=match sev τ x with
 |some v=>fpV v
 |none=>[]
theorem sLoad_ok(hS:StR S σ) (hE:ER S σ τ τ') {t:TypeId}{x:Operand}(h:sLoad T τ S t x K=some r):ROk T S σ τ' (.load t x) (fpO τ x) K r:=by
 unfold sLoad at h
 split at h<;>try (cases h;done)
 rename_i n b hld
 split at h<;>try (cases h;done)
 rename_i hb
 obtain⟨v,hv,h⟩:=withV_inv h
 obtain⟨d,hd,hvd⟩:=sev_ok hE hv
 obtain⟨cs,ds,h,hcs,hl,hr⟩:=sRead_ok hS h hvd
 obtain⟨v',d',h,hv',hf⟩:=sFin_ok h hcs
 refine⟨v',d',d',h,hv',Weak.refl _,fun s hs=> ?_⟩
 have hb' :b=true∨n=1:=by
  simp only[Bool.or_eq_true]at hb
  exact hb.imp id nbeq
 have hs' :∀l ∈ fpV v,s[l]? =σ[l]? :=by
  intro l hl
  refine hs l ?_
  unfold fpO
  rw[hv];exact hl
 simp only[aop,oLoad,hld,hd,if_pos hb',hr s hs',hf]
 rfl
def sBuild(T:Tys) (τ:SEnv) (S:SSto) (t:TypeId) (ps:List (Nat×Operand)) (K:SV→Option α):Option α:=
 match lk T.build t with
 |some (z,bk)=>match sevp τ ps with
  |some vs=>match sfill S bk.place (ofDs z) vs with
   |some cs=>K (.agg cs)
   |none=>none
  |none=>none
 |none=>none
theorem sBuild_ok(hE:ER S σ τ τ') {t:TypeId}{ps:Array (Nat×Operand)}(h:sBuild T τ S t ps.toList K=some r):ROk T S σ τ' (.build t ps) [] K r:=by
 unfold sBuild at h
 split at h<;>try (cases h;done)
 rename_i z bk hb
 split at h<;>try (cases h;done)
 rename_i vs hvs
 split at h<;>try (cases h;done)
 rename_i cs hcs
 obtain⟨pd,h1,h2⟩:=sevp_ok hE hvs
 obtain⟨ds,h3,h4⟩:=sfill_ok hcs (ofDs_ok S σ z) h2
 refine⟨_,.agg ds,.agg ds,h,by simp only[VR];exact⟨ds,rfl,h4⟩,Weak.refl _,fun s _=> ?_⟩
 simp only[aop,oBuild,hb,h1,h3]
 rfl
def repS(z:List SV):Nat→List SV
 |0=>[]
 |n+1=>z++repS z n
theorem repS_ok{z:List SV}{dz:List D}(h:VRs S σ z dz):∀n,VRs S σ (repS z n) (repZ dz n)
 |0=>by simp only[repS,repZ,VRs]
 |n+1=>h.append (repS_ok h n)
def sBuildSlice(T:Tys) (H:Tr TC) (τ:SEnv) (S:SSto) (t:TypeId) (len:Nat) (ps:List (Nat×Operand)) (K:SV→Option α):Option α:=
 match lk T.bs t with
 |some (z,sz)=>match sevp τ ps,Nat.ble (len*sz) 16777216 with
  |some vs,true=>match sfill S (fun i=>some (i*sz,sz)) (repS (ofDs z) len) vs with
   |some cs=>match lk H t with
    |some tc=>tc.takes len cs fun xs rest=>match rest with
     |[]=>K (.sl tc xs true)
     |_=>none
    |none=>K (.lst cs len true)
   |none=>none
  |_,_=>none
 |none=>none
theorem sBuildSlice_ok{H:Tr TC}(hE:ER S σ τ τ') {t:TypeId}{len:Nat}{ps:Array (Nat×Operand)}(h:sBuildSlice T H τ S t len ps.toList K=some r):ROk T S σ τ' (.buildSlice t len ps) [] K r:=by
 unfold sBuildSlice at h
 split at h<;>try (cases h;done)
 rename_i z sz hb
 split at h<;>try (cases h;done)
 rename_i vs hvs hle
 have hle:=Nat.le_of_ble_eq_true hle
 split at h<;>try (cases h;done)
 rename_i cs hcs
 obtain⟨pd,h1,h2⟩:=sevp_ok hE hvs
 obtain⟨ds,h3,h4⟩:=sfill_ok hcs (repS_ok (ofDs_ok S σ z) len) h2
 have ha:∀s:Sto,aop T τ' s (.buildSlice t len ps)=some (.list ds len true,s):=by
  intro s
  simp only[aop,oBuildSlice,hb,h1,if_pos hle,h3]
  rfl
 split at h
 ·rename_i tc htc
  obtain⟨xs,cs',d1,d2,h,rfl,hw,hr,hl⟩:=TC.takes_ok tc _ _ _ _ _ h h4
  split at h<;>try (cases h;done)
  simp only[VRs]at hr
  subst hr
  rw[List.append_nil]at ha
  refine⟨_,.list d1 len true,.list (tc.flat xs) xs.length true,h,by simp only[VR];exact⟨true,rfl,fun _=>rfl⟩,?_,fun s _=>ha s⟩
  rw[hl]
  exact Weak.cellsList hw
 ·exact⟨_,.list ds len true,.list ds len true,h,by simp only[VR];exact⟨ds,true,rfl,fun _=>rfl,h4⟩,Weak.refl _,fun s _=>ha s⟩
def soget(τ:SEnv):Option Operand→Option (Option Int)
 |none=>some none
 |some x=>match sev τ x with
  |some (.int _ n)=>some (some n)
  |_=>none
theorem soget_ok(hE:ER S σ τ τ') {x:Option Operand}{i:Option Int}(h:soget τ x=some i):∃d,evo τ' x=some d∧optInt d=some i:=by
 cases x with
 |none=>simp only[soget,Option.some.injEq]at h;subst h;exact⟨none,rfl,rfl⟩
 |some x=>
  simp only[soget]at h
  split at h<;>try (cases h;done)
  rename_i k n hv
  cases h
  obtain⟨d,h1,h2⟩:=sev_ok hE hv
  simp only[VR]at h2
  subst h2
  exact⟨some (.int k n),by simp only[evo,h1],rfl⟩
def isN:Option Int→Bool
 |none=>true
 |some _=>false
def sSliceL(tc:TC) (xs:List tc.Den) (f:Bool) (lo hi:Option Int) (K:SV→Option α):Option α:=
 (slc xs (oget 0 lo) (oget xs.length hi)).bind fun ys=>K (.sl tc ys (f&&isN hi))
def sSliceS(s:List UInt8) (l h:Option Int) (K:SV→Option α):Option α:=(slc s (oget 0 l) (oget s.length h)).bind fun u=>K (.str u)
def sSlice3(tc:TC) (xs:List tc.Den) (l:Option Int) (h m:Int) (K:SV→Option α):Option α:=
 cond (decide (h≤m)&&decide (m≤xs.length)) ((slc xs (oget 0 l) h).bind fun ys=>K (.sl tc ys false)) none
def sSliceV(H:Option TC) (sk:SK) (v:SV) (l h m:Option Int) (K:SV→Option α):Option α:=
 match v with
 | .str s=>match sk,m with
   | .string,none=>sSliceS s l h K
   |_,_=>none
 | .sl tc xs f=>match sk with
   | .slice sz=>cond (Nat.beq sz tc.sz) (match m,h with
     |none,h=>sSliceL tc xs f l h K
     |some m,some h=>sSlice3 tc xs l h m K
     |some _,none=>none) none
   |_=>none
 | .nils=>match sk,H,m with
   | .slice sz,some tc,none=>cond (Nat.beq sz tc.sz) (sSliceL tc [] true l h K) none
   |_,_,_=>none
 |_=>none
def sSlice(T:Tys) (H:Tr TC) (τ:SEnv) (t:TypeId) (x:Operand) (lo hi mx:Option Operand) (K:SV→Option α):Option α:=
 (lk T.sli t).bind fun sk=>withV τ x fun v=>(soget τ lo).bind fun l=>(soget τ hi).bind fun h=>(soget τ mx).bind fun m=>sSliceV (lk H t) sk v l h m K
theorem sliceL_ok{tc:TC}{xs:List tc.Den}{f f0:Bool}{lo hi:Option Int}(h:sSliceL tc xs f lo hi K=some r) (hf:f=true→f0=true):
 ∃v d,K v=some r∧VR S σ v d∧sliceD tc.sz (.list (tc.flat xs) xs.length f0) lo hi none=some d:=by
 unfold sSliceL at h
 obtain⟨ys,hs,h⟩:=bind_inv h
 obtain⟨a1,a2,a3,rfl,a5⟩:=slc_inv hs
 have hb:bnds xs.length f0 lo hi none=some ((oget 0 lo).toNat,(oget (xs.length:Int) hi).toNat,f0&&decide (oget (xs.length:Int) hi=xs.length)):=by
  simp only[bnds]
  rw[if_pos ⟨a1,a2,a3⟩]
 refine⟨_,.list (tc.flat ((xs.take (oget (xs.length:Int) hi).toNat).drop (oget 0 lo).toNat)) ((oget (xs.length:Int) hi).toNat-(oget 0 lo).toNat) (f0&&decide (oget (xs.length:Int) hi=xs.length)),h,?_,?_⟩
 ·simp only[VR]
  refine⟨_,by rw[a5],fun hx=> ?_⟩
  simp only[Bool.and_eq_true]at hx
  cases hi with
  |none=>simp[oget,hf hx.1]
  |some _=>simp[isN]at hx
 ·have hl:=flatE_len tc.enc xs
  simp only[sliceD,hb]
  rw[if_pos hl]
  have:=flatE_part tc.enc xs _ _ (show(oget 0 lo).toNat≤(oget (xs.length:Int) hi).toNat by omega)
  simp only[TC.flat,TC.sz]at this⊢
  rw[this]
def skD(sk:SK) (d:D) (l h m:Option Int):Option D:=match sk with
 | .slice sz=>sliceD sz d l h m
 | .string=>(match m with|none=>slStr d l h|some _=>none)
 | .array _ _=>none
theorem sSliceV_ok{H:Option TC}{sk:SK}{v:SV}{d:D}{l h m:Option Int}(hx:sSliceV H sk v l h m K=some r) (hv:VR S σ v d):∃v' d0 d',K v' =some r∧VR S σ v' d'∧Weak d0 d'∧skD sk d l h m=some d0:=by
 unfold sSliceV at hx
 cases v<;>simp only at hx<;>try (cases hx;done)
 case str s=>
  cases sk<;>(try (simp at hx;done))
  cases m<;>(try (simp at hx;done))
  simp only at hx
  unfold sSliceS at hx
  obtain⟨u,hs,hx⟩:=bind_inv hx
  simp only[VR]at hv
  subst hv
  obtain⟨a1,a2,a3,rfl,a5⟩:=slc_inv hs
  have hb:bnds s.length true l h none=some ((oget 0 l).toNat,(oget (s.length:Int) h).toNat,true&&decide (oget (s.length:Int) h=s.length)):=by
   simp only[bnds]
   rw[if_pos ⟨a1,a2,a3⟩]
  exact⟨_,_,_,hx,vr_str,Weak.refl _,by simp only[skD,slStr,hb]⟩
 case sl tc xs f=>
  cases sk<;>(try (simp at hx;done))
  rename_i sz
  rcases cond_inv hx with⟨hz,hx2⟩|⟨_,hx2⟩<;>try (cases hx2;done)
  clear hx
  have hx:=hx2
  have hz:=nbeq hz
  subst hz
  simp only[VR]at hv
  obtain⟨f',rfl,hf⟩:=hv
  cases m with
  |none=>
   simp only at hx
   obtain⟨v',d',hx,hv',hs⟩:=sliceL_ok (S:=S) (σ:=σ) hx hf
   exact⟨v',d',d',hx,hv',Weak.refl _,hs⟩
  |some m0=>
   cases h<;>simp only at hx<;>try (cases hx;done)
   rename_i h0
   unfold sSlice3 at hx
   rcases cond_inv hx with⟨hc,hx2⟩|⟨_,hx2⟩<;>try (cases hx2;done)
   clear hx
   have hx:=hx2
   simp only[Bool.and_eq_true,decide_eq_true_eq]at hc
   obtain⟨ys,hs,hx⟩:=bind_inv hx
   obtain⟨a1,a2,a3,rfl,a5⟩:=slc_inv hs
   have hb:bnds xs.length f' l (some h0) (some m0)=some ((oget 0 l).toNat,h0.toNat,decide (m0=h0)):=by
    simp only[bnds,oget,Option.isSome]
    rw[if_pos ⟨trivial,a1,a2,hc⟩]
    rfl
   refine⟨_,.list (tc.flat ((xs.take h0.toNat).drop (oget 0 l).toNat)) (h0.toNat-(oget 0 l).toNat) (decide (m0=h0)),.list (tc.flat ((xs.take h0.toNat).drop (oget 0 l).toNat)) ((xs.take h0.toNat).drop (oget 0 l).toNat).length false,hx,?_,?_,?_⟩
   ·simp only[VR];exact⟨false,rfl,fun hx=>by cases hx⟩
   ·rw[a5];exact Weak.list
   ·have hl:=flatE_len tc.enc xs
    have:=flatE_part tc.enc xs _ _ (show(oget 0 l).toNat≤h0.toNat by omega)
    simp only[skD,sliceD,hb]
    simp only[TC.flat,TC.sz]at this⊢
    rw[if_pos hl,this]
 case nils=>
  cases sk<;>(try (simp at hx;done))
  cases H<;>(try (simp at hx;done))
  cases m<;>(try (simp at hx;done))
  rename_i sz tc
  rcases cond_inv hx with⟨hz,hx2⟩|⟨_,hx2⟩<;>try (cases hx2;done)
  clear hx
  have hx:=hx2
  have hz:=nbeq hz
  subst hz
  simp only[VR]at hv
  subst hv
  obtain⟨v',d',hx,hv',hs⟩:=sliceL_ok (S:=S) (σ:=σ) hx (f0:=true) (fun _=>rfl)
  have e0:D.list (tc.flat []) ([]:List tc.Den).length true= .list [] 0 true:=by
   show D.list (flatE _ []) _ _=_
   rw[flatE_nil];rfl
  rw[e0]at hs
  exact⟨v',d',d',hx,hv',Weak.refl _,hs⟩
theorem oSlice_eq{t:TypeId}{x:Operand}{lo hi mx:Option Operand}{sk:SK}{d d0:D}{dl dh dm:Option D}{l h m:Option Int}(h0:lk T.sli t=some sk) (h1:ev τ' x=some d) (a1:evo τ' lo=some dl) (a2:evo τ' hi=some dh) (a3:evo τ' mx=some dm)
 (b1:optInt dl=some l) (b2:optInt dh=some h) (b3:optInt dm=some m) (hs:skD sk d l h m=some d0) (s:Sto):aop T τ' s (.slice t x lo hi mx)=some (d0,s):=by
 simp only[aop,oSlice,h0,h1,a1,a2,a3,b1,b2,b3]
 cases sk with
 |slice sz=>simp only[skD]at hs;simp only[hs];rfl
 |string=>
  cases m with
  |none=>simp only[skD]at hs;simp only[hs];rfl
  |some _=>cases hs
 |array _ _=>cases hs
theorem sSlice_ok{H:Tr TC}(hE:ER S σ τ τ') {t:TypeId}{x:Operand}{lo hi mx:Option Operand}(h:sSlice T H τ t x lo hi mx K=some r):ROk T S σ τ' (.slice t x lo hi mx) [] K r:=by
 unfold sSlice at h
 obtain⟨sk,hsk,h⟩:=bind_inv h
 obtain⟨v,hv,h⟩:=withV_inv h
 obtain⟨d,hd,hvd⟩:=sev_ok hE hv
 obtain⟨l,hl,h⟩:=bind_inv h
 obtain⟨hh,hhi,h⟩:=bind_inv h
 obtain⟨m,hm,h⟩:=bind_inv h
 obtain⟨dl,l1,l2⟩:=soget_ok hE hl
 obtain⟨dh,g1,g2⟩:=soget_ok hE hhi
 obtain⟨dm,m1,m2⟩:=soget_ok hE hm
 obtain⟨v',d0,d',h,hv',hw,hs⟩:=sSliceV_ok h hvd
 exact⟨v',d0,d',h,hv',hw,fun s _=>oSlice_eq hsk hd l1 g1 m1 l2 g2 m2 hs s⟩
def sAdd(v:SV) (n:Nat):Option SV:=match v with
 | .rp t x o=>some (.rp t x (o+n))
 | .rc cs o=>some (.rc cs (o+n))
 | .ap l g i o=>some (.ap l g i (o+n))
 | .raw d=>match d with
   | .ptr l u o=>some (.raw (.ptr l u (o+n)))
   |_=>none
 |_=>none
theorem sAdd_ok{v0 v:SV}{n:Nat}{d:D}(hcur:∀l g i o,v0= .ap l g i o→isCur S l g=true) (h:sAdd v0 n=some v) (hv:VR S σ v0 d):∃e,ptrAdd d n=some e∧VR S σ v e:=by
 cases v0<;>simp only[sAdd]at h<;>try (cases h;done)
 case rp=>cases h;simp only[VR]at hv⊢;obtain⟨hd,tl,rfl⟩:=hv;exact⟨_,rfl,hd,tl,by rw[Nat.add_assoc]⟩
 case rc=>cases h;simp only[VR]at hv⊢;obtain⟨ds,rfl,hv⟩:=hv;exact⟨_,rfl,ds,rfl,hv⟩
 case ap l g i o=>
  cases h
  have hc:=hcur _ _ _ _ rfl
  simp only[VR]at hv⊢
  obtain⟨t,xs,fz,fr,u,h1,h2,rfl⟩:=isCur_ap hc hv
  exact⟨_,rfl,.mk h1 h2 (by rw[Nat.add_assoc])⟩
 case raw e=>
  split at h<;>try (cases h;done)
  cases h
  simp only[VR]at hv⊢
  subst hv
  exact⟨_,rfl,rfl⟩
end
end Go.Fw
namespace Go.Fw
open Go.RowKit
section
variable {α:Type}{T:Tys}{S:SSto}{σ:Sto}{τ:SEnv}{τ' :Env}{K:SV→Option α}{r:α}
def apOk(S:SSto):SV→Bool
 | .ap l g _ _=>isCur S l g
 |_=>true
def sChk(S:SSto) (v:SV) (K:SV→Option α):Option α:=match v with
 | .rp t x o=>K (.rp t x o)
 | .rc cs o=>K (.rc cs o)
 | .ap l g i o=>cond (isCur S l g) (K (.ap l g i o)) none
 | .iface t v=>K (.iface t v)
 | .func fn a b=>match fn with
   | .func f=>K (.func (.func f) a b)
   |_=>none
 | .raw d=>match d with
   | .ptr l u o=>K (.raw (.ptr l u o))
   | .anyi=>K (.raw .anyi)
   |_=>none
 |_=>none
theorem sChk_ok{x:Operand}{v:SV}{d:D}(h:sChk S v K=some r) (hv:VR S σ v d) (hx:ev τ' x=some d):∃v',K v' =some r∧VR S σ v' d∧oNil τ' x=some d:=by
 cases v<;>(try (simp[sChk]at h;done))
 case rp=>have hv0:=hv;simp only[VR]at hv;obtain⟨_,_,rfl⟩:=hv;exact⟨_,h,hv0,by simp only[oNil,hx]⟩
 case rc=>have hv0:=hv;simp only[VR]at hv;obtain⟨_,rfl,_⟩:=hv;exact⟨_,h,hv0,by simp only[oNil,hx]⟩
 case iface=>have hv0:=hv;simp only[VR]at hv;obtain⟨_,rfl,_⟩:=hv;exact⟨_,h,hv0,by simp only[oNil,hx]⟩
 case ap l g i o=>
  rcases cond_inv h with⟨hc,h⟩|⟨_,h⟩<;>try (cases h;done)
  have hv0:=hv
  simp only[VR]at hv
  obtain⟨t,xs,fz,fr,u,h1,h2,rfl⟩:=isCur_ap hc hv
  exact⟨_,h,hv0,by simp only[oNil,hx]⟩
 case func fn a b=>
  have hv0:=hv
  simp only[VR]at hv
  obtain⟨_,_,rfl,_⟩:=hv
  cases fn<;>(try (simp[sChk]at h;done))
  exact⟨_,h,hv0,by simp only[oNil,hx]⟩
 case raw e=>
  have hv0:=hv
  simp only[VR]at hv
  subst hv
  cases d<;>(try (simp[sChk]at h;done))
  ·exact⟨_,h,hv0,by simp only[oNil,hx]⟩
  ·exact⟨_,h,hv0,by simp only[oNil,hx]⟩
def wneg(k:IntKind) (n:Int):Int:=k.wrap (0-n)
def wnot(k:IntKind) (n:Int):Int:=bits .xor k (if k.signed then-1 else k.max) n
def sUn(op:UnOp) (v:SV) (K:SV→Option α):Option α:=match op with
 | .not=>match v with
   | .bool b=>K (.bool (!b))
   |_=>none
 | .neg=>match v with
   | .int k n=>K (.int k (wneg k n))
   |_=>none
 | .xor=>match v with
   | .int k n=>K (.int k (wnot k n))
   |_=>none
 |_=>none
theorem sUn_ok{op:UnOp}{v:SV}{d:D}(h:sUn op v K=some r) (hv:VR S σ v d):∃v' d',K v' =some r∧VR S σ v' d'∧unD op d=some d' :=by
 cases op<;>cases v<;>(try (simp[sUn]at h;done))<;>(simp only[VR]at hv;subst hv)
 all_goals first
  |exact⟨_,_,h,vr_int,rfl⟩
  |exact⟨_,_,h,vr_bool,rfl⟩
def sToStr(S:SSto) (v:SV) (K:SV→Option α):Option α:=match v with
 | .sl .byte xs _=>K (.str xs)
 | .nils=>K (.str [])
 | .own l g=>match S[l]? with
   |some (.arr .byte xs _ g')=>cond (Nat.beq g g') (K (.str xs)) none
   |_=>none
 |_=>none
def sConv(S:SSto) (ck:CK) (v:SV) (K:SV→Option α):Option α:=match ck with
 | .int k=>match v with
   | .int _ n=>K (.int k (k.wrap n))
   |_=>none
 | .idStr=>match v with
   | .str s=>K (.str s)
   |_=>none
 | .toBytes=>match v with
   | .str s=>(small s).bind fun c=>K (.sl .byte c false)
   |_=>none
 | .toStr=>sToStr S v K
theorem sConv_ok(hS:StR S σ) {ck:CK}{v:SV}{d:D}(h:sConv S ck v K=some r) (hv:VR S σ v d):
 ∃v' d',K v' =some r∧VR S σ v' d'∧∀s:Sto,(∀l ∈ fpV v,s[l]? =σ[l]?)→convD s ck d=some d' :=by
 have hl1:∀xs:List UInt8,(TC.flat .byte xs).length=xs.length*1:=fun xs=>flatE_len byteE xs
 cases ck
 case int k=>
  cases v<;>(try (simp[sConv]at h;done))
  simp only[VR]at hv;subst hv
  exact⟨_,_,h,vr_int,fun s _=>rfl⟩
 case idStr=>
  cases v<;>(try (simp[sConv]at h;done))
  simp only[VR]at hv;subst hv
  exact⟨_,_,h,vr_str,fun s _=>rfl⟩
 case toBytes=>
  cases v<;>(try (simp[sConv]at h;done))
  simp only[VR]at hv;subst hv
  simp only[sConv]at h
  obtain⟨c,hc,h⟩:=bind_inv h
  unfold small at hc
  split at hc<;>try (cases hc;done)
  rename_i hb
  rw[←Option.some.inj hc]at h
  clear hc c
  rename_i c _
  refine⟨_,.list (TC.flat .byte c) c.length false,h,by simp only[VR];exact⟨false,rfl,fun h=>by cases h⟩,fun s _=> ?_⟩
  show convD s .toBytes (.str c)=some (.list (flatE byteE c) c.length false)
  simp[convD,hb,flat_bytes]
 case toStr=>
  simp only[sConv]at h
  unfold sToStr at h
  split at h
  ·rename_i xs f
   simp only[VR]at hv
   obtain⟨f',rfl,_⟩:=hv
   refine⟨_,_,h,vr_str,fun s _=> ?_⟩
   simp only[convD,srcD,hl1,if_true]
   show(bytesOfD (flatE byteE xs)).map D.str=_
   rw[bytes_flat];rfl
  ·simp only[VR]at hv
   subst hv
   exact⟨_,_,h,vr_str,fun s _=>rfl⟩
  ·split at h<;>try (cases h;done)
   rename_i l g _ xs fz g' hl
   rcases cond_inv h with⟨hg,hK⟩|⟨_,hK⟩<;>try (cases hK;done)
   have hg:=nbeq hg
   subst hg
   simp only[VR]at hv
   obtain⟨fr,u,h4,rfl⟩:=(hv.2 _ _ _ _ hl).2 rfl
   refine⟨_,_,hK,vr_str,fun s hs=> ?_⟩
   have:=hs l (by simp[fpV])
   have e1:TC.sz .byte=1:=rfl
   simp only[convD,srcD,this,h4,e1,hl1]
   rw[if_pos ⟨trivial,trivial,by omega⟩]
   simp only[List.drop_zero]
   rw[List.take_of_length_le (by rw[hl1];exact Nat.le_refl _)]
   show(bytesOfD (flatE byteE xs)).map D.str=_
   rw[bytes_flat];rfl
  ·cases h
def sAddC(S:SSto) (v:SV) (n:Nat) (K:SV→Option α):Option α:=cond (apOk S v) ((sAdd v n).bind K) none
theorem sAddC_ok{v:SV}{n:Nat}{d:D}(h:sAddC S v n K=some r) (hv:VR S σ v d):∃v' d',K v' =some r∧VR S σ v' d'∧ptrAdd d n=some d' :=by
 unfold sAddC at h
 rcases cond_inv h with⟨hc,h⟩|⟨_,h⟩<;>try (cases h;done)
 obtain⟨w,hw,h⟩:=bind_inv h
 obtain⟨e,h1,h2⟩:=sAdd_ok (fun l g i o e=>by subst e;exact hc) hw hv
 exact⟨w,e,h,h2,h1⟩
def sPart(cs:List SV) (off n:Nat) (b:Bool) (K:SV→Option α):Option α:=match b with
 |true=>cond (Nat.ble (off+n) cs.length) (K (.agg ((cs.drop off).take n))) none
 |false=>(cs[off]?).bind K
theorem sPart_ok{cs:List SV}{ds:List D}{off n:Nat}{b:Bool}(h:sPart cs off n b K=some r) (hv:VRs S σ cs ds):∃v' d',K v' =some r∧VR S σ v' d'∧partD ds off n b=some d' :=by
 unfold sPart at h
 cases b
 ·obtain⟨v,hv',h⟩:=bind_inv h
  obtain⟨d,h1,h2⟩:=hv.get hv'
  exact⟨v,d,h,h2,by simpa[partD] using h1⟩
 ·rcases cond_inv h with⟨hc,h⟩|⟨_,h⟩<;>try (cases h;done)
  have hc:=Nat.le_of_ble_eq_true hc
  refine⟨_,.agg ((ds.drop off).take n),h,by simp only[VR];exact⟨_,rfl,(hv.drop off).take n⟩,?_⟩
  simp only[partD,if_true]
  rw[if_pos (by rw[hv.length];exact hc)]
def inb(n:Int) (len:Nat):Bool:=decide (0≤n)&&decide (n<len)
theorem inb_inv{n:Int}{len:Nat}(h:inb n len=true):0≤n∧n<len:=by simpa[inb] using h
def sFork(n:Int) (K:Nat→Option α):Nat→Nat→Option α
 |0,_=>none
 |m+1,i=>cond (n==(i:Int)) (K i) (sFork n K m (i+1))
theorem sFork_ok{n:Int}{K:Nat→Option α}{r:α}:∀{m i:Nat},sFork n K m i=some r→∃j:Nat,j<i+m∧n=(j:Int)∧K j=some r
 |0,_,h=>by simp[sFork]at h
 |m+1,i,h=>by
  simp only[sFork]at h
  rcases cond_inv h with⟨hc,h⟩|⟨_,h⟩
  ·exact⟨i,by omega,by simpa using hc,h⟩
  ·obtain⟨j,h1,h2⟩:=sFork_ok h
   exact⟨j,by omega,h2⟩
def sIdxAddr(S:SSto) (ik:IK) (v:SV) (n:Int) (K:SV→Option α):Option α:=match ik with
 | .slice sz=>match v with
   | .sl tc xs _=>cond (Nat.beq sz tc.sz&&Nat.blt 0 sz) ((ix xs n).bind fun x=>K (.rp tc x 0)) none
   | .lst cs len _=>cond (inb n len&&(Nat.blt 0 sz&&Nat.beq cs.length (len*sz))) (K (.rc cs (n.toNat*sz))) none
   | .own l g=>match S[l]? with
     |some (.arr tc xs _ g')=>cond (Nat.beq g g' &&Nat.beq sz tc.sz) (cond (inb n xs.length) (K (.ap l g n 0)) none) none
     |_=>none
   |_=>none
 | .array len sz=>sFork n (fun i=>sAddC S v (i*sz) K) len 0
theorem sIdxAddr_ok{ik:IK}{v:SV}{n:Int}{d:D}(h:sIdxAddr S ik v n K=some r) (hv:VR S σ v d):∃v' d',K v' =some r∧VR S σ v' d'∧
 (match ik with| .slice sz=>idxSl sz d n| .array len sz=>if 0≤n∧n<len then ptrAdd d (n.toNat*sz) else none)=some d' :=by
 unfold sIdxAddr at h
 cases ik
 case slice sz=>
  cases v<;>(try (simp at h;done))<;>simp only at h
  case sl tc xs f=>
   rcases cond_inv h with⟨hc,h⟩|⟨_,h⟩<;>try (cases h;done)
   simp only[Bool.and_eq_true]at hc
   have hz:=nbeq hc.1
   have hp:0<sz:=Nat.le_of_ble_eq_true hc.2
   obtain⟨x,hx,h⟩:=bind_inv h
   obtain⟨h1,h2,h3⟩:=ix_inv hx
   simp only[VR]at hv
   obtain⟨f',rfl,_⟩:=hv
   have hl:=flatE_len tc.enc xs
   have hg:=flatE_get (E:=tc.enc) h3
   have hle:n.toNat*tc.sz+tc.sz≤(tc.flat xs).length:=by
    rw[flatE_len,←Nat.succ_mul]
    exact Nat.mul_le_mul_right _ (by omega)
   refine⟨_,.rptr (tc.flat xs) (n.toNat*sz),h,?_,?_⟩
   ·simp only[VR]
    refine⟨(tc.flat xs).take (n.toNat*sz),(tc.flat xs).drop (n.toNat*sz+sz),?_⟩
    subst hz
    have e1:tc.flat xs=(tc.flat xs).take (n.toNat*tc.sz)++(((tc.flat xs).drop (n.toNat*tc.sz)).take tc.sz++((tc.flat xs).drop (n.toNat*tc.sz)).drop tc.sz):=by
     rw[List.take_append_drop,List.take_append_drop]
    have e2:((tc.flat xs).drop (n.toNat*tc.sz)).take tc.sz=tc.cells x:=hg
    rw[e2,List.drop_drop]at e1
    rw[List.append_assoc,←e1]
    congr 1
    rw[List.length_take,Nat.min_eq_left (by omega)]
    rfl
   ·simp only[idxSl]
    rw[if_pos ⟨h1,h2,hp,by rw[hz];exact hl⟩]
  case lst cs len f=>
   rcases cond_inv h with⟨hc,h⟩|⟨_,h⟩<;>try (cases h;done)
   simp only[Bool.and_eq_true]at hc
   obtain⟨h1,h2⟩:=inb_inv hc.1
   have hp:0<sz:=Nat.le_of_ble_eq_true hc.2.1
   have hl:=nbeq hc.2.2
   simp only[VR]at hv
   obtain⟨ds,f',rfl,_,hv⟩:=hv
   refine⟨_,.rptr ds (n.toNat*sz),h,by simp only[VR];exact⟨ds,rfl,hv⟩,?_⟩
   simp only[idxSl]
   rw[if_pos ⟨h1,h2,hp,by rw[hv.length];exact hl⟩]
  case own l g=>
   split at h<;>try (cases h;done)
   rename_i tc xs fz g' hl
   rcases cond_inv h with⟨hc,h0⟩|⟨_,h0⟩<;>try (cases h0;done)
   simp only[Bool.and_eq_true]at hc
   have hg:=nbeq hc.1
   have hz:=nbeq hc.2
   subst hg hz
   rcases cond_inv h0 with⟨hib,hK⟩|⟨_,hK⟩<;>try (cases hK;done)
   obtain⟨h1,h2⟩:=inb_inv hib
   simp only[VR]at hv
   obtain⟨fr,u,k4,rfl⟩:=(hv.2 _ _ _ _ hl).2 rfl
   refine⟨_,.ptr l u (0+n.toNat*tc.sz),hK,?_,?_⟩
   ·simp only[VR]
    exact .mk hl k4 (by simp)
   ·simp only[idxSl]
    rw[if_pos ⟨h1,h2,trivial⟩]
 case array len sz=>
  obtain⟨j,hj,rfl,hK⟩:=sFork_ok h
  obtain⟨v',d',hK,h1,h2⟩:=sAddC_ok hK hv
  have hb:(0:Int)≤(j:Int)∧(j:Int)<len:=by omega
  exact⟨v',d',hK,h1,by simp only[if_pos hb,Int.toNat_natCast];exact h2⟩
def sIndex(ik:IVK) (v:SV) (n:Int) (K:SV→Option α):Option α:=match ik with
 | .string=>match v with
   | .str s=>(ix s n).bind fun b=>K (.int .u8 b.toNat)
   |_=>none
 | .array len sz b=>match v with
   | .agg cs=>sFork n (fun i=>sPart cs (i*sz) sz b K) len 0
   |_=>none
def sLen(S:SSto) (k:LKind) (v:SV) (K:SV→Option α):Option α:=match k with
 | .slice=>match v with
   | .sl _ xs _=>K (.int .i64 xs.length)
   | .lst _ n _=>K (.int .i64 n)
   | .nils=>K (.int .i64 0)
   | .own l g=>match S[l]? with
     |some (.arr _ xs _ g')=>cond (Nat.beq g g') (K (.int .i64 xs.length)) none
     |_=>none
   |_=>none
 | .string=>match v with
   | .str s=>K (.int .i64 s.length)
   |_=>none
 | .array n=>K (.int .i64 n)
theorem sLen_ok{k:LKind}{v:SV}{d:D}(h:sLen S k v K=some r) (hv:VR S σ v d):∃v' n,K v' =some r∧VR S σ v' (.int .i64 (n:Nat))∧lenK k d=some n:=by
 unfold sLen at h
 cases k
 case slice=>
  cases v<;>(try (simp at h;done))<;>simp only at h
  case sl=>simp only[VR]at hv;obtain⟨f',rfl,_⟩:=hv;exact⟨_,_,h,vr_int,rfl⟩
  case lst=>simp only[VR]at hv;obtain⟨_,_,rfl,_⟩:=hv;exact⟨_,_,h,vr_int,rfl⟩
  case nils=>simp only[VR]at hv;subst hv;exact⟨_,0,h,vr_int,rfl⟩
  case own l g=>
   split at h<;>try (cases h;done)
   rename_i tc xs fz g' hl
   rcases cond_inv h with⟨hc,hK⟩|⟨_,hK⟩<;>try (cases hK;done)
   have hg:=nbeq hc
   subst hg
   simp only[VR]at hv
   obtain⟨fr,u,k4,rfl⟩:=(hv.2 _ _ _ _ hl).2 rfl
   exact⟨_,_,hK,vr_int,rfl⟩
 case string=>
  cases v<;>(try (simp at h;done))
  simp only[VR]at hv;subst hv;exact⟨_,_,h,vr_int,rfl⟩
 case array n=>exact⟨_,_,h,vr_int,rfl⟩
def imax(a b:Int):Int:=if b>a then b else a
def imin(a b:Int):Int:=if b<a then b else a
def sMM(mx:Bool):SV→List SV→(SV→Option α)→Option α
 | .int k a,[],K=>K (.int k a)
 | .int k a,.int k' b::r,K=>match decEq k k' with
   |isTrue _=>sMM mx (.int k (cond mx (imax a b) (imin a b))) r K
   |isFalse _=>none
 |_,_,_=>none
theorem sMM_ok{mx:Bool}:∀{vs:List SV}{v:SV}{d:D}{ds:List D},sMM mx v vs K=some r→VR S σ v d→VRs S σ vs ds→∃v' d',K v' =some r∧VR S σ v' d'∧mmD mx d ds=some d'
 |[],v,d,ds,h,hv,hs=>by
  cases v<;>(try (simp[sMM]at h;done))
  simp only[VR]at hv;subst hv
  simp only[VRs]at hs;subst hs
  exact⟨_,_,h,vr_int,rfl⟩
 |w::vs,v,d,ds,h,hv,hs=>by
  cases v<;>(try (simp[sMM]at h;done))
  cases w<;>(try (simp[sMM]at h;done))
  simp only[sMM]at h
  split at h<;>try (cases h;done)
  rename_i hk _
  subst hk
  simp only[VR]at hv;subst hv
  simp only[VRs,VR]at hs
  obtain⟨e,es,rfl,rfl,hs⟩:=hs
  obtain⟨v',d',h1,h2,h3⟩:=sMM_ok h vr_int hs
  refine⟨v',d',h1,h2,?_⟩
  simp only[mmD,if_true]
  cases mx<;>simpa[imax,imin] using h3
def sFind(lkk:LK) (key:SV):List D→List D→(Option D→Option α)→Option α
 |[],_,K=>K none
 |kd::ks,vs,K=>match vs with
  |v::vs=>(scellEq lkk key (ofD kd)).bind fun b=>cond b (K (some v)) (sFind lkk key ks vs K)
  |[]=>none
theorem sFind_ok{lkk:LK}{key:SV}{d:D}(hk:VR S σ key d) {K:Option D→Option α}:∀(ks vs:List D) (i:Nat),sFind lkk key ks vs K=some r→
 ∃o,K o=some r∧((o=none∧findD lkk d ks i=some none)∨∃j v,o=some v∧findD lkk d ks i=some (some (i+j))∧vs[j]? =some v)
 |[],vs,i,h=>⟨none,h,.inl ⟨rfl,rfl⟩⟩
 |kd::ks,[],i,h=>by simp[sFind]at h
 |kd::ks,v::vs,i,h=>by
  simp only[sFind]at h
  obtain⟨b,hb,h⟩:=bind_inv h
  have hc:=scellEq_ok hb hk (ofD_ok S σ kd)
  rcases cond_inv h with⟨rfl,h⟩|⟨rfl,h⟩
  ·exact⟨_,h,.inr ⟨0,v,rfl,by simp only[findD,hc];rfl,rfl⟩⟩
  ·obtain⟨o,h1,h2⟩:=sFind_ok hk ks vs (i+1) h
   refine⟨o,h1,?_⟩
   rcases h2 with⟨h2,h3⟩|⟨j,v',h2,h3,h4⟩
   ·exact .inl ⟨h2,by simp only[findD,hc];exact h3⟩
   ·exact .inr ⟨j+1,v',h2,by simp only[findD,hc];rw[h3];congr 2;omega,by simpa using h4⟩
def sLook(lkk:LK) (z:D) (ok:Bool) (m key:SV) (K:SV→Option α):Option α:=match m with
 | .raw d=>match d with
   | .cmap ks vs=>sFind lkk key ks vs fun o=>K (ofD (lookFin z ok o))
   | .pmap ks vs=>match intKeys ks with
     |true=>match lkk with
      | .i=>match key with
        | .int .i64 n=>sFind .i (.int .i64 n) ks vs fun o=>K (ofD (lookFin z ok o))
        |_=>none
      |_=>none
     |false=>none
   |_=>none
 |_=>none
theorem sLook_ok{lkk:LK}{z:D}{ok:Bool}{m key:SV}{dm dk:D}(h:sLook lkk z ok m key K=some r) (hm:VR S σ m dm) (hk:VR S σ key dk):
 ∃v' d',K v' =some r∧VR S σ v' d'∧∀s:Sto,lookD s lkk z ok dm dk=some d' :=by
 cases m<;>(try (simp[sLook]at h;done))
 rename_i e
 cases e<;>(try (simp[sLook]at h;done))
 ·simp only[VR]at hm
  subst hm
  obtain⟨o,h,h2⟩:=sFind_ok hk _ _ 0 h
  refine⟨_,_,h,ofD_ok S σ _,fun s=> ?_⟩
  rcases h2 with⟨rfl,h2⟩|⟨j,v,rfl,h2,h3⟩
  ·simp only[lookD,lookKV,h2]
  ·rw[Nat.zero_add]at h2
   simp only[lookD,lookKV,h2,h3]
   rfl
 ·simp only[VR]at hm
  subst hm
  simp only[sLook]at h
  split at h<;>try (cases h;done)
  rename_i hik
  split at h<;>try (cases h;done)
  split at h<;>try (cases h;done)
  rename_i n
  simp only[VR]at hk
  subst hk
  obtain⟨o,h,h2⟩:=sFind_ok (S:=S) (σ:=σ) (key:= .int .i64 n) (d:= .int .i64 n) (by simp only[VR]) _ _ 0 h
  refine⟨_,_,h,ofD_ok S σ _,fun s=> ?_⟩
  rcases h2 with⟨rfl,h2⟩|⟨j,v,rfl,h2,h3⟩
  ·simp only[lookD,lookP,hik,lookKV,h2]
  ·rw[Nat.zero_add]at h2
   simp only[lookD,lookP,hik,lookKV,h2,h3]
   rfl
def withI(τ:SEnv) (x:Operand) (K:Int→Option α):Option α:=withV τ x fun v=>match v with
 | .int _ n=>K n
 |_=>none
theorem withI_inv{x:Operand}{K:Int→Option α}(h:withI τ x K=some r):∃k n,sev τ x=some (.int k n)∧K n=some r:=by
 unfold withI at h
 obtain⟨v,hv,h⟩:=withV_inv h
 cases v<;>(try (simp at h;done))
 exact⟨_,_,hv,h⟩
def sBi(T:Tys) (S:SSto) (τ:SEnv) (b:Builtin) (args:List Operand) (ts:List TypeId) (K:SV→Option α):Option α:=match b with
 | .len=>match args,ts with
   |[x],[t]=>(lk T.len t).bind fun k=>withV τ x fun v=>sLen S k v K
   |_,_=>none
 | .max=>(sevs τ args).bind fun vs=>match vs with
   |v::vs=>sMM true v vs K
   |[]=>none
 | .min=>(sevs τ args).bind fun vs=>match vs with
   |v::vs=>sMM false v vs K
   |[]=>none
 |_=>none
def sR(T:Tys) (H:Tr TC) (τ:SEnv) (S:SSto) (op:Op) (K:SV→Option α):Option α:=match op with
 | .move x=>withV τ x K
 | .assign x=>withV τ x K
 | .pick c a b=>withV τ c fun v=>match v with
   | .bool r=>cond r (withV τ a K) (withV τ b K)
   |_=>none
 | .build t ps=>sBuild T τ S t ps.toList K
 | .buildSlice t len ps=>sBuildSlice T H τ S t len ps.toList K
 | .load t x=>sLoad T τ S t x K
 | .nilCheck x=>withV τ x fun v=>sChk S v K
 | .binOp op t x y _=>withV τ x fun v=>withV τ y fun w=>sBin (lk T.eq t) op (isCst x||isCst y) v w K
 | .unOp op _ x=>withV τ x fun v=>sUn op v K
 | .convert s t x=>(lk2 T.conv s t).bind fun ck=>withV τ x fun v=>sConv S ck v K
 | .makeInterface t x=>(lk T.conc t).bind fun _=>withV τ x fun v=>K (.iface t v)
 | .makeFunc fn a b=>(sevs τ a.toList).bind fun va=>(sevs τ b.toList).bind fun vb=>K (.func fn va vb)
 | .slice t x lo hi mx=>sSlice T H τ t x lo hi mx K
 | .fieldAddr s x f=>(lk2 T.fld s f).bind fun off=>withV τ x fun v=>sAddC S v off K
 | .field s x f=>(lk2 T.fldV s f).bind fun p=>withV τ x fun v=>match v with
   | .agg cs=>sPart cs p.1 p.2.1 p.2.2 K
   |_=>none
 | .indexAddr t x i=>(lk T.idx t).bind fun ik=>withV τ x fun v=>withI τ i fun n=>sIdxAddr S ik v n K
 | .index t x i=>(lk T.idxV t).bind fun ik=>withV τ x fun v=>withI τ i fun n=>sIndex ik v n K
 | .lookup t m k ok=>(lk T.map t).bind fun p=>withV τ m fun vm=>withV τ k fun vk=>sLook p.1 p.2 ok vm vk K
 | .extract x i=>withV τ x fun v=>match v with
   | .tup vs=>(vs[i]?).bind K
   |_=>none
 | .call c=>match c.callee with
   | .builtin b=>sBi T S τ b c.args.toList c.argTypes.toList K
   |_=>none
 |_=>none
def fpOp(τ:SEnv):Op→List Nat
 | .load _ x=>fpO τ x
 | .convert _ _ x=>fpO τ x
 |_=>[]
theorem sR_ok{H:Tr TC}(hS:StR S σ) (hE:ER S σ τ τ') {op:Op}(h:sR T H τ S op K=some r):ROk T S σ τ' op (fpOp τ op) K r:=by
 have ss:∀{x:Operand}{v:SV},sev τ x=some v→∃d,ev τ' x=some d∧VR S σ v d:=fun hx=>sev_ok hE hx
 cases op<;>(try (simp[sR]at h;done))<;>simp only[sR]at h
 case move x=>
  obtain⟨v,hv,h⟩:=withV_inv h
  obtain⟨d,hd,hvd⟩:=ss hv
  exact⟨v,d,d,h,hvd,Weak.refl _,fun s _=>by simp only[aop,hd];rfl⟩
 case assign x=>
  obtain⟨v,hv,h⟩:=withV_inv h
  obtain⟨d,hd,hvd⟩:=ss hv
  exact⟨v,d,d,h,hvd,Weak.refl _,fun s _=>by simp only[aop,hd];rfl⟩
 case pick c a b=>
  obtain⟨v,hv,h⟩:=withV_inv h
  cases v<;>(try (simp at h;done))
  rename_i rb
  obtain⟨d,hd,hvd⟩:=ss hv
  simp only[VR]at hvd
  subst hvd
  rcases cond_inv h with⟨rfl,h⟩|⟨rfl,h⟩
  ·obtain⟨v,hv,h⟩:=withV_inv h
   obtain⟨d,hd',hvd⟩:=ss hv
   exact⟨v,d,d,h,hvd,Weak.refl _,fun s _=>by simp only[aop,oPick,hd,if_true,hd'];rfl⟩
  ·obtain⟨v,hv,h⟩:=withV_inv h
   obtain⟨d,hd',hvd⟩:=ss hv
   exact⟨v,d,d,h,hvd,Weak.refl _,fun s _=>by simp only[aop,oPick,hd,Bool.false_eq_true,if_false,hd'];rfl⟩
 case build=>exact sBuild_ok hE h
 case buildSlice=>exact sBuildSlice_ok hE h
 case load=>exact sLoad_ok hS hE h
 case nilCheck x=>
  obtain⟨v,hv,h⟩:=withV_inv h
  obtain⟨d,hd,hvd⟩:=ss hv
  obtain⟨v',h,h1,h2⟩:=sChk_ok h hvd hd
  exact⟨v',d,d,h,h1,Weak.refl _,fun s _=>by simp only[aop,h2];rfl⟩
 case binOp op t x y ty=>
  obtain⟨v,hv,h⟩:=withV_inv h
  obtain⟨w,hw,h⟩:=withV_inv h
  obtain⟨d,hd,hvd⟩:=ss hv
  obtain⟨e,he,hwe⟩:=ss hw
  obtain⟨v',d',h,h1,h2⟩:=sBin_ok h hvd hwe
  exact⟨v',d',d',h,h1,Weak.refl _,fun s _=>by simp only[aop,oBin,hd,he,h2];rfl⟩
 case unOp op t x=>
  obtain⟨v,hv,h⟩:=withV_inv h
  obtain⟨d,hd,hvd⟩:=ss hv
  obtain⟨v',d',h,h1,h2⟩:=sUn_ok h hvd
  exact⟨v',d',d',h,h1,Weak.refl _,fun s _=>by simp only[aop,oUn,hd,h2];rfl⟩
 case convert s' t x=>
  obtain⟨ck,hck,h⟩:=bind_inv h
  obtain⟨v,hv,h⟩:=withV_inv h
  obtain⟨d,hd,hvd⟩:=ss hv
  obtain⟨v',d',h,h1,h2⟩:=sConv_ok hS h hvd
  refine⟨v',d',d',h,h1,Weak.refl _,fun s hs=> ?_⟩
  have:=h2 s (fun l hl=>hs l (by simp only[fpOp,fpO,hv];exact hl))
  simp only[aop,oConv,hck,hd,this]
  rfl
 case makeInterface t x=>
  obtain⟨u,hu,h⟩:=bind_inv h
  obtain⟨v,hv,h⟩:=withV_inv h
  obtain⟨d,hd,hvd⟩:=ss hv
  exact⟨_,.iface t d,.iface t d,h,by simp only[VR];exact⟨d,rfl,hvd⟩,Weak.refl _,fun s _=>by simp only[aop,oIface,hd,hu];rfl⟩
 case makeFunc fn a b=>
  obtain⟨va,hva,h⟩:=bind_inv h
  obtain⟨vb,hvb,h⟩:=bind_inv h
  obtain⟨da,h1,h2⟩:=sevs_ok hE hva
  obtain⟨db,h3,h4⟩:=sevs_ok hE hvb
  exact⟨_,.func fn da db,.func fn da db,h,by simp only[VR];exact⟨da,db,rfl,h2,h4⟩,Weak.refl _,fun s _=>by simp only[aop,oFunc,h1,h3];rfl⟩
 case slice=>exact sSlice_ok hE h
 case fieldAddr s' x f=>
  obtain⟨off,ho,h⟩:=bind_inv h
  obtain⟨v,hv,h⟩:=withV_inv h
  obtain⟨d,hd,hvd⟩:=ss hv
  obtain⟨v',d',h,h1,h2⟩:=sAddC_ok h hvd
  exact⟨v',d',d',h,h1,Weak.refl _,fun s _=>by simp only[aop,oFieldAddr,ho,hd,h2];rfl⟩
 case field s' x f=>
  obtain⟨p,hp,h⟩:=bind_inv h
  obtain⟨v,hv,h⟩:=withV_inv h
  obtain⟨d,hd,hvd⟩:=ss hv
  cases v<;>(try (simp at h;done))
  simp only[VR]at hvd
  obtain⟨ds,rfl,hvd⟩:=hvd
  obtain⟨v',d',h,h1,h2⟩:=sPart_ok h hvd
  exact⟨v',d',d',h,h1,Weak.refl _,fun s _=>by simp only[aop,oField,hp,hd,h2];rfl⟩
 case indexAddr t x i=>
  obtain⟨ik,hik,h⟩:=bind_inv h
  obtain⟨v,hv,h⟩:=withV_inv h
  obtain⟨k,n,hn,h⟩:=withI_inv h
  obtain⟨d,hd,hvd⟩:=ss hv
  obtain⟨dn,hdn,hvn⟩:=ss hn
  simp only[VR]at hvn
  subst hvn
  obtain⟨v',d',h,h1,h2⟩:=sIdxAddr_ok h hvd
  refine⟨v',d',d',h,h1,Weak.refl _,fun s _=> ?_⟩
  simp only[aop,oIndexAddr,hik,hd,hdn,idxInt]
  cases ik<;>simp only at h2⊢<;>rw[h2]<;>rfl
 case index t x i=>
  obtain⟨ik,hik,h⟩:=bind_inv h
  obtain⟨v,hv,h⟩:=withV_inv h
  obtain⟨k,n,hn,h⟩:=withI_inv h
  obtain⟨d,hd,hvd⟩:=ss hv
  obtain⟨dn,hdn,hvn⟩:=ss hn
  simp only[VR]at hvn
  subst hvn
  unfold sIndex at h
  cases ik
  case string=>
   cases v<;>(try (simp at h;done))
   simp only at h
   obtain⟨b,hb,h⟩:=bind_inv h
   obtain⟨a1,a2,a3⟩:=ix_inv hb
   simp only[VR]at hvd
   subst hvd
   exact⟨_,_,_,h,vr_int,Weak.refl _,fun s _=>by simp[aop,oIndex,hik,hd,hdn,idxInt,strAt,a1,a3]⟩
  case array=>
   cases v<;>(try (simp at h;done))
   simp only at h
   obtain⟨j,hj,rfl,hK⟩:=sFork_ok h
   simp only[VR]at hvd
   obtain⟨ds,rfl,hvd⟩:=hvd
   obtain⟨v',d',hK,h1,h2⟩:=sPart_ok hK hvd
   have hb:=And.intro (Int.natCast_nonneg j) (Int.ofNat_lt.2 (Nat.lt_of_lt_of_eq hj (Nat.zero_add _)))
   exact⟨v',d',d',hK,h1,Weak.refl _,fun s _=>by simp only[aop,oIndex,hik,hd,hdn,idxInt,if_pos hb,Int.toNat_natCast,h2];rfl⟩
 case lookup t m k ok=>
  obtain⟨p,hp,h⟩:=bind_inv h
  obtain⟨vm,hvm,h⟩:=withV_inv h
  obtain⟨vk,hvk,h⟩:=withV_inv h
  obtain⟨dm,hdm,hm⟩:=ss hvm
  obtain⟨dk,hdk,hk⟩:=ss hvk
  obtain⟨v',d',h,h1,h2⟩:=sLook_ok h hm hk
  exact⟨v',d',d',h,h1,Weak.refl _,fun s _=>by simp only[aop,oLookup,hp,hdm,hdk,h2 s];rfl⟩
 case extract x i=>
  obtain⟨v,hv,h⟩:=withV_inv h
  obtain⟨d,hd,hvd⟩:=ss hv
  cases v<;>(try (simp at h;done))
  simp only at h
  obtain⟨w,hw,h⟩:=bind_inv h
  simp only[VR]at hvd
  obtain⟨ds,rfl,hvd⟩:=hvd
  obtain⟨e,h1,h2⟩:=hvd.get hw
  exact⟨w,e,e,h,h2,Weak.refl _,fun s _=>by simp only[aop,oExtract,hd,h1];rfl⟩
 case call c=>
  obtain⟨callee,args,argTypes⟩:=c
  cases callee<;>(try (simp at h;done))
  rename_i b
  simp only at h
  unfold sBi at h
  cases b<;>(try (simp at h;done))<;>simp only at h
  case len=>
   split at h<;>try (cases h;done)
   rename_i x t hxs hts
   obtain⟨k,hk,h⟩:=bind_inv h
   obtain⟨v,hv,h⟩:=withV_inv h
   obtain⟨d,hd,hvd⟩:=ss hv
   obtain⟨v',n,h,h1,h2⟩:=sLen_ok h hvd
   refine⟨v',_,_,h,h1,Weak.refl _,fun s _=> ?_⟩
   simp only[aop,oBuiltin,hxs,hts,oLen,hk,hd,h2]
   rfl
  case max=>
   obtain⟨vs,hvs,h⟩:=bind_inv h
   obtain⟨ds,h1,h2⟩:=sevs_ok hE hvs
   cases vs<;>(try (simp at h;done))
   simp only[VRs]at h2
   obtain⟨e,es,rfl,h3,h4⟩:=h2
   obtain⟨v',d',h,h5,h6⟩:=sMM_ok h h3 h4
   exact⟨v',d',d',h,h5,Weak.refl _,fun s _=>by simp only[aop,oBuiltin,oMM,h1,mmL,h6];rfl⟩
  case min=>
   obtain⟨vs,hvs,h⟩:=bind_inv h
   obtain⟨ds,h1,h2⟩:=sevs_ok hE hvs
   cases vs<;>(try (simp at h;done))
   simp only[VRs]at h2
   obtain⟨e,es,rfl,h3,h4⟩:=h2
   obtain⟨v',d',h,h5,h6⟩:=sMM_ok h h3 h4
   exact⟨v',d',d',h,h5,Weak.refl _,fun s _=>by simp only[aop,oBuiltin,oMM,h1,mmL,h6];rfl⟩
end
end Go.Fw
namespace Go.Fw
open Go.RowKit
inductive Upd where
 |same|set (l:Nat) (ob:AObj)|push (ob:AObj)
def Upd.ap:Upd→Sto→Sto
 | .same,s=>s
 | .set l ob,s=>s.set l ob
 | .push ob,s=>s++[ob]
def Upd.inFp(fp:List Nat):Upd→Prop
 | .set l _=>l ∈ fp
 |_=>True
def WOk{α:Type}(P:Program) (N:Nat) (o:Oper) (S:SSto) (σ:Sto) (τ' :Env) (fp:List Nat) (K:SV→SSto→Option α) (r:α):Prop:=
 ∃v S' d up,K v S' =some r∧(∀s:Sto,(∀l ∈ fp,s[l]? =σ[l]?)→s.length=σ.length→AOp P N o τ' s fun d' s' =>d' =d∧s' =Upd.ap up s)∧VR S' (up.ap σ) v d∧StR S' (up.ap σ)∧Pres S σ S' (up.ap σ)∧up.inFp fp
theorem StR.lt{S:SSto}{σ:Sto}(h:StR S σ) {l:Nat}{o:SObj}(hl:S[l]? =some o):l<σ.length:=by rw[←h.len];exact lt_of_getElem? hl
theorem Pres.push{S:SSto}{σ:Sto}(_h:S.length=σ.length) (o:SObj) (a:AObj):Pres S σ (S++[o]) (σ++[a]):=by
 have e2:∀{l:Nat}{x:AObj},σ[l]? =some x→(σ++[a])[l]? =some x:=fun hl=>by rw[List.getElem?_append_left (lt_of_getElem? hl)];exact hl
 refine⟨fun l g d ⟨hl,h⟩=>⟨by simp;omega,fun t xs fz g' h1=> ?_⟩,fun l g i o d ⟨hl,h⟩=>⟨by simp;omega,fun t xs fz g' h1=> ?_⟩⟩
 ·rw[List.getElem?_append_left hl]at h1
  obtain⟨h2,h3⟩:=h t xs fz g' h1
  exact⟨h2,fun hg=>by obtain⟨fr,u,h4,h5⟩:=h3 hg;exact⟨fr,u,e2 h4,h5⟩⟩
 ·rw[List.getElem?_append_left hl]at h1
  obtain⟨h2,h3⟩:=h t xs fz g' h1
  exact⟨h2,fun hg=>by obtain⟨fr,u,h4,h5⟩:=h3 hg;exact⟨fr,u,e2 h4,h5⟩⟩
theorem ObR.pres{S S' :SSto}{σ σ' :Sto}(h:Pres S σ S' σ') {o:SObj}{a:AObj}(x:ObR S σ o a):ObR S' σ' o a:=by
 cases o with
 |cells cs fz=>obtain⟨ds,fr,rfl,h1,h2⟩:=x;exact⟨ds,fr,rfl,h1,VRs.pres h _ _ h2⟩
 |arr t xs fz g=>exact x
 |raw a=>exact x
 |it s p=>exact x
 |smap ks=>exact x
 |junk=>exact x
theorem StR.push{S:SSto}{σ:Sto}(h:StR S σ) {o:SObj}{a:AObj}(x:ObR (S++[o]) (σ++[a]) o a):StR (S++[o]) (σ++[a]):=by
 refine⟨by simp[h.len],fun l o' hl=> ?_⟩
 rcases Nat.lt_or_ge l S.length with hlt|hge
 ·rw[List.getElem?_append_left hlt]at hl
  obtain⟨b,h1,h2⟩:=h.obj l o' hl
  exact⟨b,by rw[List.getElem?_append_left (lt_of_getElem? h1)];exact h1,h2.pres (Pres.push h.len o a)⟩
 ·rw[List.getElem?_append_right hge]at hl
  cases hk:l-S.length with
  |zero=>
   rw[hk]at hl;simp at hl;subst hl
   have:l=σ.length:=by rw[←h.len];omega
   subst this
   exact⟨a,by simp,x⟩
  |succ k=>rw[hk]at hl;simp at hl
theorem getElem?_set'{α:Type}{l:List α}{i j:Nat}{x:α}(h:i<l.length):(l.set i x)[j]? =if i=j then some x else l[j]? :=by
 by_cases e:i=j
 ·subst e;rw[List.getElem?_set_self h,if_pos rfl]
 ·rw[List.getElem?_set_ne e,if_neg e]
theorem StR.set{S:SSto}{σ:Sto}(h:StR S σ) {l:Nat}{o0 o:SObj}{a:AObj}(hl:S[l]? =some o0) (hp:Pres S σ (S.set l o) (σ.set l a)) (x:ObR (S.set l o) (σ.set l a) o a):StR (S.set l o) (σ.set l a):=by
 have hlt:=lt_of_getElem? hl
 have hlt' :=h.lt hl
 refine⟨by simp[h.len],fun j o' hj=> ?_⟩
 rw[getElem?_set' hlt]at hj
 rw[getElem?_set' hlt']
 by_cases e:l=j
 ·rw[if_pos e]at hj⊢
  cases hj
  exact⟨a,rfl,x⟩
 ·rw[if_neg e]at hj⊢
  obtain⟨b,h1,h2⟩:=h.obj j o' hj
  exact⟨b,h1,h2.pres hp⟩
theorem Pres.setGen{S:SSto}{σ:Sto}(h:StR S σ) {l:Nat}{o0 o:SObj}{a:AObj}(hl:S[l]? =some o0)
 (ho:∀g d,OwnR S σ l g d→∀t xs fz g',o= .arr t xs fz g'→g≤g'∧(g=g'→∃fr u,a= .cells (t.flat xs) fr u∧d= .sl l u 0 xs.length t.sz false))
 (hp:∀g i k d,ApR S σ l g i k d→∀t xs fz g',o= .arr t xs fz g'→g≤g'∧(g=g'→∃fr u,a= .cells (t.flat xs) fr u∧d= .ptr l u (i.toNat*t.sz+k))):Pres S σ (S.set l o) (σ.set l a):=by
 have hlt:=lt_of_getElem? hl
 have hlt' :=h.lt hl
 refine⟨fun j g d hr=>⟨by rw[List.length_set];exact hr.1,fun t xs fz g' h1=> ?_⟩,fun j g i k d hr=>⟨by rw[List.length_set];exact hr.1,fun t xs fz g' h1=> ?_⟩⟩
 ·rw[getElem?_set' hlt]at h1
  rw[getElem?_set' hlt']
  by_cases e:l=j
  ·subst e
   rw[if_pos rfl]at h1
   cases h1
   obtain⟨h2,h3⟩:=ho g d hr t xs fz g' rfl
   exact⟨h2,fun hg=>by obtain⟨fr,u,h4,h5⟩:=h3 hg;exact⟨fr,u,by rw[if_pos rfl,h4],h5⟩⟩
  ·rw[if_neg e]at h1⊢
   exact hr.2 t xs fz g' h1
 ·rw[getElem?_set' hlt]at h1
  rw[getElem?_set' hlt']
  by_cases e:l=j
  ·subst e
   rw[if_pos rfl]at h1
   cases h1
   obtain⟨h2,h3⟩:=hp g i k d hr t xs fz g' rfl
   exact⟨h2,fun hg=>by obtain⟨fr,u,h4,h5⟩:=h3 hg;exact⟨fr,u,by rw[if_pos rfl,h4],h5⟩⟩
  ·rw[if_neg e]at h1⊢
   exact hr.2 t xs fz g' h1
theorem Pres.setCells{S:SSto}{σ:Sto}(h:StR S σ) {l:Nat}{cs cs' :List SV}{fz fz' :Bool}{a:AObj}(hl:S[l]? =some (.cells cs fz)):Pres S σ (S.set l (.cells cs' fz')) (σ.set l a):=
 Pres.setGen h hl (fun _ _ _ _ _ _ _ e=>by cases e) (fun _ _ _ _ _ _ _ _ _ e=>by cases e)
theorem Pres.setOther{S:SSto}{σ:Sto}(h:StR S σ) {l:Nat}{o0 o:SObj}{a:AObj}(hl:S[l]? =some o0) (h1:∀t xs fz g,o≠.arr t xs fz g):Pres S σ (S.set l o) (σ.set l a):=
 Pres.setGen h hl (fun _ _ _ _ _ _ _ e=>absurd e (h1 _ _ _ _)) (fun _ _ _ _ _ _ _ _ _ e=>absurd e (h1 _ _ _ _))
theorem Pres.setNext{S:SSto}{σ:Sto}(h:StR S σ) {l g:Nat}{t:TC}{xs ys:List t.Den}{fz fz' :Bool}{a:AObj}(hl:S[l]? =some (.arr t xs fz g)):Pres S σ (S.set l (.arr t ys fz' (g+1))) (σ.set l a):=
 Pres.setGen h hl (fun g0 d hr t' xs' fz'' g' e=>by
  have:=(hr.2 _ _ _ _ hl).1
  cases e
  exact⟨by omega,fun hg=>by omega⟩) (fun g0 i k d hr t' xs' fz'' g' e=>by
  have:=(hr.2 _ _ _ _ hl).1
  cases e
  exact⟨by omega,fun hg=>by omega⟩)
theorem Pres.setSame{S:SSto}{σ:Sto}(h:StR S σ) {l g fr u fr0:Nat}{t:TC}{xs ys:List t.Den}{fz fz' :Bool}(hl:S[l]? =some (.arr t xs fz g)) (hσ:σ[l]? =some (.cells (t.flat xs) fr0 u)) (hlen:ys.length=xs.length):
 Pres S σ (S.set l (.arr t ys fz' g)) (σ.set l (.cells (t.flat ys) fr u)):=
 Pres.setGen h hl (fun g0 d hr t' xs' fz'' g' e=>by
  obtain⟨h1,h2⟩:=hr.2 _ _ _ _ hl
  cases e
  refine⟨h1,fun hg=> ?_⟩
  obtain⟨fr1,u1,h4,h5⟩:=h2 hg
  rw[hσ]at h4
  cases h4
  exact⟨fr,u,rfl,by rw[h5,hlen]⟩) (fun g0 i k d hr t' xs' fz'' g' e=>by
  obtain⟨h1,h2⟩:=hr.2 _ _ _ _ hl
  cases e
  refine⟨h1,fun hg=> ?_⟩
  obtain⟨fr1,u1,h4,h5⟩:=h2 hg
  rw[hσ]at h4
  cases h4
  exact⟨fr,u,rfl,h5⟩)
theorem AOp.weakSet{P:Program}{N:Nat}{o:Oper}{τ:Env}{s:Sto}{d:D}{l f u:Nat}{cs cs' :List D}(hl:l<s.length) (h:AOp P N o τ s fun d' s' =>d' =d∧s' =s.set l (.cells cs f u)) (hw:Weaks cs cs'):
 AOp P N o τ s fun d' s' =>d' =d∧s' =s.set l (.cells cs' f u):=by
 intro B G w a hR hT next Q hn
 refine h B G w a hR hT next Q ?_
 rintro v w' G' d' s' h1 h2 h3 ⟨rfl,rfl⟩
 have h4:=h2.weakObj (l:=l) (f:=f) (v:=u) (cs:=cs) (cs' :=cs') (by rw[getElem?_set' hl,if_pos rfl]) hw.length.symm (fun vs hv=>hw.reps hv)
 rw[List.set_set]at h4
 exact hn v w' G' _ _ h1 h4 h3 ⟨rfl,rfl⟩
theorem AOp.weakPush{P:Program}{N:Nat}{o:Oper}{τ:Env}{s:Sto}{d:D}{f u:Nat}{cs cs' :List D}(h:AOp P N o τ s fun d' s' =>d' =d∧s' =s++[.cells cs f u]) (hw:Weaks cs cs'):
 AOp P N o τ s fun d' s' =>d' =d∧s' =s++[.cells cs' f u]:=by
 intro B G w a hR hT next Q hn
 refine h B G w a hR hT next Q ?_
 rintro v w' G' d' s' h1 h2 h3 ⟨rfl,rfl⟩
 have h4:=h2.weakObj (l:=s.length) (f:=f) (v:=u) (cs:=cs) (cs' :=cs') (by simp) hw.length.symm (fun vs hv=>hw.reps hv)
 rw[List.set_append_right _ _ (Nat.le_refl _)]at h4
 simp only[Nat.sub_self,List.set_cons_zero]at h4
 exact hn v w' G' _ _ h1 h4 h3 ⟨rfl,rfl⟩
section
variable {α:Type}{P:Program}{T:Tys}{N:Nat}{o:Oper}{S:SSto}{σ:Sto}{τ:SEnv}{τ' :Env}{K:SV→SSto→Option α}{r:α}
def sAlloc(T:Tys) (S:SSto) (e:TypeId) (K:SV→SSto→Option α):Option α:=(lk T.zero e).bind fun z=>K (.raw (.ptr S.length 0 0)) (S++[.cells (ofDs z) false])
theorem sAlloc_ok(tok:TOk T P) (hS:StR S σ) {e:TypeId}(ho:o.op= .alloc e) (h:sAlloc T S e K=some r):WOk P N o S σ τ' [] K r:=by
 unfold sAlloc at h
 obtain⟨z,hz,h⟩:=bind_inv h
 refine⟨_,_,.ptr σ.length 0 0,.push (.cells z 0 0),h,fun s _ hs=> ?_,by simp only[VR,hS.len],hS.push ⟨z,0,rfl,fun _=>rfl,ofDs_ok _ _ z⟩,Pres.push hS.len _ _,trivial⟩
 refine aop_aop tok ?_
 rw[ho]
 simp only[aop,hz,Upd.ap,←hs]
 rfl
def sBox(S:SSto) (v:SV) (K:SV→SSto→Option α):Option α:=(svCells S v).bind fun cs=>K (.raw (.ptr S.length 0 0)) (S++[.cells cs false])
theorem sBox_ok(tok:TOk T P) (hS:StR S σ) (hE:ER S σ τ τ') {t:TypeId}{x:Operand}{v:SV}(ho:o.op= .box t x) (hv:sev τ x=some v) (h:sBox S v K=some r):WOk P N o S σ τ' [] K r:=by
 unfold sBox at h
 obtain⟨cs,hcs,h⟩:=bind_inv h
 obtain⟨d,hd,hvd⟩:=sev_ok hE hv
 obtain⟨ds,h1,h2⟩:=svCells_ok hcs hvd
 have hp:=Pres.push hS.len (.cells cs false) (.cells ds 0 0)
 refine⟨_,_,.ptr σ.length 0 0,.push (.cells ds 0 0),h,fun s _ hs=> ?_,by simp only[VR,hS.len],hS.push ⟨ds,0,rfl,fun _=>rfl,VRs.pres hp _ _ h2⟩,hp,trivial⟩
 refine aop_aop tok ?_
 rw[ho]
 simp only[aop,oBox,hd,h1,Upd.ap,←hs]
def sStoreCells(l o:Nat) (new cs:List SV) (S:SSto) (K:SV→SSto→Option α):Option α:=
 cond (Nat.ble (o+new.length) cs.length) (K (.raw .junk) (S.set l (.cells (cs.take o++new++cs.drop (o+new.length)) false))) none
def svIsCell(S:SSto):SV→Bool
 | .agg _=>false
 | .tup _=>false
 | .raw d=>d.isCell
 | .own l g=>isCur S l g
 | .ap l g _ _=>isCur S l g
 |_=>true
theorem svIsCell_ok{v:SV}{d:D}(h:svIsCell S v=true) (hv:VR S σ v d):d.isCell=true:=by
 cases v<;>(try (simp[svIsCell]at h;done))<;>simp only[svIsCell]at h<;>simp only[VR]at hv
 case own=>obtain⟨t,xs,fz,fr,u,_,_,rfl⟩:=isCur_own h hv;rfl
 case ap=>obtain⟨t,xs,fz,fr,u,_,_,rfl⟩:=isCur_ap h hv;rfl
 case raw=>subst hv;exact h
 all_goals first
  |(subst hv;rfl)
  |(obtain⟨_,rfl,_⟩:=hv;rfl)
  |(obtain⟨_,_,rfl,_⟩:=hv;rfl)
  |(obtain⟨_,_,rfl⟩:=hv;rfl)
theorem allCell_ok:∀{cs:List SV}{ds:List D},cs.all (svIsCell S)=true→VRs S σ cs ds→ds.all D.isCell=true
 |[],_,_,h=>by simp only[VRs]at h;subst h;rfl
 |v::cs,_,hc,h=>by
  simp only[List.all_cons,Bool.and_eq_true]at hc
  simp only[VRs]at h
  obtain⟨e,es,rfl,h1,h2⟩:=h
  simp only[List.all_cons,svIsCell_ok hc.1 h1,allCell_ok hc.2 h2,Bool.and_self]
def sStoreA(S:SSto) (l g:Nat) (i:Int) (o:Nat) (new:List SV) (K:SV→SSto→Option α):Option α:=match S[l]? with
 |some (.arr tc xs fz g')=>cond (Nat.beq g g' && !fz&&Nat.beq o 0&&Nat.beq new.length tc.sz) (cond (inb i xs.length)
  (tc.take new fun x rest=>match rest with
    |[]=>K (.raw .junk) (S.set l (.arr tc (xs.set i.toNat x) false g'))
    |_=>none) none) none
 |_=>none
def sStoreP(S:SSto) (l u o:Nat) (new:List SV) (K:SV→SSto→Option α):Option α:=match S[l]? with
 |some (.cells cs fz)=>cond (Nat.beq u 0&& !fz) (sStoreCells l o new cs S K) none
 |_=>none
def sStore(T:Tys) (S:SSto) (t:TypeId) (p v:SV) (K:SV→SSto→Option α):Option α:=
 (lk T.ld t).bind fun nb=>(svCells S v).bind fun new=>cond (Nat.beq new.length nb.1&&new.all (svIsCell S)) (match p with
   | .raw d=>match d with
     | .ptr l u o=>sStoreP S l u o new K
     |_=>none
   | .ap l g i o=>sStoreA S l g i o new K
   |_=>none) none
theorem flatE_set{β:Type}(E:Enc β) (x:β):∀(xs:List β) (i:Nat),i<xs.length→flatE E (xs.set i x)=(flatE E xs).take (i*E.sz)++E.cells x++(flatE E xs).drop (i*E.sz+E.sz)
 |[],i,h=>by simp at h
 |y::ys,0,h=>by
  simp only[List.set_cons_zero,flatE_cons,Nat.zero_mul,List.take_zero,List.nil_append,Nat.zero_add]
  rw[←E.len y,List.drop_left]
 |y::ys,i+1,h=>by
  have ih:=flatE_set E x ys i (by simpa using h)
  simp only[List.set_cons_succ,flatE_cons,ih]
  have e:(i+1)*E.sz=(E.cells y).length+i*E.sz:=by rw[E.len,Nat.add_mul,Nat.one_mul,Nat.add_comm]
  rw[e,List.take_length_add_append,Nat.add_assoc,List.drop_length_add_append,List.append_assoc,List.append_assoc,List.append_assoc]
theorem sStore_ok(tok:TOk T P) (hS:StR S σ) (hE:ER S σ τ τ') {t:TypeId}{x y:Operand}{p v:SV}(ho:o.op= .store t x y) (hp:sev τ x=some p) (hv:sev τ y=some v)
 (h:sStore T S t p v K=some r):WOk P N o S σ τ' (fpV p) K r:=by
 unfold sStore at h
 obtain⟨nb,hnb,h0⟩:=bind_inv h
 clear h
 obtain⟨new,hnew,h⟩:=bind_inv h0
 clear h0
 rcases cond_inv h with⟨hn,h1⟩|⟨_,h1⟩<;>try (cases h1;done)
 clear h
 simp only[Bool.and_eq_true]at hn
 obtain⟨hn,hcell⟩:=hn
 have hn:=nbeq hn
 obtain⟨dp,hdp,hpd⟩:=sev_ok hE hp
 obtain⟨dv,hdv,hvd⟩:=sev_ok hE hv
 obtain⟨ds,hds,hrs⟩:=svCells_ok hnew hvd
 have hlen:=hrs.length
 have hall:=allCell_ok hcell hrs
 obtain⟨n,b⟩:=nb
 have key:∀(s σ' :Sto),writeAt s dp ds=some σ'→AOp P N o τ' s fun d' s' =>d' = .junk∧s' =σ' :=by
  intro s σ' hw
  refine aop_aop tok ?_
  rw[ho]
  simp only[aop,oStore,hnb,hdp,hdv,hds]
  rw[if_pos (show ds.length=n by rw[hlen];exact hn),hw]
  rfl
 cases p<;>(try (simp at h1;done))
 case raw e=>
  cases e<;>(try (simp at h1;done))
  rename_i l u off
  have h2:sStoreP S l u off new K=some r:=h1
  clear h1
  unfold sStoreP at h2
  split at h2<;>try (cases h2;done)
  rename_i cs fz hl
  rcases cond_inv h2 with⟨hc,h3⟩|⟨_,h3⟩<;>try (cases h3;done)
  clear h2
  simp only[Bool.and_eq_true,Bool.not_eq_true']at hc
  obtain⟨hu,rfl⟩:=hc
  have hu:=nbeq hu
  subst hu
  unfold sStoreCells at h3
  rcases cond_inv h3 with⟨hb,h4⟩|⟨_,h4⟩<;>try (cases h4;done)
  clear h3
  have hb:=Nat.le_of_ble_eq_true hb
  simp only[VR]at hpd
  subst hpd
  obtain⟨a,ha,dcs,fr,rfl,hfr,hcs⟩:=hS.obj _ _ hl
  have hfr:=hfr rfl
  subst hfr
  have hcl:=hcs.length
  have hpr:Pres S σ (S.set l (.cells (cs.take off++new++cs.drop (off+new.length)) false)) (σ.set l (.cells (dcs.take off++ds++dcs.drop (off+ds.length)) 0 0)):=Pres.setCells hS hl
  refine⟨_,_,.junk,.set l (.cells (dcs.take off++ds++dcs.drop (off+ds.length)) 0 0),h4,fun s hs _=> ?_,by simp only[VR],hS.set hl hpr ⟨_,0,rfl,fun _=>rfl,?_⟩,hpr,by simp[fpV,Upd.inFp]⟩
  ·refine key s _ ?_
   have:=hs l (by simp[fpV])
   simp only[writeAt,this,ha]
   rw[if_pos ⟨trivial,Nat.zero_le _,by omega,hall⟩]
   rfl
  ·have hq:VRs S σ (cs.take off++new++cs.drop (off+new.length)) (dcs.take off++ds++dcs.drop (off+ds.length)):=by
    rw[hlen]
    exact((hcs.take off).append hrs).append (hcs.drop _)
   exact VRs.pres hpr _ _ hq
 case ap l g i off=>
  have h2:sStoreA S l g i off new K=some r:=h1
  clear h1
  unfold sStoreA at h2
  split at h2<;>try (cases h2;done)
  rename_i tc xs fz g' hl
  rcases cond_inv h2 with⟨hc,h3⟩|⟨_,h3⟩<;>try (cases h3;done)
  clear h2
  simp only[Bool.and_eq_true,Bool.not_eq_true']at hc
  obtain⟨⟨⟨hg,rfl⟩,hoff⟩,hsz⟩:=hc
  have hg:=nbeq hg
  have hoff:=nbeq hoff
  have hsz:=nbeq hsz
  subst hg hoff
  rcases cond_inv h3 with⟨hib,h4⟩|⟨_,h4⟩<;>try (cases h4;done)
  clear h3
  obtain⟨hi0,hi1⟩:=inb_inv hib
  obtain⟨z,rest,d1,d2,h5,rfl,hw,hr⟩:=TC.take_ok tc _ _ _ _ h4 hrs
  clear h4
  split at h5<;>try (cases h5;done)
  simp only[VRs]at hr
  subst hr
  rw[List.append_nil]at hlen hall hds hrs key
  simp only[VR]at hpd
  obtain⟨fr,u,k4,rfl⟩:=(hpd.2 _ _ _ _ hl).2 rfl
  obtain⟨a,ha,fr',u',hau,hfr⟩:=hS.obj _ _ hl
  rw[k4]at ha
  cases ha
  cases hau
  have hfr:=hfr rfl
  subst hfr
  have hlt:i.toNat<xs.length:=by omega
  have hfl:=flatE_len tc.enc xs
  have hle:i.toNat*tc.sz+tc.sz≤(tc.flat xs).length:=by
   rw[flatE_len,←Nat.succ_mul]
   exact Nat.mul_le_mul_right _ (by omega)
  have hset:=flatE_set tc.enc z xs i.toNat hlt
  have hpr:Pres S σ (S.set l (.arr tc (xs.set i.toNat z) false g)) (σ.set l (.cells (tc.flat (xs.set i.toNat z)) 0 u)):=Pres.setSame hS hl k4 (by simp)
  refine⟨_,_,.junk,.set l (.cells (tc.flat (xs.set i.toNat z)) 0 u),h5,fun s hs hsl=> ?_,by simp only[VR],hS.set hl hpr ⟨0,u,rfl,fun _=>rfl⟩,hpr,by simp[fpV,Upd.inFp]⟩
  have hsl' :=hs l (by simp[fpV])
  have hlt' :l<s.length:=by rw[hsl];exact lt_of_getElem? k4
  refine AOp.weakSet (cs:=(tc.flat xs).take (i.toNat*tc.sz)++d1++(tc.flat xs).drop (i.toNat*tc.sz+tc.sz)) hlt' (key s _ ?_) ?_
  ·have hd1:d1.length=tc.sz:=by omega
   simp only[writeAt,hsl',k4,Nat.add_zero]
   rw[if_pos ⟨trivial,Nat.zero_le _,by omega,hall⟩,hd1]
  ·show Weaks _ (flatE tc.enc (xs.set i.toNat z))
   rw[hset]
   exact Weaks.append (Weaks.append (Weaks.refl _) hw) (Weaks.refl _)
end
end Go.Fw
namespace Go.Fw
open Go.RowKit
section
variable {α:Type}{P:Program}{T:Tys}{N:Nat}{o:Oper}{S:SSto}{σ:Sto}{τ:SEnv}{τ' :Env}{K:SV→SSto→Option α}{r:α}
def sSrc(S:SSto) (tc:TC) (v:SV):Option (List tc.Den):=match v with
 | .own l g=>match S[l]? with
   |some (.arr t xs _ g')=>match decEq t tc with
    |isTrue h=>match Nat.beq g g' with
     |true=>some (h▸xs)
     |false=>none
    |isFalse _=>none
   |_=>none
 | .str s=>match tc with
   | .byte=>some s
   |_=>none
 |v=>asList tc v
theorem sSrc_ok(hS:StR S σ) {tc:TC}{v:SV}{ys:List tc.Den}{d:D}(h:sSrc S tc v=some ys) (hv:VR S σ v d):∀s:Sto,(∀l ∈ fpV v,s[l]? =σ[l]?)→srcD s tc.sz d=some (tc.flat ys,ys.length):=by
 have hl:∀ys:List tc.Den,(tc.flat ys).length=ys.length*tc.sz:=fun ys=>flatE_len _ _
 have gen:asList tc v=some ys→∀s:Sto,srcD s tc.sz d=some (tc.flat ys,ys.length):=by
  intro h s
  obtain⟨f,rfl⟩:=asList_ok h hv
  simp only[srcD,hl,if_true]
 unfold sSrc at h
 split at h
 ·split at h<;>try (cases h;done)
  rename_i l g _ t xs fz g' hl'
  split at h<;>try (cases h;done)
  rename_i e _
  subst e
  split at h<;>try (cases h;done)
  rename_i hg
  have hg:=nbeq hg
  subst hg
  cases h
  simp only[VR]at hv
  obtain⟨fr,u,h4,rfl⟩:=(hv.2 _ _ _ _ hl').2 rfl
  intro s hs
  have:=hs l (by simp[fpV])
  simp only[srcD,this,h4]
  rw[if_pos ⟨trivial,trivial,by rw[hl];omega⟩]
  simp only[List.drop_zero]
  rw[List.take_of_length_le (by rw[hl];exact Nat.le_refl _)]
 ·split at h<;>try (cases h;done)
  have h:=Option.some.inj h
  subst h
  simp only[VR]at hv
  subst hv
  rename_i s0 _
  intro s _
  show srcD s 1 (.str s0)=some (flatE byteE s0,s0.length)
  rw[flat_bytes]
  simp only[srcD,if_true]
 ·exact fun s _=>gen h s
theorem app_inv{β:Type}{by' :Nat}{xs ys zs:List β}(h:app by' xs ys=some zs):((xs.length+ys.length)*by'≤limit∧xs.length+ys.length≤limit)∧zs=xs++ys:=by
 unfold app at h
 split at h<;>try (cases h;done)
 rename_i hb
 cases h
 exact⟨hb,rfl⟩
theorem appD_own{tc:TC}{xs ys zs:List tc.Den}{s:Sto}{l fr u by' :Nat}{x:D}(hl:s[l]? =some (.cells (tc.flat xs) fr u)) (hx:srcD s tc.sz x=some (tc.flat ys,ys.length)) (h:app by' xs ys=some zs):
 appD s tc.sz by' (.sl l u 0 xs.length tc.sz false) x=some (.sl l (if ys.length=0 then u else(tc.flat zs).length) 0 zs.length tc.sz false,s.set l (.cells (tc.flat zs) fr (if ys.length=0 then u else(tc.flat zs).length))):=by
 obtain⟨hb,rfl⟩:=app_inv h
 have hc:(tc.flat ys).all D.isCell=true:=flat_cell _ _
 have hfl:(tc.flat xs).length=xs.length*tc.sz:=flatE_len _ _
 simp only[appD,hx,hc,if_true,hl]
 rw[if_pos ⟨trivial,trivial,by omega⟩]
 by_cases hm:ys.length=0
 ·have hy:ys=[]:=List.eq_nil_of_length_eq_zero hm
  subst hy
  simp only[List.length_nil,if_true,List.append_nil]
  rw[set_same hl]
 ·rw[if_neg hm,if_pos hb]
  have e:tc.flat (xs++ys)=tc.flat xs++tc.flat ys:=flatE_append _ _ _
  simp only[Bool.false_eq_true,if_false,e,if_neg hm]
  rw[if_pos ⟨trivial,hfl.symm⟩]
  simp only[List.length_append]
def sAppOwn(by' sz:Nat) (S:SSto) (l g:Nat) (x:SV) (K:SV→SSto→Option α):Option α:=match S[l]? with
 |some (.arr tc xs fz g')=>cond (Nat.beq g g' &&Nat.beq sz tc.sz) ((sSrc S tc x).bind fun ys=>(app by' xs ys).bind fun zs=>K (.own l (g' +1)) (S.set l (.arr tc zs fz (g' +1)))) none
 |_=>none
def sAppFull(by' :Nat) (S:SSto) (tc:TC) (xs:List tc.Den) (x:SV) (K:SV→SSto→Option α):Option α:=
 (sSrc S tc x).bind fun ys=>(app by' xs ys).bind fun zs=>K (.sl tc zs false) (S++[.junk])
def sApp(T:Tys) (H:Tr TC) (S:SSto) (t tx:TypeId) (v x:SV) (K:SV→SSto→Option α):Option α:=
 (lk2 T.app t tx).bind fun p=>match v with
   | .own l g=>sAppOwn p.2 p.1 S l g x K
   | .sl tc xs f=>cond (f&&Nat.beq p.1 tc.sz) (sAppFull p.2 S tc xs x K) none
   | .nils=>(lk H t).bind fun tc=>cond (Nat.beq p.1 tc.sz) (sAppFull p.2 S tc [] x K) none
   |_=>none
theorem appFull_op{tc:TC}{xs ys zs:List tc.Den}{s:Sto}{by' :Nat}{x:D}(tok:TOk T P) {t tx:TypeId}{a b:Operand}(ho:o.op= .call {callee:= .builtin .append,args:= #[a,b],argTypes:= #[t,tx]}) (h1:lk2 T.app t tx=some (tc.sz,by'))
 (h2:ev τ' a=some (.list (tc.flat xs) xs.length true)) (h3:ev τ' b=some x) (hx:srcD s tc.sz x=some (tc.flat ys,ys.length)) (h:app by' xs ys=some zs):AOp P N o τ' s fun d' s' =>d' = .list (tc.flat zs) zs.length false∧s' =s++[.gone]:=by
 obtain⟨hb,rfl⟩:=app_inv h
 have hc:(tc.flat ys).all D.isCell=true:=flat_cell _ _
 have hfl:(tc.flat xs).length=xs.length*tc.sz:=flatE_len _ _
 have hfy:(tc.flat ys).length=ys.length*tc.sz:=flatE_len _ _
 have e:tc.flat (xs++ys)=tc.flat xs++tc.flat ys:=flatE_append _ _ _
 by_cases hm:ys.length=0
 ·have hy:ys=[]:=List.eq_nil_of_length_eq_zero hm
  subst hy
  have ha:aop T τ' s o.op=some (.list (tc.flat xs) xs.length true,s):=by
   rw[ho]
   show oAppend T τ' s [a,b] [t,tx]=_
   simp only[oAppend,h1,h2,h3,appD,hx,hc,if_true,hfl,List.length_nil]
  intro B G w ac hR hT next Q hn
  refine aop_aop tok ha B G w ac hR hT next Q ?_
  rintro v w' G' d s' k1 k2 k3 ⟨rfl,rfl⟩
  exact hn v w' G' _ _ k1 (Rel.oneMore (ob:= .cells [] 0 0) rfl k2.newObj) (by rw[List.append_nil];exact Weak.list _ _ k3) ⟨rfl,rfl⟩
 ·have ha:aop T τ' s o.op=some (.sl s.length 0 0 (xs.length+ys.length) tc.sz false,s++[.cells (tc.flat xs++tc.flat ys) 0 0]):=by
   rw[ho]
   show oAppend T τ' s [a,b] [t,tx]=_
   simp only[oAppend,h1,h2,h3,appD,hx,hc,if_true,hfl]
   rw[if_neg hm,if_pos ⟨trivial,hb⟩]
  have hz:frzC (s++[.cells (tc.flat xs++tc.flat ys) 0 0]) (.sl s.length 0 0 (xs.length+ys.length) tc.sz false)=some (.list (tc.flat (xs++ys)) (xs++ys).length false,s++[.cells (tc.flat (xs++ys)) (tc.flat (xs++ys)).length 0]):=by
   have e1:(s++[AObj.cells (tc.flat xs++tc.flat ys) 0 0])[s.length]? =some (.cells (tc.flat xs++tc.flat ys) 0 0):=by simp
   simp only[frzC,e1]
   rw[if_pos ⟨trivial,by simp only[List.length_append,hfl,hfy,Nat.add_mul];omega⟩]
   have e2:((tc.flat xs++tc.flat ys).drop 0).take ((xs.length+ys.length)*tc.sz)=tc.flat (xs++ys):=by
    rw[e,List.drop_zero,List.take_of_length_le (by simp only[List.length_append,hfl,hfy,Nat.add_mul];omega)]
   rw[e2]
   simp[e]
  intro B G w ac hR hT next Q hn
  refine(aop_aop tok ha).frz hz B G w ac hR hT next Q ?_
  rintro v w' G' d s' k1 k2 k3 ⟨rfl,rfl⟩
  exact hn v w' G' _ _ k1 (Rel.oneMore rfl k2) k3 ⟨rfl,rfl⟩
theorem sAppFull_ok(tok:TOk T P) (hS:StR S σ) {t tx:TypeId}{a b:Operand}{x:SV}{tc:TC}{xs:List tc.Den}{by' :Nat}{dx:D}{fp:List Nat}(ho:o.op= .call {callee:= .builtin .append,args:= #[a,b],argTypes:= #[t,tx]})
 (h1:lk2 T.app t tx=some (tc.sz,by')) (h2:ev τ' a=some (.list (tc.flat xs) xs.length true)) (h3:ev τ' b=some dx) (hx:VR S σ x dx) (hfp:∀l ∈ fpV x,l ∈ fp) (h:sAppFull by' S tc xs x K=some r):WOk P N o S σ τ' fp K r:=by
 unfold sAppFull at h
 obtain⟨ys,hys,h⟩:=bind_inv h
 obtain⟨zs,hzs,h⟩:=bind_inv h
 have hsrc:=sSrc_ok hS hys hx
 refine⟨_,_,.list (tc.flat zs) zs.length false,.push .gone,h,fun s hs _=> ?_,by simp only[VR];exact⟨false,rfl,fun h=>by cases h⟩,hS.push rfl,Pres.push hS.len _ _,trivial⟩
 exact appFull_op tok ho h1 h2 h3 (hsrc s fun l hl=>hs l (hfp l hl)) hzs
theorem sApp_ok(tok:TOk T P) (hS:StR S σ) (hE:ER S σ τ τ') {H:Tr TC}{t tx:TypeId}{a b:Operand}{v x:SV}(ho:o.op= .call {callee:= .builtin .append,args:= #[a,b],argTypes:= #[t,tx]}) (ha:sev τ a=some v) (hb:sev τ b=some x)
 (h:sApp T H S t tx v x K=some r):WOk P N o S σ τ' (fpV v++fpV x) K r:=by
 unfold sApp at h
 obtain⟨p,hp,h1⟩:=bind_inv h
 clear h
 obtain⟨sz,by'⟩:=p
 obtain⟨dv,hdv,hvd⟩:=sev_ok hE ha
 obtain⟨dx,hdx,hxd⟩:=sev_ok hE hb
 cases v<;>(try (simp at h1;done))
 case own l g=>
  have h2:sAppOwn by' sz S l g x K=some r:=h1
  clear h1
  unfold sAppOwn at h2
  split at h2<;>try (cases h2;done)
  rename_i tc xs fz g' hl
  rcases cond_inv h2 with⟨hc,h3⟩|⟨_,h3⟩<;>try (cases h3;done)
  clear h2
  simp only[Bool.and_eq_true]at hc
  have hg:=nbeq hc.1
  have hz:=nbeq hc.2
  subst hg hz
  obtain⟨ys,hys,h4⟩:=bind_inv h3
  obtain⟨zs,hzs,h5⟩:=bind_inv h4
  clear h3 h4
  have hsrc:=sSrc_ok hS hys hxd
  simp only[VR]at hvd
  obtain⟨fr,u,k4,rfl⟩:=(hvd.2 _ _ _ _ hl).2 rfl
  obtain⟨a',ha',fr',u',hau,hfr⟩:=hS.obj _ _ hl
  rw[k4]at ha'
  cases ha'
  cases hau
  let u2:=if ys.length=0 then u else(tc.flat zs).length
  have hpr:Pres S σ (S.set l (.arr tc zs fz (g+1))) (σ.set l (.cells (tc.flat zs) fr u2)):=Pres.setNext hS hl
  have hlt:=lt_of_getElem? hl
  have hlt' :=hS.lt hl
  refine⟨_,_,.sl l u2 0 zs.length tc.sz false,.set l (.cells (tc.flat zs) fr u2),h5,fun s hs _=> ?_,?_,hS.set hl hpr ⟨fr,u2,rfl,hfr⟩,hpr,?_⟩
  ·have e1:=hs l (by simp[fpV])
   refine aop_aop tok ?_
   rw[ho]
   show oAppend T τ' s [a,b] [t,tx]=_
   simp only[oAppend,hp,hdv,hdx]
   exact appD_own (by rw[e1,k4]) (hsrc s fun j hj=>hs j (by simp[hj])) hzs
  ·simp only[VR]
   exact .mk (xs:=zs) (fz:=fz) (fr:=fr) (u:=u2) (by rw[getElem?_set' hlt,if_pos rfl]) (by simp only[Upd.ap];rw[getElem?_set' hlt',if_pos rfl]) rfl
  ·simp[Upd.inFp,fpV]
 case sl tc xs f=>
  have h2:cond (f&&Nat.beq sz tc.sz) (sAppFull by' S tc xs x K) none=some r:=h1
  clear h1
  rcases cond_inv h2 with⟨hc,h3⟩|⟨_,h3⟩<;>try (cases h3;done)
  simp only[Bool.and_eq_true]at hc
  have hz:=nbeq hc.2
  subst hz
  simp only[VR]at hvd
  obtain⟨f',rfl,hf⟩:=hvd
  have hf:=hf hc.1
  subst hf
  exact sAppFull_ok tok hS ho hp hdv hdx hxd (fun l hl=>by simp[hl]) h3
 case nils=>
  have h2:((lk H t).bind fun tc=>cond (Nat.beq sz tc.sz) (sAppFull by' S tc [] x K) none)=some r:=h1
  clear h1
  obtain⟨tc,_,h3⟩:=bind_inv h2
  rcases cond_inv h3 with⟨hc,h4⟩|⟨_,h4⟩<;>try (cases h4;done)
  have hz:=nbeq hc
  subst hz
  simp only[VR]at hvd
  subst hvd
  have e0:D.list (tc.flat []) ([]:List tc.Den).length true= .list [] 0 true:=by
   show D.list (flatE _ []) _ _=_
   rw[flatE_nil];rfl
  exact sAppFull_ok tok hS ho hp (by rw[e0];exact hdv) hdx hxd (fun l hl=>by simp[hl]) h4
theorem repZ_flat(tc:TC) (x:tc.Den):∀n,repZ (tc.cells x) n=tc.flat (List.replicate n x)
 |0=>by simp only[repZ,List.replicate_zero];exact(flatE_nil _).symm
 |n+1=>by
  simp only[repZ,List.replicate_succ,repZ_flat tc x n]
  exact(flatE_cons _ _ _).symm
theorem repZ_weak{z cs:List D}(h:Weaks z cs):∀n,Weaks (repZ z n) (repZ cs n)
 |0=>rfl
 |n+1=>Weaks.append h (repZ_weak h n)
theorem Weak.slFull{l u o n sz:Nat}{f:Bool}:Weak (.sl l u o n sz f) (.sl l u o n sz false):=by
 intro G v h
 simp only[Rep]at h⊢
 rcases h with⟨b,cap,tot,h1,h2,h3,h4,_,h5⟩|h
 ·exact .inl ⟨b,cap,tot,h1,h2,h3,h4,by simp,h5⟩
 ·exact .inr h
def sMake(T:Tys) (H:Tr TC) (S:SSto) (t:TypeId) (n m:Int) (K:SV→SSto→Option α):Option α:=
 (lk T.bs t).bind fun bs=>(lk T.msl t).bind fun mk=>(lk H t).bind fun tc=>cond (Nat.beq bs.2 tc.sz&&decide (0≤n∧n≤m∧m≤limit∧m.toNat*mk.2≤limit))
   (tc.take (ofDs bs.1) fun x rest=>match rest with
     |[]=>K (.own S.length 0) (S++[.arr tc (List.replicate n.toNat x) false 0])
     |_=>none) none
theorem sMake_ok(tok:TOk T P) (hS:StR S σ) (hE:ER S σ τ τ') {H:Tr TC}{t:TypeId}{a b:Operand}{n m:Int}{k1 k2:IntKind}(ho:o.op= .makeSlice t a b) (ha:sev τ a=some (.int k1 n)) (hb:sev τ b=some (.int k2 m))
 (h:sMake T H S t n m K=some r):WOk P N o S σ τ' [] K r:=by
 unfold sMake at h
 obtain⟨bs,hbs,h1⟩:=bind_inv h
 obtain⟨mk,hmk,h2⟩:=bind_inv h1
 obtain⟨tc,htc,h3⟩:=bind_inv h2
 clear h h1 h2
 rcases cond_inv h3 with⟨hc,h4⟩|⟨_,h4⟩<;>try (cases h4;done)
 clear h3
 simp only[Bool.and_eq_true,decide_eq_true_eq]at hc
 obtain⟨hz,hc⟩:=hc
 have hz:=nbeq hz
 obtain⟨z,sz⟩:=bs
 simp only at hz
 subst hz
 obtain⟨x,rest,d1,d2,h5,hd,hw,hr⟩:=TC.take_ok tc _ _ _ _ h4 (ofDs_ok S σ z)
 split at h5<;>try (cases h5;done)
 simp only[VRs]at hr
 subst hr
 rw[List.append_nil]at hd
 subst hd
 obtain⟨da,hda,hva⟩:=sev_ok hE ha
 obtain⟨db,hdb,hvb⟩:=sev_ok hE hb
 simp only[VR]at hva hvb
 subst hva hvb
 have hx:=repZ_flat tc x n.toNat
 have hp:=Pres.push hS.len (.arr tc (List.replicate n.toNat x) false 0) (.cells (tc.flat (List.replicate n.toNat x)) 0 0)
 refine⟨_,_,.sl σ.length 0 0 (List.replicate n.toNat x).length tc.sz false,.push (.cells (tc.flat (List.replicate n.toNat x)) 0 0),h5,fun s _ hs=> ?_,?_,hS.push ⟨0,0,rfl,fun _=>rfl⟩,hp,trivial⟩
 ·have hop:AOp P N o τ' s fun d' s' =>d' = .sl σ.length 0 0 n.toNat tc.sz (decide (n=m))∧s' =s++[.cells (repZ z n.toNat) 0 0]:=by
   refine aop_aop tok ?_
   rw[ho]
   simp only[aop,oMakeSlice,hda,hdb,mkSlD,hbs,hmk,idxInt]
   rw[if_pos hc,hs]
  rw[←hx]
  simp only[List.length_replicate]
  exact(hop.weak Weak.slFull).weakPush (repZ_weak hw _)
 ·simp only[VR]
  exact .mk (xs:=List.replicate n.toNat x) (fz:=false) (fr:=0) (u:=0) (by simp) (by simp[Upd.ap,hS.len]) (by simp[hS.len])
end
end Go.Fw
