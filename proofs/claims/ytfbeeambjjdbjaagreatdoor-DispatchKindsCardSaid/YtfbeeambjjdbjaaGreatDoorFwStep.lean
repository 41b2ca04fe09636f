import Derived.Test.YtfbeeambjjdbjaaGreatDoorFwReg
namespace Go.Fw
open Go.RowKit

section
variable {P : Program} {T : Tys} {K : FuncId → List D → Option D} {N : Nat} {all : Array Oper} {o : Oper} {r : List Oper} {τ τ' : Env} {σ σ' : Sto} {d : D} {Kt : Env → Sto → Prop}

theorem go1 (tok : TOk T P) (kok : KOk P K) (h1 : wantD all τ o = some true) (h2 : opE T K τ σ o.op = some (d, σ')) (h3 : putD N o.dst d τ = some τ') (h : AOps P N all r τ' σ' Kt) : AOps P N all (o :: r) τ σ Kt :=
  .inl ⟨h1, (aop_E tok kok h2).mono (by rintro d' s ⟨rfl, rfl⟩; exact ⟨τ', h3, h⟩)⟩

theorem no1 (h1 : wantD all τ o = some false) (h3 : putD N o.dst (.tuple []) τ = some τ') (h : AOps P N all r τ' σ Kt) : AOps P N all (o :: r) τ σ Kt :=
  .inr ⟨h1, τ', h3, h⟩

def endQ (T : Tys) (rs : List ResultVar) (d : D) : AEx → Env → Sto → Prop := fun e τ' σ' =>
  (e = .normal ∨ e = .ret) ∧ ∃ d', resD T rs τ' σ' = some d' ∧ ∃ σ'', frzR σ' d' = some (d, σ'') ∧ d.pure = true

theorem body1 {i : Bool} (tok : TOk T P) {f : FuncId} {fn : Func} {c : Code} {ds : List D} {d : D} (hf : P.funcs[f]? = some fn) (hb : fn.body = some c) (hn : Nat.ble ds.length fn.ntmps = true) (hp : pureL ds = true)
    (h : AWp i P fn.ntmps c (env0 0 ds) [] (endQ T fn.results.toList d)) : PureOK P f ds d :=
  pure_of_body tok hf hb (Nat.le_of_ble_eq_true hn) hp h

theorem end_ret {rs : List ResultVar} {d d' : D} {σ'' : Sto} (h1 : resD T rs τ σ = some d') (h2 : frzR σ d' = some (d, σ'')) (h3 : d.pure = true) : endQ T rs d .ret τ σ :=
  ⟨.inr rfl, d', h1, σ'', h2, h3⟩
theorem end_normal {rs : List ResultVar} {d d' : D} {σ'' : Sto} (h1 : resD T rs τ σ = some d') (h2 : frzR σ d' = some (d, σ'')) (h3 : d.pure = true) : endQ T rs d .normal τ σ :=
  ⟨.inl rfl, d', h1, σ'', h2, h3⟩
end
end Go.Fw
