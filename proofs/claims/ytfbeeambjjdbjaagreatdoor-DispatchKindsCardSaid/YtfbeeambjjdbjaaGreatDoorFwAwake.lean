import Derived.Test.YtfbeeambjjdbjaaGreatDoorFwKind
namespace Go.Proofs.Tryz
open Go Go.Fw
/-- what is at hand when the fixed calls are run. -/
def K1 : FuncId → List D → Option D := fun f ds => match Nat.beq f 6 with
  | true => match ds with
    | [.str s] => some (.int .i64 (kindOf s))
    | _ => none
  | false => none
theorem fnok6 : FnOk prog 6 := (fok_of (f := 6) (fn := f6) (by kernel_rfl)).2
theorem K1_ok : KOk prog K1 := by
  intro f ds d h
  unfold K1 at h
  split at h <;> try (cases h; done)
  rename_i hf
  have hf := nbeq hf
  subst hf
  split at h <;> try (cases h; done)
  cases h
  exact ⟨fnok6, kind_ok _⟩
end Go.Proofs.Tryz
