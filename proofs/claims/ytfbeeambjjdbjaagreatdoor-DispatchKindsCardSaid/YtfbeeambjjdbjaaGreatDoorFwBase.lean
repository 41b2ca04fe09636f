import Derived.Test.YtfbeeambjjdbjaaGreatDoorFwTy
namespace Go.Proofs.Tryz
open Go Go.Fw
def noK : FuncId → List D → Option D := fun _ _ => none
theorem noK_ok (P : Program) : KOk P noK := fun _ _ _ h => by cases h
theorem mixed : prog.follows .mixedOrders = true := by kernel_rfl
end Go.Proofs.Tryz
