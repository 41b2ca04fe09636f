import Derived.Test.YtfbeeambjjdbjaaGreatDoorFwAwake
import Derived.Test.YtfbeeambjjdbjaaGreatDoorFwClone
namespace Go.Proofs.Tryz
open Go Go.Fw
set_option maxHeartbeats 1000000
theorem us26 : prog.underlying 26 = some (.slice 5) := by kernel_rfl
theorem clone78 {cs : List D} {n : Nat} {f : Bool} (hl : cs.length = n * 1) (hc : cs.all D.isCell = true) (hp : pureL cs = true) (hb : n * 1 ≤ limit) : PureOK prog 78 [.list cs n f] (.list cs n (Nat.beq n 0)) := by
  have hp1 : (D.list cs n f).pure = true := by simp only [D.pure]; exact hp
  have hz : ∀ b : Bool, n = 0 → cs = [] := fun b h => by subst h; simpa using hl
  refine body1 (i := false) tok func78 rfl rfl (by simp only [pureL, hp1]; rfl) ?_
  repeat first | refine awp_seq ?_ | refine awp_region ?_
  refine go1 tok (noK_ok _) rfl rfl rfl ?_
  repeat first | refine awp_seq ?_ | refine awp_region ?_
  refine go1 tok (noK_ok _) rfl rfl rfl ?_
  refine go_nilEq rfl rfl us26 rfl rfl rfl (fun b hb0 => ?_)
  by_cases hn : n = 0
  · have hcs := hz true hn
    subst hn hcs
    cases b
    · refine awp_condF rfl (awp_skip ?_)
      repeat first | refine awp_seq ?_ | refine awp_region ?_
      repeat refine go1 tok (noK_ok _) rfl rfl rfl ?_
      exact awp_ret (end_ret rfl rfl rfl)
    · refine awp_condT rfl ?_
      repeat first | refine awp_seq ?_ | refine awp_region ?_
      repeat refine go1 tok (noK_ok _) rfl rfl rfl ?_
      exact awp_ret (end_ret rfl rfl rfl)
  · have hb1 : b = false := by
      cases b with
      | false => rfl
      | true => have := hb0 rfl; subst this; simp at hl; omega
    subst hb1
    have hnb : Nat.beq n 0 = false := by cases n with | zero => exact absurd rfl hn | succ => rfl
    refine awp_condF rfl (awp_skip ?_)
    repeat first | refine awp_seq ?_ | refine awp_region ?_
    iterate 2 refine go1 tok (noK_ok _) rfl rfl rfl ?_
    refine goA tok rfl (app_new rfl rfl rfl (by omega) hl hc hb (by omega)) rfl ?_
    repeat refine go1 tok (noK_ok _) rfl rfl rfl ?_
    rw [hnb]
    exact awp_ret (end_ret rfl (frz_own rfl hl) (by simp only [D.pure]; exact hp))
theorem fnok78 : FnOk prog 78 := (fok_of (f := 78) (fn := f78) (by kernel_rfl)).2
def K2 : FuncId → List D → Option D := fun f ds => match Nat.beq f 78 with
  | true => match ds with
    | [.list cs n _] => match Nat.beq cs.length n && (cs.all D.isCell && (pureL cs && Nat.ble n limit)) with
      | true => some (.list cs n (Nat.beq n 0))
      | false => none
    | _ => none
  | false => K1 f ds
theorem K2_ok : KOk prog K2 := by
  intro f ds d h
  unfold K2 at h
  split at h
  · rename_i hf
    have hf := nbeq hf
    subst hf
    split at h <;> try (cases h; done)
    split at h <;> try (cases h; done)
    rename_i hc
    simp only [Bool.and_eq_true] at hc
    cases h
    have h1 := nbeq hc.1
    have h2 := Nat.le_of_ble_eq_true hc.2.2.2
    exact ⟨fnok78, clone78 (by omega) hc.2.1 hc.2.2.1 (by omega)⟩
  · exact K1_ok f ds d h
end Go.Proofs.Tryz
