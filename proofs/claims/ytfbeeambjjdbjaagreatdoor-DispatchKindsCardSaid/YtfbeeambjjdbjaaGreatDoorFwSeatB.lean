import Derived.Test.YtfbeeambjjdbjaaGreatDoorFwSeatA
namespace Go.Fw
open Go.RowKit
def intE (k : IntKind) : Enc Int := ⟨1, fun n => [.int k n], fun _ => rfl⟩
def strE : Enc (List UInt8) := ⟨1, fun s => [.str s], fun _ => rfl⟩

theorem find_none {k : Int} : ∀ (ns : List Int) (j : Nat), (∀ n ∈ ns, k ≠ n) → findD .i (.int .i64 k) (ns.map (.int .i64 ·)) j = some none
  | [], _, _ => rfl
  | n :: ns, j, h => by
    have h1 : (k == n) = false := by simpa using h n (List.mem_cons_self ..)
    simp only [List.map_cons, findD, cellEq, if_true, h1]
    exact find_none ns (j + 1) fun m hm => h m (List.mem_cons_of_mem _ hm)

theorem op_look_none {T : Tys} {τ : Env} {σ : Sto} {t : TypeId} {m k : Operand} {lk' : LK} {z d : D} {ks vs : List D} (h1 : lk T.map t = some (lk', z)) (h2 : ev τ m = some (.cmap ks vs)) (h3 : ev τ k = some d) (h4 : findD lk' d ks 0 = some none) :
    aop T τ σ (.lookup t m k false) = some (z, σ) := by
  simp [aop, oLookup, h1, h2, h3, lookD, lookKV, h4, lookFin]
/-- a run that hands back a string. -/
def runS (call : CallF) (f : FuncId) (ds : List D) (s : List UInt8) : Bool := match call f ds [] with
  | some (.str s', []) => decide (s' = s)
  | _ => false
theorem runS_ok {P : Program} {K : FuncId → List D → Option D} {T : Tys} {n : Nat} (hTy : TOk T P) (hK : KOk P K) (hm : P.follows .mixedOrders = true) {f : FuncId} {ds : List D} {s : List UInt8} (hp : pureL ds = true) (h : runS (xcall K P T n) f ds s = true) : PureOK P f ds (.str s) := by
  unfold runS at h
  split at h <;> try (cases h; done)
  rename_i s' hx
  have h := of_decide_eq_true h
  subst h
  exact pure_of_run (n := n) hTy hK hm hp rfl rfl hx
/-- a run that hands back a number. -/
def runI (call : CallF) (f : FuncId) (ds : List D) (s : Int) : Bool := match call f ds [] with
  | some (.int .i64 s', []) => decide (s' = s)
  | _ => false
theorem runI_ok {P : Program} {K : FuncId → List D → Option D} {T : Tys} {n : Nat} (hTy : TOk T P) (hK : KOk P K) (hm : P.follows .mixedOrders = true) {f : FuncId} {ds : List D} {s : Int} (hp : pureL ds = true) (h : runI (xcall K P T n) f ds s = true) : PureOK P f ds (.int .i64 s) := by
  unfold runI at h
  split at h <;> try (cases h; done)
  rename_i s' hx
  have h := of_decide_eq_true h
  subst h
  exact pure_of_run (n := n) hTy hK hm hp rfl rfl hx
end Go.Fw
namespace Go.Proofs.Tryz
open Go Go.Fw
set_option maxHeartbeats 1000000
theorem awake_ok : PureOK prog 4 [] (.bool true) := pure_of_run (n := 30) tok K2_ok mixed rfl rfl rfl (by kernel_rfl)
theorem fnok4 : FnOk prog 4 := (fok_of (f := 4) (fn := f4) (by kernel_rfl)).2
def kindNames : List (List UInt8) := kindsV.map fun d => match d with | .agg (_ :: .str s :: _) => s | _ => []
theorem kindsK_eq : kindsK = kindNos.map (.int .i64 ·) := by kernel_rfl
def sel (k : Int) : List Int → List (List UInt8) → List UInt8
  | n :: ns, s :: ss => if n = k then s else sel k ns ss
  | _, _ => []
def idOf (k : Int) : List UInt8 := sel k kindNos kindIds
def nameOf (k : Int) : List UInt8 := sel k kindNos kindNames
theorem sel_none {k : Int} : ∀ (ns : List Int) (ss : List (List UInt8)), (∀ n ∈ ns, k ≠ n) → sel k ns ss = []
  | [], _, _ => by simp [sel]
  | n :: ns, [], _ => by simp [sel]
  | n :: ns, s :: ss, h => by
    have h1 : n ≠ k := fun e => h n (List.mem_cons_self ..) e.symm
    simp only [sel, h1, if_false]
    exact sel_none ns ss fun m hm => h m (List.mem_cons_of_mem _ hm)
def K3 : FuncId → List D → Option D := fun f ds => match Nat.beq f 13 with
  | true => match ds with
    | [] => some (.cmap kindsK kindsV)
    | _ => none
  | false => K2 f ds
theorem K3_ok : KOk prog K3 := by
  intro f ds d h
  unfold K3 at h
  split at h
  · rename_i hf
    have hf := nbeq hf
    subst hf
    split at h <;> try (cases h; done)
    cases h
    exact ⟨fnok13, kinds_ok⟩
  · exact K2_ok f ds d h

theorem id_all : (kindNos.all fun k => runS (xcall K3 prog T 20) 5 [.int .i64 k] (idOf k)) = true := by kernel_rfl
theorem name_all : (kindNos.all fun k => runS (xcall K3 prog T 20) 8 [.int .i64 k] (nameOf k)) = true := by kernel_rfl
theorem rid_all : (kindNos.all fun k => runS (xcall K3 prog T 20) 7 [.int .i64 k] (idOf k)) = true := by kernel_rfl
theorem rname_all : (kindNos.all fun k => runS (xcall K3 prog T 20) 9 [.int .i64 k] (nameOf k)) = true := by kernel_rfl

theorem id_ok (k : Int) : PureOK prog 5 [.int .i64 k] (.str (idOf k)) := by
  by_cases hk : k ∈ kindNos
  · exact runS_ok tok K3_ok mixed rfl (List.all_eq_true.1 id_all k hk)
  · have hk' : ∀ n ∈ kindNos, k ≠ n := fun n hn e => hk (e ▸ hn)
    have hs : idOf k = [] := sel_none _ _ hk'
    rw [hs]
    refine body1 (i := false) tok func5 rfl rfl rfl ?_
    repeat first | refine awp_seq ?_ | refine awp_region ?_
    refine go1 tok (noK_ok _) rfl rfl rfl ?_
    repeat first | refine awp_seq ?_ | refine awp_region ?_
    refine goC tok rfl rfl rfl rfl fnok13 kinds_ok rfl ?_
    refine go1 tok (noK_ok _) rfl rfl rfl ?_
    refine goA tok rfl (op_look_none rfl rfl rfl (by rw [kindsK_eq]; exact find_none _ _ hk')) rfl ?_
    repeat refine go1 tok (noK_ok _) rfl rfl rfl ?_
    exact awp_ret (end_ret rfl rfl rfl)
theorem name_ok (k : Int) : PureOK prog 8 [.int .i64 k] (.str (nameOf k)) := by
  by_cases hk : k ∈ kindNos
  · exact runS_ok tok K3_ok mixed rfl (List.all_eq_true.1 name_all k hk)
  · have hk' : ∀ n ∈ kindNos, k ≠ n := fun n hn e => hk (e ▸ hn)
    have hs : nameOf k = [] := sel_none _ _ hk'
    rw [hs]
    refine body1 (i := false) tok func8 rfl rfl rfl ?_
    repeat first | refine awp_seq ?_ | refine awp_region ?_
    refine go1 tok (noK_ok _) rfl rfl rfl ?_
    repeat first | refine awp_seq ?_ | refine awp_region ?_
    refine goC tok rfl rfl rfl rfl fnok13 kinds_ok rfl ?_
    refine go1 tok (noK_ok _) rfl rfl rfl ?_
    refine goA tok rfl (op_look_none rfl rfl rfl (by rw [kindsK_eq]; exact find_none _ _ hk')) rfl ?_
    repeat refine go1 tok (noK_ok _) rfl rfl rfl ?_
    exact awp_ret (end_ret rfl rfl rfl)
end Go.Proofs.Tryz
