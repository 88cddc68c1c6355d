/- header's deferred closures: what they do where the frame below returns, and where it panics with an error's number. No condition but the hypotheses that stand in each. -/
import Derived.Test.YtgkoghgiclkbhaaGreatDoorProg
import Derived.Tactics
import Derived.Tactics2
import Derived.Defers
import Derived.Recover
import Derived.Laws.Pointers
import Derived.KernelRfl
namespace Go.Proofs.YtgkoghgiclkbhaaGreatDoor.Sx
open Go
set_option linter.unusedVariables false
set_option linter.unusedSimpArgs false
theorem under25 : Tryz.prog.underlying 25 = some (.int .i64) := by kernel_rfl
theorem run_assert25 (n : Int) (w : World) : (Instr.typeAssert (.iface 25 (.int .i64 n)) 20 25 true).run Tryz.prog w = .ok (.tuple #[.int .i64 n, .bool true]) w := by
  simp only [Instr.typeAssert, Sem.run_bind, run_underlying under25, Result.andThen_ok]
  simp
theorem run_neq_nil (w : World) : (binOp BinOp.neq 20 Value.nilIface Value.nilIface).run Tryz.prog w = .ok (.bool false) w := by kernel_rfl
theorem run_neq_err (n : Int) (w : World) : (binOp BinOp.neq 20 (Value.iface 25 (.int .i64 n)) Value.nilIface).run Tryz.prog w = .ok (.bool true) w := by kernel_rfl
set_option maxRecDepth 100000 in
theorem given_calls (n : Int) (w : World) : Calls Tryz.prog 31 #[.iface 25 (.int .i64 n)] w fun e w' => e = .returned (.int .i64 n) ∧ w' = w := by
  have hta := run_assert25 n
  have hnot : ∀ w, (Op.unary UnOp.not (Value.bool true)).run Tryz.prog w = .ok (.bool false) w := fun _ => rfl
  go_enter Tryz.func31, Tryz.ntmps31
  go_wp2
  exact ⟨rfl, _, results_tmp rfl _ _ _, rfl, rfl⟩
set_option maxRecDepth 100000 in
theorem c72_idle (p : Addr) (w : World) : CallsD Tryz.prog 72 #[.pointer (some p)] .returning w fun e u' w' => e = .returned (.tuple #[]) ∧ u' = .returning ∧ w' = w := by
  refine callsD_of_wpS Tryz.func72 rfl fun c₀ cs hu => ?_
  apply wpS_seq
  apply wpS_region
  simp [wpOpsS, go_sem, recoverD, hu, Tryz.ntmps72, Exit.thenS]
  apply wpS_seq
  apply wpS_region
  simp [wpOpsS, go_sem, Exit.thenS, run_neq_nil]
  refine wpS_cond (t := false) (by simp [Act.eval, Array.replicate]) ?_
  simp only [Bool.false_eq_true, if_false]
  refine wpS_of_wp (wp_skip ?_)
  cases c₀
  simp_all [bodyPostS, results, Tryz.results72]
set_option maxRecDepth 100000 in
theorem c72_panic (p : Addr) (n : Int) (older : List PanicEntry) (w w1 : World) (hst : (storeCells p [.int .i64 n]).run Tryz.prog w = .ok () w1) :
    CallsD Tryz.prog 72 #[.pointer (some p)] (.panicking ({ v := .iface 25 (.int .i64 n), recovered := false } :: older)) w fun e u' w' =>
      e = .returned (.tuple #[]) ∧ u' = .panicking ({ v := .iface 25 (.int .i64 n), recovered := true } :: older) ∧ w' = w1 := by
  refine callsD_of_wpS Tryz.func72 rfl fun c₀ cs hu => ?_
  apply wpS_seq
  apply wpS_region
  simp [wpOpsS, go_sem, recoverD, hu, Tryz.ntmps72, Exit.thenS]
  apply wpS_seq
  apply wpS_region
  simp [wpOpsS, go_sem, Exit.thenS, run_neq_err]
  refine wpS_cond (t := true) (by simp [Act.eval, Array.replicate]) ?_
  simp only [if_true]
  apply wpS_region
  simp [wpOpsS, go_sem]
  refine (given_calls n w).mono ?_
  rintro e w' ⟨rfl, rfl⟩
  simp [hst, bodyPostS, results, Tryz.results72, Oper.upon, Act.put]
set_option maxRecDepth 100000 in
theorem c30_idle (p : Addr) (w : World) : CallsD Tryz.prog 30 #[.pointer (some p)] .returning w fun e u' w' => e = .returned (.tuple #[]) ∧ u' = .returning ∧ w' = w := by
  refine callsD_of_wpS Tryz.func30 rfl fun c₀ cs hu => ?_
  apply wpS_seq
  apply wpS_region
  simp [wpOpsS, go_sem, recoverD, hu, Tryz.ntmps30, Exit.thenS]
  apply wpS_seq
  apply wpS_region
  simp [wpOpsS, go_sem, Exit.thenS, run_neq_nil]
  refine wpS_cond (t := false) (by simp [Act.eval, Array.replicate]) ?_
  simp only [Bool.false_eq_true, if_false]
  refine wpS_of_wp (wp_skip ?_)
  cases c₀
  simp_all [bodyPostS, results, Tryz.results30]
set_option maxRecDepth 100000 in
theorem c30_panic (p : Addr) (n : Int) (older : List PanicEntry) (w w1 : World) (hst : (storeCells p [.int .i64 n]).run Tryz.prog w = .ok () w1) :
    CallsD Tryz.prog 30 #[.pointer (some p)] (.panicking ({ v := .iface 25 (.int .i64 n), recovered := false } :: older)) w fun e u' w' =>
      e = .returned (.tuple #[]) ∧ u' = .panicking ({ v := .iface 25 (.int .i64 n), recovered := true } :: older) ∧ w' = w1 := by
  refine callsD_of_wpS Tryz.func30 rfl fun c₀ cs hu => ?_
  apply wpS_seq
  apply wpS_region
  simp [wpOpsS, go_sem, recoverD, hu, Tryz.ntmps30, Exit.thenS]
  apply wpS_seq
  apply wpS_region
  simp [wpOpsS, go_sem, Exit.thenS, run_neq_err]
  refine wpS_cond (t := true) (by simp [Act.eval, Array.replicate]) ?_
  simp only [if_true]
  apply wpS_region
  simp [wpOpsS, go_sem]
  refine (given_calls n w).mono ?_
  rintro e w' ⟨rfl, rfl⟩
  simp [hst, bodyPostS, results, Tryz.results30, Oper.upon, Act.put]
end Go.Proofs.YtgkoghgiclkbhaaGreatDoor.Sx
