/- Contracts of Go functions of this seat: each Lean function here is what the Go function of its name answers, in every memory; no condition but the equations that each theorem states. Written by a program of this session (wip/given.py); Lean checks it. -/
import Derived.Test.YtmigbinllnejoaaPx0
namespace Go.Proofs.Ytmigbinllnejoaa.P
open Go.RowKit Go.Proofs.YtmigbinllnejoaaW.PrintWords Go.Proofs.YtmigbinllnejoaaW.PrintLast Go.Proofs.YtmigbinllnejoaaW.PrintMore
attribute [local go_sem] max2_int min2_int max_two min_two max_three min_three max_four min_four   -- for this text's walks alone
set_option linter.unusedVariables false
set_option linter.unusedSimpArgs false

/-! ### tiles_Cell: function 17 -/
def tiles_Cell.f (a0 : Bool) (a1 : Int) (a2 : Int) : Option (Int) := if a0 = true then (some (Go.bits .or .i64 (Go.bits .or .i64 7168 (wrap64 ((wrap64 (a2 / 8)) * 32))) (wrap64 (a1 / 8)))) else (some (Go.bits .or .i64 (Go.bits .or .i64 6144 (wrap64 ((wrap64 (a2 / 8)) * 32))) (wrap64 (a1 / 8))))
set_option maxHeartbeats 8000000 in
set_option maxRecDepth 100000 in
theorem tiles_Cell.calls (a0 : Bool) (a1 : Int) (a2 : Int) (r : Int) (w : World) (h : tiles_Cell.f a0 a1 a2 = some r) :
    Calls Try.prog 17 #[.bool a0, .int .u8 a1, .int .u8 a2] w fun e w' => e = .returned (.int .i64 r) ∧ Drawn0 w w' := by
  have H : (if a0 = true then (some (Go.bits .or .i64 (Go.bits .or .i64 7168 (wrap64 ((wrap64 (a2 / 8)) * 32))) (wrap64 (a1 / 8)))) else (some (Go.bits .or .i64 (Go.bits .or .i64 6144 (wrap64 ((wrap64 (a2 / 8)) * 32))) (wrap64 (a1 / 8))))) = some r := h
  clear h
  by_cases c4 : a0 = true
  · subst c4
    have H1 : (some (Go.bits .or .i64 (Go.bits .or .i64 7168 (wrap64 ((wrap64 (a2 / 8)) * 32))) (wrap64 (a1 / 8)))) = some r := by rw [if_pos rfl] at H; exact H
    clear H
    have H := H1
    clear H1
    obtain rfl := Option.some.inj H
    go_enter Try.func17, Try.ntmps17
    go_wp2
    go_ret
    exact ⟨by first | rfl | (simp; done) | (simp [*]; done), by repeat (first | exact Drawn0.refl _ | apply Drawn0.step)⟩
  · replace c4 := Bool.eq_false_iff.mpr c4
    subst c4
    have H1 : (some (Go.bits .or .i64 (Go.bits .or .i64 6144 (wrap64 ((wrap64 (a2 / 8)) * 32))) (wrap64 (a1 / 8)))) = some r := by rw [if_neg (show ¬ (false = true) by decide)] at H; exact H
    clear H
    have H := H1
    clear H1
    obtain rfl := Option.some.inj H
    go_enter Try.func17, Try.ntmps17
    go_wp2
    go_ret
    exact ⟨by first | rfl | (simp; done) | (simp [*]; done), by repeat (first | exact Drawn0.refl _ | apply Drawn0.step)⟩

end Go.Proofs.Ytmigbinllnejoaa.P
