/- Contracts of Go functions of this seat: each Lean function here is what the Go function of its name answers, in every memory; no condition but the equations that each theorem states. Written by a program of this session (wip/given.py); Lean checks it. -/
import Derived.Test.YtmigbinllnejoaaPx0
namespace Go.Proofs.Ytmigbinllnejoaa.P
open Go.RowKit Go.Proofs.YtmigbinllnejoaaW.PrintWords Go.Proofs.YtmigbinllnejoaaW.PrintLast Go.Proofs.YtmigbinllnejoaaW.PrintMore
attribute [local go_sem] max2_int min2_int max_two min_two max_three min_three max_four min_four   -- for this text's walks alone
set_option linter.unusedVariables false
set_option linter.unusedSimpArgs false

/-! ### tiles_Place: function 15 -/
def tiles_Place.f (a0 : Int) (a1 : Bool) (a2 : Int) : Option (Int) := if a1 = true then (some (wrap64 ((wrap64 (4096 + (wrap64 ((wrap64 (IntKind.i8.wrap (a0))) * 16)))) + (wrap64 (2 * (Go.bits .and .i64 a2 7)))))) else (some (wrap64 ((wrap64 ((wrap64 (a0)) * 16)) + (wrap64 (2 * (Go.bits .and .i64 a2 7))))))
set_option maxHeartbeats 8000000 in
set_option maxRecDepth 100000 in
theorem tiles_Place.calls (a0 : Int) (a1 : Bool) (a2 : Int) (r : Int) (w : World) (h : tiles_Place.f a0 a1 a2 = some r) :
    Calls Try.prog 15 #[.int .u8 a0, .bool a1, .int .i64 a2] w fun e w' => e = .returned (.int .i64 r) ∧ Drawn0 w w' := by
  have H : (if a1 = true then (some (wrap64 ((wrap64 (4096 + (wrap64 ((wrap64 (IntKind.i8.wrap (a0))) * 16)))) + (wrap64 (2 * (Go.bits .and .i64 a2 7)))))) else (some (wrap64 ((wrap64 ((wrap64 (a0)) * 16)) + (wrap64 (2 * (Go.bits .and .i64 a2 7))))))) = some r := h
  clear h
  by_cases c4 : a1 = true
  · subst c4
    have H1 : (some (wrap64 ((wrap64 (4096 + (wrap64 ((wrap64 (IntKind.i8.wrap (a0))) * 16)))) + (wrap64 (2 * (Go.bits .and .i64 a2 7)))))) = some r := by rw [if_pos rfl] at H; exact H
    clear H
    have H := H1
    clear H1
    obtain rfl := Option.some.inj H
    go_enter Try.func15, Try.ntmps15
    go_wp2
    go_ret
    exact ⟨by first | rfl | (simp; done) | (simp [*]; done), by repeat (first | exact Drawn0.refl _ | apply Drawn0.step)⟩
  · replace c4 := Bool.eq_false_iff.mpr c4
    subst c4
    have H1 : (some (wrap64 ((wrap64 ((wrap64 (a0)) * 16)) + (wrap64 (2 * (Go.bits .and .i64 a2 7)))))) = some r := by rw [if_neg (show ¬ (false = true) by decide)] at H; exact H
    clear H
    have H := H1
    clear H1
    obtain rfl := Option.some.inj H
    go_enter Try.func15, Try.ntmps15
    go_wp2
    go_ret
    exact ⟨by first | rfl | (simp; done) | (simp [*]; done), by repeat (first | exact Drawn0.refl _ | apply Drawn0.step)⟩

end Go.Proofs.Ytmigbinllnejoaa.P
