/- Contracts of Go functions of this seat: each Lean function here is what the Go function of its name answers, in every memory; no condition but the equations that each theorem states. Written by a program of this session (wip/given.py); Lean checks it. -/
import Derived.Test.YtmigbinllnejoaaPx0
namespace Go.Proofs.Ytmigbinllnejoaa.P
open Go.RowKit Go.Proofs.YtmigbinllnejoaaW.PrintWords Go.Proofs.YtmigbinllnejoaaW.PrintLast Go.Proofs.YtmigbinllnejoaaW.PrintMore
attribute [local go_sem] max2_int min2_int max_two min_two max_three min_three max_four min_four   -- for this text's walks alone
set_option linter.unusedVariables false
set_option linter.unusedSimpArgs false

/-! ### tiles_Shade: function 19 -/
set_option maxHeartbeats 400000 in
theorem tiles_Shade.p0 (a0 a1 : Int) (w : World) (hq : Go.bits .and .u8 a1 3 = 0) :
    Calls Try.prog 19 #[.int .u8 a0, .int .u8 a1] w fun e w' => e = .returned (.int .u8 (Go.bits .and .u8 a0 3)) ∧ Drawn0 w w' := by
  go_enter Try.func19, Try.ntmps19
  go_wp2
  go_ret
  exact ⟨rfl, by repeat (first | exact Drawn0.refl _ | apply Drawn0.step)⟩
set_option maxHeartbeats 400000 in
theorem tiles_Shade.p1 (a0 a1 : Int) (w : World) (hq : Go.bits .and .u8 a1 3 = 1) :
    Calls Try.prog 19 #[.int .u8 a0, .int .u8 a1] w fun e w' => e = .returned (.int .u8 (Go.bits .and .u8 (a0 / 4) 3)) ∧ Drawn0 w w' := by
  go_enter Try.func19, Try.ntmps19
  go_wp2
  go_ret
  exact ⟨rfl, by repeat (first | exact Drawn0.refl _ | apply Drawn0.step)⟩
set_option maxHeartbeats 400000 in
theorem tiles_Shade.p2 (a0 a1 : Int) (w : World) (hq : Go.bits .and .u8 a1 3 = 2) :
    Calls Try.prog 19 #[.int .u8 a0, .int .u8 a1] w fun e w' => e = .returned (.int .u8 (Go.bits .and .u8 (a0 / 16) 3)) ∧ Drawn0 w w' := by
  go_enter Try.func19, Try.ntmps19
  go_wp2
  go_ret
  exact ⟨rfl, by repeat (first | exact Drawn0.refl _ | apply Drawn0.step)⟩
set_option maxHeartbeats 400000 in
theorem tiles_Shade.p3 (a0 a1 : Int) (w : World) (hq : Go.bits .and .u8 a1 3 = 3) :
    Calls Try.prog 19 #[.int .u8 a0, .int .u8 a1] w fun e w' => e = .returned (.int .u8 (Go.bits .and .u8 (a0 / 64) 3)) ∧ Drawn0 w w' := by
  go_enter Try.func19, Try.ntmps19
  go_wp2
  go_ret
  exact ⟨rfl, by repeat (first | exact Drawn0.refl _ | apply Drawn0.step)⟩
def tiles_Shade.f (a0 : Int) (a1 : Int) : Option (Int) := if Go.bits .and .u8 a1 3 = 0 then some (Go.bits .and .u8 a0 3) else if Go.bits .and .u8 a1 3 = 1 then some (Go.bits .and .u8 (a0 / 4) 3) else if Go.bits .and .u8 a1 3 = 2 then some (Go.bits .and .u8 (a0 / 16) 3) else if Go.bits .and .u8 a1 3 = 3 then some (Go.bits .and .u8 (a0 / 64) 3) else none
theorem tiles_Shade.calls (a0 : Int) (a1 : Int) (r : Int) (w : World) (h : tiles_Shade.f a0 a1 = some r) :
    Calls Try.prog 19 #[.int .u8 a0, .int .u8 a1] w fun e w' => e = .returned (.int .u8 r) ∧ Drawn0 w w' := by
  unfold tiles_Shade.f at h
  by_cases c0 : Go.bits .and .u8 a1 3 = 0
  · rw [if_pos c0] at h
    obtain rfl := Option.some.inj h
    exact tiles_Shade.p0 a0 a1 w c0
  · rw [if_neg c0] at h
    by_cases c1 : Go.bits .and .u8 a1 3 = 1
    · rw [if_pos c1] at h
      obtain rfl := Option.some.inj h
      exact tiles_Shade.p1 a0 a1 w c1
    · rw [if_neg c1] at h
      by_cases c2 : Go.bits .and .u8 a1 3 = 2
      · rw [if_pos c2] at h
        obtain rfl := Option.some.inj h
        exact tiles_Shade.p2 a0 a1 w c2
      · rw [if_neg c2] at h
        by_cases c3 : Go.bits .and .u8 a1 3 = 3
        · rw [if_pos c3] at h
          obtain rfl := Option.some.inj h
          exact tiles_Shade.p3 a0 a1 w c3
        · rw [if_neg c3] at h
          cases h

end Go.Proofs.Ytmigbinllnejoaa.P
