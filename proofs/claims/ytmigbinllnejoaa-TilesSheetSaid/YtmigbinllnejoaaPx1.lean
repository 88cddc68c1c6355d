/- Contracts of Go functions of this seat: each Lean function here is what the Go function of its name answers, in every memory; no condition but the equations that each theorem states. Written by a program of this session (wip/given.py); Lean checks it. -/
import Derived.Test.YtmigbinllnejoaaPx0
namespace Go.Proofs.Ytmigbinllnejoaa.P
open Go.RowKit Go.Proofs.YtmigbinllnejoaaW.PrintWords Go.Proofs.YtmigbinllnejoaaW.PrintLast Go.Proofs.YtmigbinllnejoaaW.PrintMore
attribute [local go_sem] max2_int min2_int max_two min_two max_three min_three max_four min_four   -- for this text's walks alone
set_option linter.unusedVariables false
set_option linter.unusedSimpArgs false

/-! ### tiles_Pixel: function 11 -/
def tiles_Pixel.f (a0 : Int) (a1 : Int) (a2 : Int) : Option (Int) := if a2 < 0 then (some 0) else (if a2 > 7 then (some 0) else (if 0 ≤ (wrap64 (7 - a2)) then (some (Go.bits .or .u8 (((Go.bits .and .u8 (shr .u8 a1 (wrap64 (7 - a2))) 1) * 2) % 256) (Go.bits .and .u8 (shr .u8 a0 (wrap64 (7 - a2))) 1))) else (none)))
set_option maxHeartbeats 8000000 in
set_option maxRecDepth 100000 in
theorem tiles_Pixel.calls (a0 : Int) (a1 : Int) (a2 : Int) (r : Int) (w : World) (h : tiles_Pixel.f a0 a1 a2 = some r) :
    Calls Try.prog 11 #[.int .u8 a0, .int .u8 a1, .int .i64 a2] w fun e w' => e = .returned (.int .u8 r) ∧ Drawn0 w w' := by
  have H : (if a2 < 0 then (some 0) else (if a2 > 7 then (some 0) else (if 0 ≤ (wrap64 (7 - a2)) then (some (Go.bits .or .u8 (((Go.bits .and .u8 (shr .u8 a1 (wrap64 (7 - a2))) 1) * 2) % 256) (Go.bits .and .u8 (shr .u8 a0 (wrap64 (7 - a2))) 1))) else (none)))) = some r := h
  clear h
  by_cases c4 : a2 < 0
  · rw [if_pos c4] at H
    have c4b0 : decide (a2 < 0) = true := decide_eq_true c4
    clear c4
    obtain rfl := Option.some.inj H
    go_enter Try.func11, Try.ntmps11
    go_wp2
    repeat (go_quiet (fail); try go_wp2)
    go_ret
    exact ⟨by first | rfl | (simp; done) | (simp [*]; done), by repeat (first | exact Drawn0.refl _ | apply Drawn0.step)⟩
  · rw [if_neg c4] at H
    have c4b0 : decide (a2 < 0) = false := decide_eq_false c4
    clear c4
    by_cases c5 : a2 > 7
    · rw [if_pos c5] at H
      have c5b0 : decide (7 < a2) = true := decide_eq_true c5
      clear c5
      obtain rfl := Option.some.inj H
      go_enter Try.func11, Try.ntmps11
      go_wp2
      repeat (go_quiet (fail); try go_wp2)
      go_ret
      exact ⟨by first | rfl | (simp; done) | (simp [*]; done), by repeat (first | exact Drawn0.refl _ | apply Drawn0.step)⟩
    · rw [if_neg c5] at H
      have c5b0 : decide (7 < a2) = false := decide_eq_false c5
      clear c5
      obtain ⟨ji6, hji6⟩ : ∃ j_ : Int, (wrap64 (7 - a2)) = j_ := ⟨_, rfl⟩
      replace H : (if 0 ≤ (ji6) then (some (Go.bits .or .u8 (((Go.bits .and .u8 (shr .u8 a1 (ji6)) 1) * 2) % 256) (Go.bits .and .u8 (shr .u8 a0 (ji6)) 1))) else (none)) = some r := by first | (rw [hji6] at H; exact H) | (simp only [hji6] at H ⊢; exact H)
      have hji6w : (IntKind.i64.wrap (7 - a2)) = ji6 := (i64_w _).trans hji6
      by_cases c7 : 0 ≤ (ji6)
      · rw [if_pos c7] at H
        have c7b0 := eq_true c7
        have c7b1 : decide (0 ≤ (ji6)) = true := decide_eq_true c7
        clear c7
        obtain ⟨ji8, hji8⟩ : ∃ j_ : Int, (shr .u8 a1 (ji6)) = j_ := ⟨_, rfl⟩
        replace H : (some (Go.bits .or .u8 (((Go.bits .and .u8 (ji8) 1) * 2) % 256) (Go.bits .and .u8 (shr .u8 a0 (ji6)) 1))) = some r := by first | (rw [hji8] at H; exact H) | (simp only [hji8] at H ⊢; exact H)
        have hji8_ : (a1 / 2 ^ min (ji6).toNat 8) = ji8 := hji8
        have hji8z : (ji6) ≤ 8 → (a1 / 2 ^ (ji6).toNat) = ji8 := shr_small hji8
        have c9b0 := eq_true (of_decide_eq_true (by first | (with_reducible assumption) | assumption) : 0 ≤ (ji6))
        obtain ⟨ji10, hji10⟩ : ∃ j_ : Int, (shr .u8 a0 (ji6)) = j_ := ⟨_, rfl⟩
        replace H : (some (Go.bits .or .u8 (((Go.bits .and .u8 (ji8) 1) * 2) % 256) (Go.bits .and .u8 (ji10) 1))) = some r := by first | (rw [hji10] at H; exact H) | (simp only [hji10] at H ⊢; exact H)
        have hji10_ : (a0 / 2 ^ min (ji6).toNat 8) = ji10 := hji10
        have hji10z : (ji6) ≤ 8 → (a0 / 2 ^ (ji6).toNat) = ji10 := shr_small hji10
        obtain rfl := Option.some.inj H
        go_enter Try.func11, Try.ntmps11
        go_wp2
        repeat (go_quiet (fail); try go_wp2)
        go_ret
        exact ⟨by first | rfl | (simp; done) | (simp only [← hji6, ← hji8, ← hji10] <;> (first | rfl | simp)) | (simp [*]; done), by repeat (first | exact Drawn0.refl _ | apply Drawn0.step)⟩
      · rw [if_neg c7] at H
        exact absurd H (by simp)

end Go.Proofs.Ytmigbinllnejoaa.P
