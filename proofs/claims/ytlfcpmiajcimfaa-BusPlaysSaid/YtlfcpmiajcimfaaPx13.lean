/- Contracts of Go functions of this seat: each Lean function here is what the Go function of its name answers, in every memory; no condition but the equations that each theorem states. Written by a program of this session (wip/given.py); Lean checks it. -/
import Derived.Test.YtlfcpmiajcimfaaPx0
import Derived.Test.YtlfcpmiajcimfaaPx11
namespace Go.Proofs.Ytlfcpmiajcimfaa.P
open Go.RowKit Go.Proofs.YtlfcpmiajcimfaaW.PrintWords Go.Proofs.YtlfcpmiajcimfaaW.PrintLast Go.Proofs.YtlfcpmiajcimfaaW.PrintMore
attribute [local go_sem] max2_int min2_int max_two min_two max_three min_three max_four min_four   -- for this text's walks alone
set_option linter.unusedVariables false
set_option linter.unusedSimpArgs false

/-! ### whirligigref20_Meets: function 16 -/
def whirligigref20_Meets.f (a0 : Int) (a1 : Int) (a2 : Bool) : Option (Bool) := if a2 = true then ((whirligigref20_Line.f a0).bind fun t118 => ((whirligigref20_Line.f a1).bind fun t119 => (if t118 = t119 then ((whirligigref20_Line.f a0).bind fun t120 => (some (decide (t120 < 2)))) else (some false)))) else (some false)
set_option maxHeartbeats 8000000 in
set_option maxRecDepth 100000 in
theorem whirligigref20_Meets.calls (a0 : Int) (a1 : Int) (a2 : Bool) (r : Bool) (w : World) (h : whirligigref20_Meets.f a0 a1 a2 = some r) :
    Calls Try.prog 16 #[.int .u16 a0, .int .u16 a1, .bool a2] w fun e w' => e = .returned (.bool r) ∧ Drawn0 w w' := by
  have H : (if a2 = true then ((whirligigref20_Line.f a0).bind fun t118 => ((whirligigref20_Line.f a1).bind fun t119 => (if t118 = t119 then ((whirligigref20_Line.f a0).bind fun t120 => (some (decide (t120 < 2)))) else (some false)))) else (some false)) = some r := h
  clear h
  by_cases c4 : a2 = true
  · subst c4
    have H1 : ((whirligigref20_Line.f a0).bind fun t118 => ((whirligigref20_Line.f a1).bind fun t119 => (if t118 = t119 then ((whirligigref20_Line.f a0).bind fun t120 => (some (decide (t120 < 2)))) else (some false)))) = some r := by rw [if_pos rfl] at H; exact H
    clear H
    have H := H1
    clear H1
    replace H := Option.bind_eq_some_iff.mp H
    obtain ⟨t118, A50, H⟩ := H
    replace H : ((whirligigref20_Line.f a1).bind fun t119 => (if t118 = t119 then ((whirligigref20_Line.f a0).bind fun t120 => (some (decide (t120 < 2)))) else (some false))) = some r := H
    have A5 := Aside0.mk A50
    clear A50
    replace H := Option.bind_eq_some_iff.mp H
    obtain ⟨t119, A60, H⟩ := H
    replace H : (if t118 = t119 then ((whirligigref20_Line.f a0).bind fun t120 => (some (decide (t120 < 2)))) else (some false)) = some r := H
    have A6 := Aside0.mk A60
    clear A60
    by_cases c7 : t118 = t119
    · rw [if_pos c7] at H
      have c7b0 : (t118 == t119) = true := beq_iff_eq.mpr c7
      have c7b1 : (t118 != t119) = false := bne_eq_false_iff_eq.mpr c7
      clear c7
      replace H := Option.bind_eq_some_iff.mp H
      obtain ⟨t120, A80, H⟩ := H
      replace H : (some (decide (t120 < 2))) = some r := H
      obtain rfl : t118 = t120 := Option.some.inj (A5.out.symm.trans A80)
      have A8 := Aside0.mk A80
      clear A80
      obtain rfl := Option.some.inj H
      go_enter Try.func16, Try.ntmps16
      go_wp2_with (first | (go_at_call 14; (with_reducible refine (whirligigref20_Line.calls a0 t118 _ A5.out).mono ?_); rintro e w' ⟨rfl, ⟨nd, rfl⟩⟩) | (go_at_call 14; (with_reducible refine (whirligigref20_Line.calls a1 t119 _ A6.out).mono ?_); rintro e w' ⟨rfl, ⟨nd, rfl⟩⟩) | (go_at_call 14; (with_reducible refine (whirligigref20_Line.calls a0 t120 _ A8.out).mono ?_); rintro e w' ⟨rfl, ⟨nd, rfl⟩⟩))
      go_ret
      exact ⟨by first | rfl | (simp; done) | (simp [*]; done), by repeat (first | exact Drawn0.refl _ | apply Drawn0.step)⟩
    · rw [if_neg c7] at H
      have c7b0 : (t118 == t119) = false := beq_eq_false_iff_ne.mpr c7
      have c7b1 : (t118 != t119) = true := bne_iff_ne.mpr c7
      obtain rfl := Option.some.inj H
      go_enter Try.func16, Try.ntmps16
      go_wp2_with (first | (go_at_call 14; (with_reducible refine (whirligigref20_Line.calls a0 t118 _ A5.out).mono ?_); rintro e w' ⟨rfl, ⟨nd, rfl⟩⟩) | (go_at_call 14; (with_reducible refine (whirligigref20_Line.calls a1 t119 _ A6.out).mono ?_); rintro e w' ⟨rfl, ⟨nd, rfl⟩⟩))
      go_ret
      exact ⟨by first | rfl | (simp; done) | (simp [*]; done), by repeat (first | exact Drawn0.refl _ | apply Drawn0.step)⟩
  · replace c4 := Bool.eq_false_iff.mpr c4
    subst c4
    have H1 : (some false) = some r := by rw [if_neg (show ¬ (false = true) by decide)] at H; exact H
    clear H
    have H := H1
    clear H1
    obtain rfl := Option.some.inj H
    go_enter Try.func16, Try.ntmps16
    go_wp2
    go_ret
    exact ⟨by first | rfl | (simp; done) | (simp [*]; done), by repeat (first | exact Drawn0.refl _ | apply Drawn0.step)⟩


end Go.Proofs.Ytlfcpmiajcimfaa.P
