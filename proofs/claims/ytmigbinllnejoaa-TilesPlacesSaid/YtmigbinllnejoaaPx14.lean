/- Contracts of Go functions of this seat: each Lean function here is what the Go function of its name answers, in every memory; no condition but the equations that each theorem states. Written by a program of this session (wip/given.py); Lean checks it. -/
import Derived.Test.YtmigbinllnejoaaPx0
import Derived.Test.YtmigbinllnejoaaPx13
namespace Go.Proofs.Ytmigbinllnejoaa.P
open Go.RowKit Go.Proofs.YtmigbinllnejoaaW.PrintWords Go.Proofs.YtmigbinllnejoaaW.PrintLast Go.Proofs.YtmigbinllnejoaaW.PrintMore
attribute [local go_sem] max2_int min2_int max_two min_two max_three min_three max_four min_four   -- for this text's walks alone
set_option linter.unusedVariables false
set_option linter.unusedSimpArgs false

/-! ### whirligigref17_Place: function 16 -/
def whirligigref17_Place.f (a0 : Int) (a1 : Bool) (a2 : Int) : Option (Int) := if (Int.tmod a2 8) < 0 then (if a1 = true then ((whirligigref01_Signed.f a0).bind fun t108 => (some (wrap64 ((wrap64 (4096 + (wrap64 (16 * t108)))) + (wrap64 (2 * (wrap64 ((Int.tmod a2 8) + 8)))))))) else (some (wrap64 ((wrap64 (16 * (wrap64 (a0)))) + (wrap64 (2 * (wrap64 ((Int.tmod a2 8) + 8)))))))) else (if a1 = true then ((whirligigref01_Signed.f a0).bind fun t109 => (some (wrap64 ((wrap64 (4096 + (wrap64 (16 * t109)))) + (wrap64 (2 * (Int.tmod a2 8))))))) else (some (wrap64 ((wrap64 (16 * (wrap64 (a0)))) + (wrap64 (2 * (Int.tmod a2 8)))))))
set_option maxHeartbeats 8000000 in
set_option maxRecDepth 100000 in
theorem whirligigref17_Place.calls (a0 : Int) (a1 : Bool) (a2 : Int) (r : Int) (w : World) (h : whirligigref17_Place.f a0 a1 a2 = some r) :
    Calls Try.prog 16 #[.int .u8 a0, .bool a1, .int .i64 a2] w fun e w' => e = .returned (.int .i64 r) ∧ Drawn0 w w' := by
  have H : (if (Int.tmod a2 8) < 0 then (if a1 = true then ((whirligigref01_Signed.f a0).bind fun t108 => (some (wrap64 ((wrap64 (4096 + (wrap64 (16 * t108)))) + (wrap64 (2 * (wrap64 ((Int.tmod a2 8) + 8)))))))) else (some (wrap64 ((wrap64 (16 * (wrap64 (a0)))) + (wrap64 (2 * (wrap64 ((Int.tmod a2 8) + 8)))))))) else (if a1 = true then ((whirligigref01_Signed.f a0).bind fun t109 => (some (wrap64 ((wrap64 (4096 + (wrap64 (16 * t109)))) + (wrap64 (2 * (Int.tmod a2 8))))))) else (some (wrap64 ((wrap64 (16 * (wrap64 (a0)))) + (wrap64 (2 * (Int.tmod a2 8)))))))) = some r := h
  clear h
  by_cases c4 : (Int.tmod a2 8) < 0
  · rw [if_pos c4] at H
    have c4b0 : decide ((Int.tmod a2 8) < 0) = true := decide_eq_true c4
    clear c4
    by_cases c5 : a1 = true
    · subst c5
      have H1 : ((whirligigref01_Signed.f a0).bind fun t108 => (some (wrap64 ((wrap64 (4096 + (wrap64 (16 * t108)))) + (wrap64 (2 * (wrap64 ((Int.tmod a2 8) + 8)))))))) = some r := by rw [if_pos rfl] at H; exact H
      clear H
      have H := H1
      clear H1
      replace H := Option.bind_eq_some_iff.mp H
      obtain ⟨t108, A60, H⟩ := H
      replace H : (some (wrap64 ((wrap64 (4096 + (wrap64 (16 * t108)))) + (wrap64 (2 * (wrap64 ((Int.tmod a2 8) + 8))))))) = some r := H
      have A6 := Aside0.mk A60
      clear A60
      obtain rfl := Option.some.inj H
      go_enter Try.func16, Try.ntmps16
      go_wp2_with (first | ((with_reducible refine gate_callee (f := 28) rfl ?_); refine goesL_ (some 16) rfl rfl Try.func28 (by kernel_rfl) rfl #[.int .u8 a0] rfl (by (try simp only [List.map_toArray, List.map_cons, List.map_nil]); first | done | rfl | (simp only [List.length_drop, List.length_take]; rfl)) ?_; (with_reducible refine (whirligigref01_Signed.calls a0 t108 _ A6.out).mono ?_); rintro e w' ⟨rfl, ⟨nd, rfl⟩⟩; refine ⟨_, rfl, ?_⟩))
      go_ret
      exact ⟨by first | rfl | (simp; done) | (simp [*]; done), by repeat (first | exact Drawn0.refl _ | apply Drawn0.step)⟩
    · replace c5 := Bool.eq_false_iff.mpr c5
      subst c5
      have H1 : (some (wrap64 ((wrap64 (16 * (wrap64 (a0)))) + (wrap64 (2 * (wrap64 ((Int.tmod a2 8) + 8))))))) = some r := by rw [if_neg (show ¬ (false = true) by decide)] at H; exact H
      clear H
      have H := H1
      clear H1
      obtain rfl := Option.some.inj H
      go_enter Try.func16, Try.ntmps16
      go_wp2
      go_ret
      exact ⟨by first | rfl | (simp; done) | (simp [*]; done), by repeat (first | exact Drawn0.refl _ | apply Drawn0.step)⟩
  · rw [if_neg c4] at H
    have c4b0 : decide ((Int.tmod a2 8) < 0) = false := decide_eq_false c4
    clear c4
    by_cases c7 : a1 = true
    · subst c7
      have H1 : ((whirligigref01_Signed.f a0).bind fun t109 => (some (wrap64 ((wrap64 (4096 + (wrap64 (16 * t109)))) + (wrap64 (2 * (Int.tmod a2 8))))))) = some r := by rw [if_pos rfl] at H; exact H
      clear H
      have H := H1
      clear H1
      replace H := Option.bind_eq_some_iff.mp H
      obtain ⟨t109, A80, H⟩ := H
      replace H : (some (wrap64 ((wrap64 (4096 + (wrap64 (16 * t109)))) + (wrap64 (2 * (Int.tmod a2 8)))))) = some r := H
      have A8 := Aside0.mk A80
      clear A80
      obtain rfl := Option.some.inj H
      go_enter Try.func16, Try.ntmps16
      go_wp2_with (first | ((with_reducible refine gate_callee (f := 28) rfl ?_); refine goesL_ (some 16) rfl rfl Try.func28 (by kernel_rfl) rfl #[.int .u8 a0] rfl (by (try simp only [List.map_toArray, List.map_cons, List.map_nil]); first | done | rfl | (simp only [List.length_drop, List.length_take]; rfl)) ?_; (with_reducible refine (whirligigref01_Signed.calls a0 t109 _ A8.out).mono ?_); rintro e w' ⟨rfl, ⟨nd, rfl⟩⟩; refine ⟨_, rfl, ?_⟩))
      go_ret
      exact ⟨by first | rfl | (simp; done) | (simp [*]; done), by repeat (first | exact Drawn0.refl _ | apply Drawn0.step)⟩
    · replace c7 := Bool.eq_false_iff.mpr c7
      subst c7
      have H1 : (some (wrap64 ((wrap64 (16 * (wrap64 (a0)))) + (wrap64 (2 * (Int.tmod a2 8)))))) = some r := by rw [if_neg (show ¬ (false = true) by decide)] at H; exact H
      clear H
      have H := H1
      clear H1
      obtain rfl := Option.some.inj H
      go_enter Try.func16, Try.ntmps16
      go_wp2
      go_ret
      exact ⟨by first | rfl | (simp; done) | (simp [*]; done), by repeat (first | exact Drawn0.refl _ | apply Drawn0.step)⟩

end Go.Proofs.Ytmigbinllnejoaa.P
