/- Contracts of Go functions of this seat: each Lean function here is what the Go function of its name answers, in every memory; no condition but the equations that each theorem states. Written by a program of this session (wip/given.py); Lean checks it. -/
import Derived.Test.YtlfcpmiajcimfaaPx0
namespace Go.Proofs.Ytlfcpmiajcimfaa.P
open Go.RowKit Go.Proofs.YtlfcpmiajcimfaaW.PrintWords Go.Proofs.YtlfcpmiajcimfaaW.PrintLast Go.Proofs.YtlfcpmiajcimfaaW.PrintMore
attribute [local go_sem] max2_int min2_int max_two min_two max_three min_three max_four min_four   -- for this text's walks alone
set_option linter.unusedVariables false
set_option linter.unusedSimpArgs false

/-! ### whirligigref20_Region: function 12 -/
def whirligigref20_Region.f (a0 : Int) : Option (Int × Int) := if (wrap64 (a0)) < 32768 then (some (0, wrap64 (a0))) else (if (wrap64 (a0)) < 40960 then (some (1, wrap64 ((wrap64 (a0)) - 32768))) else (if (wrap64 (a0)) < 49152 then (some (2, wrap64 ((wrap64 (a0)) - 40960))) else (if (wrap64 (a0)) < 57344 then (some (3, wrap64 ((wrap64 (a0)) - 49152))) else (if (wrap64 (a0)) < 65024 then (some (3, wrap64 ((wrap64 (a0)) - 57344))) else (if (wrap64 (a0)) < 65184 then (some (4, wrap64 ((wrap64 (a0)) - 65024))) else (if (wrap64 (a0)) < 65280 then (some (5, wrap64 ((wrap64 (a0)) - 65184))) else (if (wrap64 (a0)) < 65408 then (some (6, wrap64 ((wrap64 (a0)) - 65280))) else (if (wrap64 (a0)) < 65535 then (some (7, wrap64 ((wrap64 (a0)) - 65408))) else (some (8, 0))))))))))
set_option maxHeartbeats 8000000 in
set_option maxRecDepth 100000 in
theorem whirligigref20_Region.calls (a0 : Int) (r1 : Int) (r2 : Int) (w : World) (h : whirligigref20_Region.f a0 = some (r1, r2)) :
    Calls Try.prog 12 #[.int .u16 a0] w fun e w' => e = .returned (.tuple #[.int .i64 r1, .int .i64 r2]) ∧ Drawn0 w w' := by
  have H : (if (wrap64 (a0)) < 32768 then (some (0, wrap64 (a0))) else (if (wrap64 (a0)) < 40960 then (some (1, wrap64 ((wrap64 (a0)) - 32768))) else (if (wrap64 (a0)) < 49152 then (some (2, wrap64 ((wrap64 (a0)) - 40960))) else (if (wrap64 (a0)) < 57344 then (some (3, wrap64 ((wrap64 (a0)) - 49152))) else (if (wrap64 (a0)) < 65024 then (some (3, wrap64 ((wrap64 (a0)) - 57344))) else (if (wrap64 (a0)) < 65184 then (some (4, wrap64 ((wrap64 (a0)) - 65024))) else (if (wrap64 (a0)) < 65280 then (some (5, wrap64 ((wrap64 (a0)) - 65184))) else (if (wrap64 (a0)) < 65408 then (some (6, wrap64 ((wrap64 (a0)) - 65280))) else (if (wrap64 (a0)) < 65535 then (some (7, wrap64 ((wrap64 (a0)) - 65408))) else (some (8, 0))))))))))) = some (r1, r2) := h
  clear h
  by_cases c2 : (wrap64 (a0)) < 32768
  · rw [if_pos c2] at H
    have c2b0 : decide ((wrap64 (a0)) < 32768) = true := decide_eq_true c2
    clear c2
    simp only [Option.some.injEq, Prod.mk.injEq] at H
    obtain ⟨rfl, rfl⟩ := H
    go_enter Try.func12, Try.ntmps12
    go_wp2
    go_ret2
    exact ⟨by first | rfl | (simp; done) | (simp [*]; done), by repeat (first | exact Drawn0.refl _ | apply Drawn0.step)⟩
  · rw [if_neg c2] at H
    have c2b0 : decide ((wrap64 (a0)) < 32768) = false := decide_eq_false c2
    clear c2
    by_cases c3 : (wrap64 (a0)) < 40960
    · rw [if_pos c3] at H
      have c3b0 : decide ((wrap64 (a0)) < 40960) = true := decide_eq_true c3
      clear c3
      simp only [Option.some.injEq, Prod.mk.injEq] at H
      obtain ⟨rfl, rfl⟩ := H
      go_enter Try.func12, Try.ntmps12
      go_wp2
      go_ret2
      exact ⟨by first | rfl | (simp; done) | (simp [*]; done), by repeat (first | exact Drawn0.refl _ | apply Drawn0.step)⟩
    · rw [if_neg c3] at H
      have c3b0 : decide ((wrap64 (a0)) < 40960) = false := decide_eq_false c3
      clear c3
      by_cases c4 : (wrap64 (a0)) < 49152
      · rw [if_pos c4] at H
        have c4b0 : decide ((wrap64 (a0)) < 49152) = true := decide_eq_true c4
        clear c4
        simp only [Option.some.injEq, Prod.mk.injEq] at H
        obtain ⟨rfl, rfl⟩ := H
        go_enter Try.func12, Try.ntmps12
        go_wp2
        go_ret2
        exact ⟨by first | rfl | (simp; done) | (simp [*]; done), by repeat (first | exact Drawn0.refl _ | apply Drawn0.step)⟩
      · rw [if_neg c4] at H
        have c4b0 : decide ((wrap64 (a0)) < 49152) = false := decide_eq_false c4
        clear c4
        by_cases c5 : (wrap64 (a0)) < 57344
        · rw [if_pos c5] at H
          have c5b0 : decide ((wrap64 (a0)) < 57344) = true := decide_eq_true c5
          clear c5
          simp only [Option.some.injEq, Prod.mk.injEq] at H
          obtain ⟨rfl, rfl⟩ := H
          go_enter Try.func12, Try.ntmps12
          go_wp2
          go_ret2
          exact ⟨by first | rfl | (simp; done) | (simp [*]; done), by repeat (first | exact Drawn0.refl _ | apply Drawn0.step)⟩
        · rw [if_neg c5] at H
          have c5b0 : decide ((wrap64 (a0)) < 57344) = false := decide_eq_false c5
          clear c5
          by_cases c6 : (wrap64 (a0)) < 65024
          · rw [if_pos c6] at H
            have c6b0 : decide ((wrap64 (a0)) < 65024) = true := decide_eq_true c6
            clear c6
            simp only [Option.some.injEq, Prod.mk.injEq] at H
            obtain ⟨rfl, rfl⟩ := H
            go_enter Try.func12, Try.ntmps12
            go_wp2
            go_ret2
            exact ⟨by first | rfl | (simp; done) | (simp [*]; done), by repeat (first | exact Drawn0.refl _ | apply Drawn0.step)⟩
          · rw [if_neg c6] at H
            have c6b0 : decide ((wrap64 (a0)) < 65024) = false := decide_eq_false c6
            clear c6
            by_cases c7 : (wrap64 (a0)) < 65184
            · rw [if_pos c7] at H
              have c7b0 : decide ((wrap64 (a0)) < 65184) = true := decide_eq_true c7
              clear c7
              simp only [Option.some.injEq, Prod.mk.injEq] at H
              obtain ⟨rfl, rfl⟩ := H
              go_enter Try.func12, Try.ntmps12
              go_wp2
              go_ret2
              exact ⟨by first | rfl | (simp; done) | (simp [*]; done), by repeat (first | exact Drawn0.refl _ | apply Drawn0.step)⟩
            · rw [if_neg c7] at H
              have c7b0 : decide ((wrap64 (a0)) < 65184) = false := decide_eq_false c7
              clear c7
              by_cases c8 : (wrap64 (a0)) < 65280
              · rw [if_pos c8] at H
                have c8b0 : decide ((wrap64 (a0)) < 65280) = true := decide_eq_true c8
                clear c8
                simp only [Option.some.injEq, Prod.mk.injEq] at H
                obtain ⟨rfl, rfl⟩ := H
                go_enter Try.func12, Try.ntmps12
                go_wp2
                go_ret2
                exact ⟨by first | rfl | (simp; done) | (simp [*]; done), by repeat (first | exact Drawn0.refl _ | apply Drawn0.step)⟩
              · rw [if_neg c8] at H
                have c8b0 : decide ((wrap64 (a0)) < 65280) = false := decide_eq_false c8
                clear c8
                by_cases c9 : (wrap64 (a0)) < 65408
                · rw [if_pos c9] at H
                  have c9b0 : decide ((wrap64 (a0)) < 65408) = true := decide_eq_true c9
                  clear c9
                  simp only [Option.some.injEq, Prod.mk.injEq] at H
                  obtain ⟨rfl, rfl⟩ := H
                  go_enter Try.func12, Try.ntmps12
                  go_wp2
                  go_ret2
                  exact ⟨by first | rfl | (simp; done) | (simp [*]; done), by repeat (first | exact Drawn0.refl _ | apply Drawn0.step)⟩
                · rw [if_neg c9] at H
                  have c9b0 : decide ((wrap64 (a0)) < 65408) = false := decide_eq_false c9
                  clear c9
                  by_cases c10 : (wrap64 (a0)) < 65535
                  · rw [if_pos c10] at H
                    have c10b0 : decide ((wrap64 (a0)) < 65535) = true := decide_eq_true c10
                    clear c10
                    simp only [Option.some.injEq, Prod.mk.injEq] at H
                    obtain ⟨rfl, rfl⟩ := H
                    go_enter Try.func12, Try.ntmps12
                    go_wp2
                    go_ret2
                    exact ⟨by first | rfl | (simp; done) | (simp [*]; done), by repeat (first | exact Drawn0.refl _ | apply Drawn0.step)⟩
                  · rw [if_neg c10] at H
                    have c10b0 : decide ((wrap64 (a0)) < 65535) = false := decide_eq_false c10
                    clear c10
                    simp only [Option.some.injEq, Prod.mk.injEq] at H
                    obtain ⟨rfl, rfl⟩ := H
                    go_enter Try.func12, Try.ntmps12
                    go_wp2
                    go_ret2
                    exact ⟨by first | rfl | (simp; done) | (simp [*]; done), by repeat (first | exact Drawn0.refl _ | apply Drawn0.step)⟩

end Go.Proofs.Ytlfcpmiajcimfaa.P
