/- Contracts of Go functions of this seat: each Lean function here is what the Go function of its name answers, in every memory; no condition but the equations that each theorem states. Written by a program of this session (wip/given.py); Lean checks it. -/
import Derived.Test.YtbakfomkgahffaaPx0
import Derived.Test.YtbakfomkgahffaaPx11
namespace Go.Proofs.Ytbakfomkgahffaa.P
open Go.RowKit Go.Proofs.YtbakfomkgahffaaW.PrintWords Go.Proofs.YtbakfomkgahffaaW.PrintLast Go.Proofs.YtbakfomkgahffaaW.PrintMore
attribute [local go_sem] max2_int min2_int max_two min_two max_three min_three max_four min_four   -- for this text's walks alone
set_option linter.unusedVariables false
set_option linter.unusedSimpArgs false

/-! ### whirligigref14_First: function 11 -/
def whirligigref14_First.f (k : Nat) (a0 : Int) : Option (Int × Bool) := (whirligigref14_All.f k a0).bind fun t115 => (if (t115.length : Int) = 0 then (some (0, false)) else (if 0 < (t115.length : Int) then (some (rd t115 0, true)) else (none)))
theorem whirligigref14_First.mono : ∀ a0 k, LeO (whirligigref14_First.f k a0) (whirligigref14_First.f (k + 1) a0) := by
  intro a0 k
  unfold whirligigref14_First.f
  repeat' first
      | (with_reducible exact whirligigref14_All.mono _ _)
      | (with_reducible exact LeO.refl _)
      | (with_reducible exact LeO.none _)
      | (with_reducible refine LeO.ite ?_ ?_)
      | (with_reducible refine LeO.bind ?_ (fun _ => ?_))
      | exact whirligigref14_All.mono _ _
      | exact LeO.none _
      | refine LeO.ite ?_ ?_
      | refine LeO.bind ?_ (fun _ => ?_)
set_option maxHeartbeats 8000000 in
set_option maxRecDepth 100000 in
theorem whirligigref14_First.calls (k : Nat) (a0 : Int) (r1 : Int) (r2 : Bool) (w : World) (h : whirligigref14_First.f k a0 = some (r1, r2)) :
    Calls Try.prog 11 #[.int .u8 a0] w fun e w' => e = .returned (.tuple #[.int .i64 r1, .bool r2]) ∧ Below w.heap.size w w' := by
  have HB := Aside0.mk (Below.refl w.heap.size w)
  have H : ((whirligigref14_All.f k a0).bind fun t115 => (if (t115.length : Int) = 0 then (some (0, false)) else (if 0 < (t115.length : Int) then (some (rd t115 0, true)) else (none)))) = some (r1, r2) := h
  clear h
  replace H := Option.bind_eq_some_iff.mp H
  obtain ⟨t115, A20, H⟩ := H
  replace H : (if (t115.length : Int) = 0 then (some (0, false)) else (if 0 < (t115.length : Int) then (some (rd t115 0, true)) else (none))) = some (r1, r2) := H
  have A2 := Aside0.mk A20
  clear A20
  by_cases c3 : (t115.length : Int) = 0
  · rw [if_pos c3] at H
    have c3b0 : ((t115.length : Int) == 0) = true := beq_iff_eq.mpr c3
    have c3b1 : ((t115.length : Int) != 0) = false := bne_eq_false_iff_eq.mpr c3
    clear c3
    simp only [Option.some.injEq, Prod.mk.injEq] at H
    obtain ⟨rfl, rfl⟩ := H
    go_enter Try.func11, Try.ntmps11
    go_wp2_with (first | ((with_reducible refine gate_callee (f := 14) rfl ?_); refine goesL_ (some 6) rfl rfl Try.func14 (by kernel_rfl) rfl #[.int .u8 a0] rfl (by (try simp only [List.map_toArray, List.map_cons, List.map_nil]); first | done | rfl | (simp only [List.length_drop, List.length_take]; rfl)) ?_; (with_reducible refine (whirligigref14_All.calls k a0 t115 _ A2.out).mono ?_); rintro e w4 ⟨v116, rfl, ho0, hb⟩; refine ⟨_, rfl, ?_⟩; have n0_ := Aside0.mk (Kd.R_lower ho0 (below_size (by repeat (first | (with_reducible first | exact HB.out | apply below_alloc | apply pw_below_drewN | apply below_drew1) | exact HB.out)))); have n1_ := Aside0.mk (below_step (by repeat (first | (with_reducible first | exact HB.out | apply below_alloc | apply pw_below_drewN | apply below_drew1) | exact HB.out)) hb); clear HB; have HO117 := n0_; have HB := n1_; clear n0_ n1_; (try clear hb); (try clear hb2); (try clear hk); (try clear hi); (try clear ho0); obtain ⟨Ao5, co5, eo5⟩ := Kd.R_slice HO117.out; subst eo5))
    go_ret2
    exact ⟨by first | rfl | (simp [errW_none, errW_some] <;> rfl) | (simp [*, errW_none, errW_some] <;> rfl), by repeat (first | (with_reducible first | exact HB.out | apply below_alloc | apply pw_below_drewN | apply below_drew1) | exact HB.out)⟩
  · rw [if_neg c3] at H
    have c3b0 : ((t115.length : Int) == 0) = false := beq_eq_false_iff_ne.mpr c3
    have c3b1 : ((t115.length : Int) != 0) = true := bne_iff_ne.mpr c3
    have c3b2 : ¬ (t115 = []) := fun h_ => c3 (by rw [h_]; rfl)
    by_cases c6 : 0 < (t115.length : Int)
    · rw [if_pos c6] at H
      have c6b0 : decide (0 < (t115.length : Int)) = true := decide_eq_true c6
      have c6b1 : decide (0 < t115.length) = true := decide_eq_true (by omega)
      clear c6
      simp only [Option.some.injEq, Prod.mk.injEq] at H
      obtain ⟨rfl, rfl⟩ := H
      go_enter Try.func11, Try.ntmps11
      go_wp2_with (first | ((with_reducible refine gate_callee (f := 14) rfl ?_); refine goesL_ (some 6) rfl rfl Try.func14 (by kernel_rfl) rfl #[.int .u8 a0] rfl (by (try simp only [List.map_toArray, List.map_cons, List.map_nil]); first | done | rfl | (simp only [List.length_drop, List.length_take]; rfl)) ?_; (with_reducible refine (whirligigref14_All.calls k a0 t115 _ A2.out).mono ?_); rintro e w7 ⟨v116, rfl, ho0, hb⟩; refine ⟨_, rfl, ?_⟩; have n0_ := Aside0.mk (Kd.R_lower ho0 (below_size (by repeat (first | (with_reducible first | exact HB.out | apply below_alloc | apply pw_below_drewN | apply below_drew1) | exact HB.out)))); have n1_ := Aside0.mk (below_step (by repeat (first | (with_reducible first | exact HB.out | apply below_alloc | apply pw_below_drewN | apply below_drew1) | exact HB.out)) hb); clear HB; have HO117 := n0_; have HB := n1_; clear n0_ n1_; (try clear hb); (try clear hb2); (try clear hk); (try clear hi); (try clear ho0); obtain ⟨Ao8, co8, eo8⟩ := Kd.R_slice HO117.out; subst eo8; have p118 : 0 ≤ (0 : Int) := (by omega); have q118 : 0 < (t115.length : Int) := of_decide_eq_true (by first | (with_reducible assumption) | assumption); obtain ⟨ad118, e118, hx118_0⟩ := Kd.at_int (Kd.R_reads' HO117.out).2.2 0 p118 q118; cases e118; have qi118 : (0 < t115.length) = True := eq_true (by omega); (try rw [show ((0 : Int)).toNat = 0 from rfl] at hx118_0); (try rw [Addr.add_zero'] at hx118_0); replace p118 := eq_true p118; replace q118 := eq_true q118))
      go_ret2
      exact ⟨by first | rfl | (simp [errW_none, errW_some] <;> rfl) | (simp [*, errW_none, errW_some] <;> rfl), by repeat (first | (with_reducible first | exact HB.out | apply below_alloc | apply pw_below_drewN | apply below_drew1) | exact HB.out)⟩
    · rw [if_neg c6] at H
      exact absurd H (by simp)

end Go.Proofs.Ytbakfomkgahffaa.P
