/- Contracts of Go functions of this seat: each Lean function here is what the Go function of its name answers, in every memory; no condition but the equations that each theorem states. Written by a program of this session (wip/given.py); Lean checks it. -/
import Derived.Test.YtlfcpmiajcimfaaPx0
import Derived.Test.YtlfcpmiajcimfaaPx9
import Derived.Test.YtlfcpmiajcimfaaPx17
import Derived.Test.YtlfcpmiajcimfaaPx18
namespace Go.Proofs.Ytlfcpmiajcimfaa.P
open Go.RowKit Go.Proofs.YtlfcpmiajcimfaaW.PrintWords Go.Proofs.YtlfcpmiajcimfaaW.PrintLast Go.Proofs.YtlfcpmiajcimfaaW.PrintMore
attribute [local go_sem] max2_int min2_int max_two min_two max_three min_three max_four min_four   -- for this text's walks alone
set_option linter.unusedVariables false
set_option linter.unusedSimpArgs false

/-! ### whirligiglaw20_BusShuts: function 7 -/
def whirligiglaw20_BusShuts.f (a0 : Int) (a1 : Bool) (a2 : Bool) (a3 : Bool) : Option (Bool) := (whirligiglaw20_shown.f).bind fun t132 => (if t132 = true then ((bus_Shut.f a0 a1 a2 a3).bind fun t133 => ((whirligigref20_Shut.f a0 a1 a2 a3).bind fun t134 => (some (t133 == t134)))) else (some false))
set_option maxHeartbeats 8000000 in
set_option maxRecDepth 100000 in
theorem whirligiglaw20_BusShuts.calls (a0 : Int) (a1 : Bool) (a2 : Bool) (a3 : Bool) (r : Bool) (w : World) (h : whirligiglaw20_BusShuts.f a0 a1 a2 a3 = some r) :
    Calls Try.prog 7 #[.int .u16 a0, .bool a1, .bool a2, .bool a3] w fun e w' => e = .returned (.bool r) ∧ Below w.heap.size w w' := by
  have HB := Aside0.mk (Below.refl w.heap.size w)
  have H : ((whirligiglaw20_shown.f).bind fun t132 => (if t132 = true then ((bus_Shut.f a0 a1 a2 a3).bind fun t133 => ((whirligigref20_Shut.f a0 a1 a2 a3).bind fun t134 => (some (t133 == t134)))) else (some false))) = some r := h
  clear h
  replace H := Option.bind_eq_some_iff.mp H
  obtain ⟨t132, A50, H⟩ := H
  replace H : (if t132 = true then ((bus_Shut.f a0 a1 a2 a3).bind fun t133 => ((whirligigref20_Shut.f a0 a1 a2 a3).bind fun t134 => (some (t133 == t134)))) else (some false)) = some r := H
  have A5 := Aside0.mk A50
  clear A50
  by_cases c6 : t132 = true
  · subst c6
    have H1 : ((bus_Shut.f a0 a1 a2 a3).bind fun t133 => ((whirligigref20_Shut.f a0 a1 a2 a3).bind fun t134 => (some (t133 == t134)))) = some r := by rw [if_pos rfl] at H; exact H
    clear H
    have H := H1
    clear H1
    replace H := Option.bind_eq_some_iff.mp H
    obtain ⟨t133, A70, H⟩ := H
    replace H : ((whirligigref20_Shut.f a0 a1 a2 a3).bind fun t134 => (some (t133 == t134))) = some r := H
    have A7 := Aside0.mk A70
    clear A70
    replace H := Option.bind_eq_some_iff.mp H
    obtain ⟨t134, A80, H⟩ := H
    replace H : (some (t133 == t134)) = some r := H
    have A8 := Aside0.mk A80
    clear A80
    obtain rfl := Option.some.inj H
    go_enter Try.func7, Try.ntmps7
    go_wp2_with (first | ((with_reducible refine gate_callee (f := 10) rfl ?_); refine goesL_ (some 10) rfl rfl Try.func10 (by kernel_rfl) rfl #[] rfl (by (try simp only [List.map_toArray, List.map_cons, List.map_nil]); first | done | rfl | (simp only [List.length_drop, List.length_take]; rfl)) ?_; (with_reducible refine (whirligiglaw20_shown.calls  true _ A5.out).mono ?_); rintro e w9 ⟨rfl, hb⟩; refine ⟨_, rfl, ?_⟩; have n0_ := Aside0.mk (below_step (by repeat (first | (with_reducible first | exact HB.out | apply below_alloc | apply pw_below_drewN | apply below_drew1) | exact HB.out)) hb); clear HB; have HB := n0_; clear n0_; (try clear hb); (try clear hb2); (try clear hk); (try clear hi)) | (go_at_call 20; (with_reducible refine (bus_Shut.calls a0 a1 a2 a3 t133 _ A7.out).mono ?_); rintro e w10 ⟨rfl, hb⟩; have n0_ := Aside0.mk (below_step (by repeat (first | (with_reducible first | exact HB.out | apply below_alloc | apply pw_below_drewN | apply below_drew1) | exact HB.out)) hb); clear HB; have HB := n0_; clear n0_; (try clear hb); (try clear hb2); (try clear hk); (try clear hi)) | (go_at_call 21; (with_reducible refine (whirligigref20_Shut.calls a0 a1 a2 a3 t134 _ A8.out).mono ?_); rintro e w' ⟨rfl, ⟨nd, rfl⟩⟩))
    go_ret
    exact ⟨by first | rfl | (simp [errW_none, errW_some] <;> rfl) | (simp [*, errW_none, errW_some] <;> rfl), by repeat (first | (with_reducible first | exact HB.out | apply below_alloc | apply pw_below_drewN | apply below_drew1) | exact HB.out)⟩
  · replace c6 := Bool.eq_false_iff.mpr c6
    subst c6
    have H1 : (some false) = some r := by rw [if_neg (show ¬ (false = true) by decide)] at H; exact H
    clear H
    have H := H1
    clear H1
    obtain rfl := Option.some.inj H
    go_enter Try.func7, Try.ntmps7
    go_wp2_with (first | ((with_reducible refine gate_callee (f := 10) rfl ?_); refine goesL_ (some 10) rfl rfl Try.func10 (by kernel_rfl) rfl #[] rfl (by (try simp only [List.map_toArray, List.map_cons, List.map_nil]); first | done | rfl | (simp only [List.length_drop, List.length_take]; rfl)) ?_; (with_reducible refine (whirligiglaw20_shown.calls  false _ A5.out).mono ?_); rintro e w11 ⟨rfl, hb⟩; refine ⟨_, rfl, ?_⟩; have n0_ := Aside0.mk (below_step (by repeat (first | (with_reducible first | exact HB.out | apply below_alloc | apply pw_below_drewN | apply below_drew1) | exact HB.out)) hb); clear HB; have HB := n0_; clear n0_; (try clear hb); (try clear hb2); (try clear hk); (try clear hi)))
    go_ret
    exact ⟨by first | rfl | (simp [errW_none, errW_some] <;> rfl) | (simp [*, errW_none, errW_some] <;> rfl), by repeat (first | (with_reducible first | exact HB.out | apply below_alloc | apply pw_below_drewN | apply below_drew1) | exact HB.out)⟩

/-- THE ONE PURE STATEMENT of whirligiglaw20_BusShuts: yours. -/
def whirligiglaw20_BusShuts.Pure : Prop := ∀ (a0 : Int) (a1 : Bool) (a2 : Bool) (a3 : Bool), (Lit.int .u16 a0).wf = true → whirligiglaw20_BusShuts.f a0 a1 a2 a3 = some true
theorem whirligiglaw20_BusShuts.walk (P : whirligiglaw20_BusShuts.Pure) (a0 : Int) (a1 : Bool) (a2 : Bool) (a3 : Bool) (w : World) (w0 : (Lit.int .u16 a0).wf = true) :
    Calls Try.prog 7 #[.int .u16 a0, .bool a1, .bool a2, .bool a3] w fun e w' => e = .returned (.bool true) ∧ Below w.heap.size w w' := by
  have h := P a0 a1 a2 a3 w0
  refine (whirligiglaw20_BusShuts.calls a0 a1 a2 a3 true w h).mono ?_
  rintro e w' ⟨rfl, hd⟩
  exact ⟨rfl, hd⟩

end Go.Proofs.Ytlfcpmiajcimfaa.P
