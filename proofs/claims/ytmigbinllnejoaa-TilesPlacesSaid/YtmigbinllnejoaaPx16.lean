/- Contracts of Go functions of this seat: each Lean function here is what the Go function of its name answers, in every memory; no condition but the equations that each theorem states. Written by a program of this session (wip/given.py); Lean checks it. -/
import Derived.Test.YtmigbinllnejoaaPx0
import Derived.Test.YtmigbinllnejoaaPx3
import Derived.Test.YtmigbinllnejoaaPx4
import Derived.Test.YtmigbinllnejoaaPx6
import Derived.Test.YtmigbinllnejoaaPx14
import Derived.Test.YtmigbinllnejoaaPx15
namespace Go.Proofs.Ytmigbinllnejoaa.P
open Go.RowKit Go.Proofs.YtmigbinllnejoaaW.PrintWords Go.Proofs.YtmigbinllnejoaaW.PrintLast Go.Proofs.YtmigbinllnejoaaW.PrintMore
attribute [local go_sem] max2_int min2_int max_two min_two max_three min_three max_four min_four   -- for this text's walks alone
set_option linter.unusedVariables false
set_option linter.unusedSimpArgs false

/-! ### whirligiglaw17_TilesPlaces: function 4 -/
def whirligiglaw17_TilesPlaces.f (a0 : Int) (a1 : Int) (a2 : Int) (a3 : Int) : Option (Bool) := (whirligiglaw17_shown.f).bind fun t110 => (if t110 = true then ((tiles_Place.f a0 false a1).bind fun t111 => ((whirligigref17_Place.f a0 false a1).bind fun t112 => (if t111 = t112 then ((tiles_Place.f a0 true a1).bind fun t113 => ((whirligigref17_Place.f a0 true a1).bind fun t114 => (if t113 = t114 then ((tiles_Cell.f false a2 a3).bind fun t115 => ((whirligigref17_Cell.f false a2 a3).bind fun t116 => (if t115 = t116 then ((tiles_Cell.f true a2 a3).bind fun t117 => ((whirligigref17_Cell.f true a2 a3).bind fun t118 => (some (t117 == t118)))) else (some false)))) else (some false)))) else (some false)))) else (some false))
set_option maxHeartbeats 8000000 in
set_option maxRecDepth 100000 in
theorem whirligiglaw17_TilesPlaces.calls (a0 : Int) (a1 : Int) (a2 : Int) (a3 : Int) (r : Bool) (w : World) (h : whirligiglaw17_TilesPlaces.f a0 a1 a2 a3 = some r) :
    Calls Try.prog 4 #[.int .u8 a0, .int .i64 a1, .int .u8 a2, .int .u8 a3] w fun e w' => e = .returned (.bool r) ∧ Below w.heap.size w w' := by
  have HB := Aside0.mk (Below.refl w.heap.size w)
  have H : ((whirligiglaw17_shown.f).bind fun t110 => (if t110 = true then ((tiles_Place.f a0 false a1).bind fun t111 => ((whirligigref17_Place.f a0 false a1).bind fun t112 => (if t111 = t112 then ((tiles_Place.f a0 true a1).bind fun t113 => ((whirligigref17_Place.f a0 true a1).bind fun t114 => (if t113 = t114 then ((tiles_Cell.f false a2 a3).bind fun t115 => ((whirligigref17_Cell.f false a2 a3).bind fun t116 => (if t115 = t116 then ((tiles_Cell.f true a2 a3).bind fun t117 => ((whirligigref17_Cell.f true a2 a3).bind fun t118 => (some (t117 == t118)))) else (some false)))) else (some false)))) else (some false)))) else (some false))) = some r := h
  clear h
  replace H := Option.bind_eq_some_iff.mp H
  obtain ⟨t110, A50, H⟩ := H
  replace H : (if t110 = true then ((tiles_Place.f a0 false a1).bind fun t111 => ((whirligigref17_Place.f a0 false a1).bind fun t112 => (if t111 = t112 then ((tiles_Place.f a0 true a1).bind fun t113 => ((whirligigref17_Place.f a0 true a1).bind fun t114 => (if t113 = t114 then ((tiles_Cell.f false a2 a3).bind fun t115 => ((whirligigref17_Cell.f false a2 a3).bind fun t116 => (if t115 = t116 then ((tiles_Cell.f true a2 a3).bind fun t117 => ((whirligigref17_Cell.f true a2 a3).bind fun t118 => (some (t117 == t118)))) else (some false)))) else (some false)))) else (some false)))) else (some false)) = some r := H
  have A5 := Aside0.mk A50
  clear A50
  by_cases c6 : t110 = true
  · subst c6
    have H1 : ((tiles_Place.f a0 false a1).bind fun t111 => ((whirligigref17_Place.f a0 false a1).bind fun t112 => (if t111 = t112 then ((tiles_Place.f a0 true a1).bind fun t113 => ((whirligigref17_Place.f a0 true a1).bind fun t114 => (if t113 = t114 then ((tiles_Cell.f false a2 a3).bind fun t115 => ((whirligigref17_Cell.f false a2 a3).bind fun t116 => (if t115 = t116 then ((tiles_Cell.f true a2 a3).bind fun t117 => ((whirligigref17_Cell.f true a2 a3).bind fun t118 => (some (t117 == t118)))) else (some false)))) else (some false)))) else (some false)))) = some r := by rw [if_pos rfl] at H; exact H
    clear H
    have H := H1
    clear H1
    replace H := Option.bind_eq_some_iff.mp H
    obtain ⟨t111, A70, H⟩ := H
    replace H : ((whirligigref17_Place.f a0 false a1).bind fun t112 => (if t111 = t112 then ((tiles_Place.f a0 true a1).bind fun t113 => ((whirligigref17_Place.f a0 true a1).bind fun t114 => (if t113 = t114 then ((tiles_Cell.f false a2 a3).bind fun t115 => ((whirligigref17_Cell.f false a2 a3).bind fun t116 => (if t115 = t116 then ((tiles_Cell.f true a2 a3).bind fun t117 => ((whirligigref17_Cell.f true a2 a3).bind fun t118 => (some (t117 == t118)))) else (some false)))) else (some false)))) else (some false))) = some r := H
    have A7 := Aside0.mk A70
    clear A70
    replace H := Option.bind_eq_some_iff.mp H
    obtain ⟨t112, A80, H⟩ := H
    replace H : (if t111 = t112 then ((tiles_Place.f a0 true a1).bind fun t113 => ((whirligigref17_Place.f a0 true a1).bind fun t114 => (if t113 = t114 then ((tiles_Cell.f false a2 a3).bind fun t115 => ((whirligigref17_Cell.f false a2 a3).bind fun t116 => (if t115 = t116 then ((tiles_Cell.f true a2 a3).bind fun t117 => ((whirligigref17_Cell.f true a2 a3).bind fun t118 => (some (t117 == t118)))) else (some false)))) else (some false)))) else (some false)) = some r := H
    have A8 := Aside0.mk A80
    clear A80
    by_cases c9 : t111 = t112
    · rw [if_pos c9] at H
      have c9b0 : (t111 == t112) = true := beq_iff_eq.mpr c9
      have c9b1 : (t111 != t112) = false := bne_eq_false_iff_eq.mpr c9
      clear c9
      replace H := Option.bind_eq_some_iff.mp H
      obtain ⟨t113, A100, H⟩ := H
      replace H : ((whirligigref17_Place.f a0 true a1).bind fun t114 => (if t113 = t114 then ((tiles_Cell.f false a2 a3).bind fun t115 => ((whirligigref17_Cell.f false a2 a3).bind fun t116 => (if t115 = t116 then ((tiles_Cell.f true a2 a3).bind fun t117 => ((whirligigref17_Cell.f true a2 a3).bind fun t118 => (some (t117 == t118)))) else (some false)))) else (some false))) = some r := H
      have A10 := Aside0.mk A100
      clear A100
      replace H := Option.bind_eq_some_iff.mp H
      obtain ⟨t114, A110, H⟩ := H
      replace H : (if t113 = t114 then ((tiles_Cell.f false a2 a3).bind fun t115 => ((whirligigref17_Cell.f false a2 a3).bind fun t116 => (if t115 = t116 then ((tiles_Cell.f true a2 a3).bind fun t117 => ((whirligigref17_Cell.f true a2 a3).bind fun t118 => (some (t117 == t118)))) else (some false)))) else (some false)) = some r := H
      have A11 := Aside0.mk A110
      clear A110
      by_cases c12 : t113 = t114
      · rw [if_pos c12] at H
        have c12b0 : (t113 == t114) = true := beq_iff_eq.mpr c12
        have c12b1 : (t113 != t114) = false := bne_eq_false_iff_eq.mpr c12
        clear c12
        replace H := Option.bind_eq_some_iff.mp H
        obtain ⟨t115, A130, H⟩ := H
        replace H : ((whirligigref17_Cell.f false a2 a3).bind fun t116 => (if t115 = t116 then ((tiles_Cell.f true a2 a3).bind fun t117 => ((whirligigref17_Cell.f true a2 a3).bind fun t118 => (some (t117 == t118)))) else (some false))) = some r := H
        have A13 := Aside0.mk A130
        clear A130
        replace H := Option.bind_eq_some_iff.mp H
        obtain ⟨t116, A140, H⟩ := H
        replace H : (if t115 = t116 then ((tiles_Cell.f true a2 a3).bind fun t117 => ((whirligigref17_Cell.f true a2 a3).bind fun t118 => (some (t117 == t118)))) else (some false)) = some r := H
        have A14 := Aside0.mk A140
        clear A140
        by_cases c15 : t115 = t116
        · rw [if_pos c15] at H
          have c15b0 : (t115 == t116) = true := beq_iff_eq.mpr c15
          have c15b1 : (t115 != t116) = false := bne_eq_false_iff_eq.mpr c15
          clear c15
          replace H := Option.bind_eq_some_iff.mp H
          obtain ⟨t117, A160, H⟩ := H
          replace H : ((whirligigref17_Cell.f true a2 a3).bind fun t118 => (some (t117 == t118))) = some r := H
          have A16 := Aside0.mk A160
          clear A160
          replace H := Option.bind_eq_some_iff.mp H
          obtain ⟨t118, A170, H⟩ := H
          replace H : (some (t117 == t118)) = some r := H
          have A17 := Aside0.mk A170
          clear A170
          obtain rfl := Option.some.inj H
          go_enter Try.func4, Try.ntmps4
          go_wp2_with (first | ((with_reducible refine gate_callee (f := 10) rfl ?_); refine goesL_ (some 10) rfl rfl Try.func10 (by kernel_rfl) rfl #[] rfl (by (try simp only [List.map_toArray, List.map_cons, List.map_nil]); first | done | rfl | (simp only [List.length_drop, List.length_take]; rfl)) ?_; (with_reducible refine (whirligiglaw17_shown.calls  true _ A5.out).mono ?_); rintro e w18 ⟨rfl, hb⟩; refine ⟨_, rfl, ?_⟩; have n0_ := Aside0.mk (below_step (by repeat (first | (with_reducible first | exact HB.out | apply below_alloc | apply pw_below_drewN | apply below_drew1) | exact HB.out)) hb); clear HB; have HB := n0_; clear n0_; (try clear hb); (try clear hb2); (try clear hk); (try clear hi)) | (go_at_call 15; (with_reducible refine (tiles_Place.calls a0 false a1 t111 _ A7.out).mono ?_); rintro e w' ⟨rfl, ⟨nd, rfl⟩⟩) | (go_at_call 16; (with_reducible refine (whirligigref17_Place.calls a0 false a1 t112 _ A8.out).mono ?_); rintro e w' ⟨rfl, ⟨nd, rfl⟩⟩) | (go_at_call 15; (with_reducible refine (tiles_Place.calls a0 true a1 t113 _ A10.out).mono ?_); rintro e w' ⟨rfl, ⟨nd, rfl⟩⟩) | (go_at_call 16; (with_reducible refine (whirligigref17_Place.calls a0 true a1 t114 _ A11.out).mono ?_); rintro e w' ⟨rfl, ⟨nd, rfl⟩⟩) | (go_at_call 17; (with_reducible refine (tiles_Cell.calls false a2 a3 t115 _ A13.out).mono ?_); rintro e w' ⟨rfl, ⟨nd, rfl⟩⟩) | (go_at_call 18; (with_reducible refine (whirligigref17_Cell.calls false a2 a3 t116 _ A14.out).mono ?_); rintro e w' ⟨rfl, ⟨nd, rfl⟩⟩) | (go_at_call 17; (with_reducible refine (tiles_Cell.calls true a2 a3 t117 _ A16.out).mono ?_); rintro e w' ⟨rfl, ⟨nd, rfl⟩⟩) | (go_at_call 18; (with_reducible refine (whirligigref17_Cell.calls true a2 a3 t118 _ A17.out).mono ?_); rintro e w' ⟨rfl, ⟨nd, rfl⟩⟩))
          go_ret
          exact ⟨by first | rfl | (simp [errW_none, errW_some] <;> rfl) | (simp [*, errW_none, errW_some] <;> rfl), by repeat (first | (with_reducible first | exact HB.out | apply below_alloc | apply pw_below_drewN | apply below_drew1) | exact HB.out)⟩
        · rw [if_neg c15] at H
          have c15b0 : (t115 == t116) = false := beq_eq_false_iff_ne.mpr c15
          have c15b1 : (t115 != t116) = true := bne_iff_ne.mpr c15
          obtain rfl := Option.some.inj H
          go_enter Try.func4, Try.ntmps4
          go_wp2_with (first | ((with_reducible refine gate_callee (f := 10) rfl ?_); refine goesL_ (some 10) rfl rfl Try.func10 (by kernel_rfl) rfl #[] rfl (by (try simp only [List.map_toArray, List.map_cons, List.map_nil]); first | done | rfl | (simp only [List.length_drop, List.length_take]; rfl)) ?_; (with_reducible refine (whirligiglaw17_shown.calls  true _ A5.out).mono ?_); rintro e w19 ⟨rfl, hb⟩; refine ⟨_, rfl, ?_⟩; have n0_ := Aside0.mk (below_step (by repeat (first | (with_reducible first | exact HB.out | apply below_alloc | apply pw_below_drewN | apply below_drew1) | exact HB.out)) hb); clear HB; have HB := n0_; clear n0_; (try clear hb); (try clear hb2); (try clear hk); (try clear hi)) | (go_at_call 15; (with_reducible refine (tiles_Place.calls a0 false a1 t111 _ A7.out).mono ?_); rintro e w' ⟨rfl, ⟨nd, rfl⟩⟩) | (go_at_call 16; (with_reducible refine (whirligigref17_Place.calls a0 false a1 t112 _ A8.out).mono ?_); rintro e w' ⟨rfl, ⟨nd, rfl⟩⟩) | (go_at_call 15; (with_reducible refine (tiles_Place.calls a0 true a1 t113 _ A10.out).mono ?_); rintro e w' ⟨rfl, ⟨nd, rfl⟩⟩) | (go_at_call 16; (with_reducible refine (whirligigref17_Place.calls a0 true a1 t114 _ A11.out).mono ?_); rintro e w' ⟨rfl, ⟨nd, rfl⟩⟩) | (go_at_call 17; (with_reducible refine (tiles_Cell.calls false a2 a3 t115 _ A13.out).mono ?_); rintro e w' ⟨rfl, ⟨nd, rfl⟩⟩) | (go_at_call 18; (with_reducible refine (whirligigref17_Cell.calls false a2 a3 t116 _ A14.out).mono ?_); rintro e w' ⟨rfl, ⟨nd, rfl⟩⟩))
          go_ret
          exact ⟨by first | rfl | (simp [errW_none, errW_some] <;> rfl) | (simp [*, errW_none, errW_some] <;> rfl), by repeat (first | (with_reducible first | exact HB.out | apply below_alloc | apply pw_below_drewN | apply below_drew1) | exact HB.out)⟩
      · rw [if_neg c12] at H
        have c12b0 : (t113 == t114) = false := beq_eq_false_iff_ne.mpr c12
        have c12b1 : (t113 != t114) = true := bne_iff_ne.mpr c12
        obtain rfl := Option.some.inj H
        go_enter Try.func4, Try.ntmps4
        go_wp2_with (first | ((with_reducible refine gate_callee (f := 10) rfl ?_); refine goesL_ (some 10) rfl rfl Try.func10 (by kernel_rfl) rfl #[] rfl (by (try simp only [List.map_toArray, List.map_cons, List.map_nil]); first | done | rfl | (simp only [List.length_drop, List.length_take]; rfl)) ?_; (with_reducible refine (whirligiglaw17_shown.calls  true _ A5.out).mono ?_); rintro e w20 ⟨rfl, hb⟩; refine ⟨_, rfl, ?_⟩; have n0_ := Aside0.mk (below_step (by repeat (first | (with_reducible first | exact HB.out | apply below_alloc | apply pw_below_drewN | apply below_drew1) | exact HB.out)) hb); clear HB; have HB := n0_; clear n0_; (try clear hb); (try clear hb2); (try clear hk); (try clear hi)) | (go_at_call 15; (with_reducible refine (tiles_Place.calls a0 false a1 t111 _ A7.out).mono ?_); rintro e w' ⟨rfl, ⟨nd, rfl⟩⟩) | (go_at_call 16; (with_reducible refine (whirligigref17_Place.calls a0 false a1 t112 _ A8.out).mono ?_); rintro e w' ⟨rfl, ⟨nd, rfl⟩⟩) | (go_at_call 15; (with_reducible refine (tiles_Place.calls a0 true a1 t113 _ A10.out).mono ?_); rintro e w' ⟨rfl, ⟨nd, rfl⟩⟩) | (go_at_call 16; (with_reducible refine (whirligigref17_Place.calls a0 true a1 t114 _ A11.out).mono ?_); rintro e w' ⟨rfl, ⟨nd, rfl⟩⟩))
        go_ret
        exact ⟨by first | rfl | (simp [errW_none, errW_some] <;> rfl) | (simp [*, errW_none, errW_some] <;> rfl), by repeat (first | (with_reducible first | exact HB.out | apply below_alloc | apply pw_below_drewN | apply below_drew1) | exact HB.out)⟩
    · rw [if_neg c9] at H
      have c9b0 : (t111 == t112) = false := beq_eq_false_iff_ne.mpr c9
      have c9b1 : (t111 != t112) = true := bne_iff_ne.mpr c9
      obtain rfl := Option.some.inj H
      go_enter Try.func4, Try.ntmps4
      go_wp2_with (first | ((with_reducible refine gate_callee (f := 10) rfl ?_); refine goesL_ (some 10) rfl rfl Try.func10 (by kernel_rfl) rfl #[] rfl (by (try simp only [List.map_toArray, List.map_cons, List.map_nil]); first | done | rfl | (simp only [List.length_drop, List.length_take]; rfl)) ?_; (with_reducible refine (whirligiglaw17_shown.calls  true _ A5.out).mono ?_); rintro e w21 ⟨rfl, hb⟩; refine ⟨_, rfl, ?_⟩; have n0_ := Aside0.mk (below_step (by repeat (first | (with_reducible first | exact HB.out | apply below_alloc | apply pw_below_drewN | apply below_drew1) | exact HB.out)) hb); clear HB; have HB := n0_; clear n0_; (try clear hb); (try clear hb2); (try clear hk); (try clear hi)) | (go_at_call 15; (with_reducible refine (tiles_Place.calls a0 false a1 t111 _ A7.out).mono ?_); rintro e w' ⟨rfl, ⟨nd, rfl⟩⟩) | (go_at_call 16; (with_reducible refine (whirligigref17_Place.calls a0 false a1 t112 _ A8.out).mono ?_); rintro e w' ⟨rfl, ⟨nd, rfl⟩⟩))
      go_ret
      exact ⟨by first | rfl | (simp [errW_none, errW_some] <;> rfl) | (simp [*, errW_none, errW_some] <;> rfl), by repeat (first | (with_reducible first | exact HB.out | apply below_alloc | apply pw_below_drewN | apply below_drew1) | exact HB.out)⟩
  · replace c6 := Bool.eq_false_iff.mpr c6
    subst c6
    have H1 : (some false) = some r := by rw [if_neg (show ¬ (false = true) by decide)] at H; exact H
    clear H
    have H := H1
    clear H1
    obtain rfl := Option.some.inj H
    go_enter Try.func4, Try.ntmps4
    go_wp2_with (first | ((with_reducible refine gate_callee (f := 10) rfl ?_); refine goesL_ (some 10) rfl rfl Try.func10 (by kernel_rfl) rfl #[] rfl (by (try simp only [List.map_toArray, List.map_cons, List.map_nil]); first | done | rfl | (simp only [List.length_drop, List.length_take]; rfl)) ?_; (with_reducible refine (whirligiglaw17_shown.calls  false _ A5.out).mono ?_); rintro e w22 ⟨rfl, hb⟩; refine ⟨_, rfl, ?_⟩; have n0_ := Aside0.mk (below_step (by repeat (first | (with_reducible first | exact HB.out | apply below_alloc | apply pw_below_drewN | apply below_drew1) | exact HB.out)) hb); clear HB; have HB := n0_; clear n0_; (try clear hb); (try clear hb2); (try clear hk); (try clear hi)))
    go_ret
    exact ⟨by first | rfl | (simp [errW_none, errW_some] <;> rfl) | (simp [*, errW_none, errW_some] <;> rfl), by repeat (first | (with_reducible first | exact HB.out | apply below_alloc | apply pw_below_drewN | apply below_drew1) | exact HB.out)⟩

/-- THE ONE PURE STATEMENT of whirligiglaw17_TilesPlaces: yours. -/
def whirligiglaw17_TilesPlaces.Pure : Prop := ∀ (a0 : Int) (a1 : Int) (a2 : Int) (a3 : Int), (Lit.int .u8 a0).wf = true → (Lit.int .i64 a1).wf = true → (Lit.int .u8 a2).wf = true → (Lit.int .u8 a3).wf = true → whirligiglaw17_TilesPlaces.f a0 a1 a2 a3 = some true
theorem whirligiglaw17_TilesPlaces.walk (P : whirligiglaw17_TilesPlaces.Pure) (a0 : Int) (a1 : Int) (a2 : Int) (a3 : Int) (w : World) (w0 : (Lit.int .u8 a0).wf = true) (w1 : (Lit.int .i64 a1).wf = true) (w2 : (Lit.int .u8 a2).wf = true) (w3 : (Lit.int .u8 a3).wf = true) :
    Calls Try.prog 4 #[.int .u8 a0, .int .i64 a1, .int .u8 a2, .int .u8 a3] w fun e w' => e = .returned (.bool true) ∧ Below w.heap.size w w' := by
  have h := P a0 a1 a2 a3 w0 w1 w2 w3
  refine (whirligiglaw17_TilesPlaces.calls a0 a1 a2 a3 true w h).mono ?_
  rintro e w' ⟨rfl, hd⟩
  exact ⟨rfl, hd⟩

end Go.Proofs.Ytmigbinllnejoaa.P
