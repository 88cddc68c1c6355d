/- Contracts of Go functions of this seat: each Lean function here is what the Go function of its name answers, in every memory; no condition but the equations that each theorem states. Written by a program of this session (wip/given.py); Lean checks it. -/
import Derived.Test.YtbakfomkgahffaaPx0
import Derived.Test.YtbakfomkgahffaaPx10
import Derived.Test.YtbakfomkgahffaaPx13
namespace Go.Proofs.Ytbakfomkgahffaa.P
open Go.RowKit Go.Proofs.YtbakfomkgahffaaW.PrintWords Go.Proofs.YtbakfomkgahffaaW.PrintLast Go.Proofs.YtbakfomkgahffaaW.PrintMore
attribute [local go_sem] max2_int min2_int max_two min_two max_three min_three max_four min_four   -- for this text's walks alone
set_option linter.unusedVariables false
set_option linter.unusedSimpArgs false

/-! ### whirligigref14_Pending: function 13 -/
def whirligigref14_Pending.l0 : Nat → Int → Int → Int → Int → Option (Int)
  | 0, _, _, _, _ => none
  | k + 1, x3, x4, x124000, x124001 => if x4 < 5 then ((whirligigref01_Bit.f k x124000 x4).bind fun t124 => ((whirligigref01_Bit.f k x124001 x4).bind fun t125 => (if t124 = true then ((whirligigref01_Put.f k x3 x4 t125).bind fun t126 => (whirligigref14_Pending.l0 k t126 (wrap64 (x4 + 1)) x124000 x124001)) else ((whirligigref01_Put.f k x3 x4 false).bind fun t127 => (whirligigref14_Pending.l0 k t127 (wrap64 (x4 + 1)) x124000 x124001))))) else (some x3)
def whirligigref14_Pending.f (k : Nat) (a0_0 : Int) (a0_1 : Int) : Option (Int) := whirligigref14_Pending.l0 k 0 0 a0_0 a0_1
theorem whirligigref14_Pending.mono_l : ∀ k, (∀ y0 y1 y2 y3, LeO (whirligigref14_Pending.l0 k y0 y1 y2 y3) (whirligigref14_Pending.l0 (k + 1) y0 y1 y2 y3))
  | 0 => fun _ _ _ _ r h => by simp [whirligigref14_Pending.l0] at h
  | k + 1 => by
    have ih0 := whirligigref14_Pending.mono_l k
    · intro y0 y1 y2 y3
      unfold whirligigref14_Pending.l0
      repeat' first
      | (with_reducible exact ih0 _ _ _ _)
      | (with_reducible exact whirligigref01_Bit.mono _ _ _)
      | (with_reducible exact whirligigref01_Put.mono _ _ _ _)
      | (with_reducible exact LeO.refl _)
      | (with_reducible exact LeO.none _)
      | (with_reducible refine LeO.ite ?_ ?_)
      | (with_reducible refine LeO.bind ?_ (fun _ => ?_))
      | exact ih0 _ _ _ _
      | exact whirligigref01_Bit.mono _ _ _
      | exact whirligigref01_Put.mono _ _ _ _
      | exact LeO.none _
      | refine LeO.ite ?_ ?_
      | refine LeO.bind ?_ (fun _ => ?_)
theorem whirligigref14_Pending.mono : ∀ a0 a1 k, LeO (whirligigref14_Pending.f k a0 a1) (whirligigref14_Pending.f (k + 1) a0 a1) := by
  intro a0 a1 k
  have ih0 := whirligigref14_Pending.mono_l k
  unfold whirligigref14_Pending.f
  repeat' first
      | (with_reducible exact ih0 _ _ _ _)
      | (with_reducible exact whirligigref01_Bit.mono _ _ _)
      | (with_reducible exact whirligigref01_Put.mono _ _ _ _)
      | (with_reducible exact LeO.refl _)
      | (with_reducible exact LeO.none _)
      | (with_reducible refine LeO.ite ?_ ?_)
      | (with_reducible refine LeO.bind ?_ (fun _ => ?_))
      | exact ih0 _ _ _ _
      | exact whirligigref01_Bit.mono _ _ _
      | exact whirligigref01_Put.mono _ _ _ _
      | exact LeO.none _
      | refine LeO.ite ?_ ?_
      | refine LeO.bind ?_ (fun _ => ?_)
set_option maxHeartbeats 8000000 in
set_option maxRecDepth 100000 in
theorem whirligigref14_Pending.calls (k : Nat) (a0_0 : Int) (a0_1 : Int) (r : Int) (w : World) (h : whirligigref14_Pending.f k a0_0 a0_1 = some r) :
    Calls Try.prog 13 #[.agg #[.int .u8 a0_0, .int .u8 a0_1]] w fun e w' => e = .returned (.int .u8 r) ∧ Below w.heap.size w w' := by
  have hu23 := Try.underlying23
  have HB := Aside0.mk (Below.refl w.heap.size w)
  have H : (whirligigref14_Pending.l0 k 0 0 a0_0 a0_1) = some r := h
  clear h
  have H' := Aside0.mk H
  clear H
  go_enter Try.func13, Try.ntmps13
  go_wp2_with (first | ((with_reducible refine gate_dst (N := 1) rfl ?_); refine box_event ?hg (N := 1) ?hd (cs := #[.int .u8 a0_0, .int .u8 a0_1]) (t := 23) ?hr ?_; (case hd => rfl); (case hg => rfl); (case hr => first | (go_simp; done) | (go_simp; rfl)); intro gb123 hg w2 hbox hb; have n0_ := Aside0.mk (below_step (by repeat (first | (with_reducible first | exact HB.out | apply below_alloc | apply pw_below_drewN | apply below_drew1) | exact HB.out)) hb); have n1_ := Aside0.mk (hbox); have n2_ := Aside0.mk ((by rw [hg]; exact (below_size (by repeat (first | (with_reducible first | exact HB.out | apply below_alloc | apply pw_below_drewN | apply below_drew1) | exact HB.out))) : w.heap.size ≤ gb123)); have n3_ := Aside0.mk ((by rw [hg]; exact (below_size (by repeat (first | (with_reducible first | exact HB.out | apply below_alloc | apply pw_below_drewN | apply below_drew1) | exact HB.out))) : w.heap.size ≤ gb123)); clear HB; have HB := n0_; have BK123 := n1_; have GW123 := n2_; have GE123 := n3_; clear n0_ n1_ n2_ n3_; clear hb hbox hg))
  go_loopg [3, 4] k (fun kq v3 v4 w' => ∃ (x3_1 : Int) (x4_1 : Int), v3 = .int .u8 x3_1 ∧ v4 = .int .i64 x4_1 ∧ Aside0 (whirligigref14_Pending.l0 kq x3_1 x4_1 a0_0 a0_1 = some r) ∧ Aside0 (kq ≤ k) ∧ Aside0 (w'.heap[gb123]? = some (.cells #[.int .u8 a0_0, .int .u8 a0_1] 23 (0, 0))) ∧ Aside0 (Below w.heap.size w w'))
  case atStart => exact ⟨(0), (0), (by first | rfl | (simp; done) | (simp [*]; done)), (by first | rfl | (simp; done) | (simp [*]; done)), H', ⟨Nat.le_refl _⟩, ⟨by (with_reducible repeat (first | refine blk_drewN ?_ _ | refine blk_drew ?_ | refine blk_alloc ?_ _)); exact BK123.out⟩, ⟨by repeat (first | (with_reducible first | exact HB.out | apply below_alloc | apply pw_below_drewN | apply below_drew1 | refine below_set ?_ GE123.out) | exact HB.out)⟩⟩
  case round =>
    clear H'
    try clear c1
    try clear p2
    obtain ⟨x3_1, x4_1, rfl, rfl, HA, HK1, BK123, HB⟩ := hrel
    cases gk with
    | zero => exact absurd HA.out (by simp [whirligigref14_Pending.l0])
    | succ k1 =>
      have H := HA.out
      clear HA
      simp only [whirligigref14_Pending.l0] at H
      by_cases c3 : x4_1 < 5
      · rw [if_pos c3] at H
        have c3b0 : decide (x4_1 < 5) = true := decide_eq_true c3
        clear c3
        replace H := Option.bind_eq_some_iff.mp H
        obtain ⟨t124, A40, H⟩ := H
        replace H : ((whirligigref01_Bit.f k1 a0_1 x4_1).bind fun t125 => (if t124 = true then ((whirligigref01_Put.f k1 x3_1 x4_1 t125).bind fun t126 => (whirligigref14_Pending.l0 k1 t126 (wrap64 (x4_1 + 1)) a0_0 a0_1)) else ((whirligigref01_Put.f k1 x3_1 x4_1 false).bind fun t127 => (whirligigref14_Pending.l0 k1 t127 (wrap64 (x4_1 + 1)) a0_0 a0_1)))) = some r := H
        have A4 := Aside0.mk A40
        clear A40
        replace H := Option.bind_eq_some_iff.mp H
        obtain ⟨t125, A50, H⟩ := H
        replace H : (if t124 = true then ((whirligigref01_Put.f k1 x3_1 x4_1 t125).bind fun t126 => (whirligigref14_Pending.l0 k1 t126 (wrap64 (x4_1 + 1)) a0_0 a0_1)) else ((whirligigref01_Put.f k1 x3_1 x4_1 false).bind fun t127 => (whirligigref14_Pending.l0 k1 t127 (wrap64 (x4_1 + 1)) a0_0 a0_1))) = some r := H
        have A5 := Aside0.mk A50
        clear A50
        by_cases c6 : t124 = true
        · subst c6
          have H1 : ((whirligigref01_Put.f k1 x3_1 x4_1 t125).bind fun t126 => (whirligigref14_Pending.l0 k1 t126 (wrap64 (x4_1 + 1)) a0_0 a0_1)) = some r := by rw [if_pos rfl] at H; exact H
          clear H
          have H := H1
          clear H1
          replace H := Option.bind_eq_some_iff.mp H
          obtain ⟨t126, A70, H⟩ := H
          replace H : (whirligigref14_Pending.l0 k1 t126 (wrap64 (x4_1 + 1)) a0_0 a0_1) = some r := H
          have A7 := Aside0.mk A70
          clear A70
          have H' := Aside0.mk H
          clear H
          have hcz8_0 : wr.cell? ⟨gb123, 0, none⟩ = some (.int .u8 a0_0) := (blk_cell BK123.out 0).trans rfl
          have hcz8_1 : wr.cell? ⟨gb123, 1, none⟩ = some (.int .u8 a0_1) := (blk_cell BK123.out 1).trans rfl
          have hfz8_0 := blk_frozen BK123.out 0
          have hfz8_1 := blk_frozen BK123.out 1
          go_wp2_with (first | ((with_reducible refine gate_callee (f := 26) rfl ?_); refine goesL_ (some 14) rfl rfl Try.func26 (by kernel_rfl) rfl #[.int .u8 a0_0, .int .i64 x4_1] rfl (by (try simp only [List.map_toArray, List.map_cons, List.map_nil]); first | done | rfl | (simp only [List.length_drop, List.length_take]; rfl)) ?_; (with_reducible refine (whirligigref01_Bit.calls k1 a0_0 x4_1 true _ A4.out).mono ?_); rintro e w' ⟨rfl, ⟨nd, rfl⟩⟩; refine ⟨_, rfl, ?_⟩) | ((with_reducible refine gate_callee (f := 26) rfl ?_); refine goesL_ (some 18) rfl rfl Try.func26 (by kernel_rfl) rfl #[.int .u8 a0_1, .int .i64 x4_1] rfl (by (try simp only [List.map_toArray, List.map_cons, List.map_nil]); first | done | rfl | (simp only [List.length_drop, List.length_take]; rfl)) ?_; (with_reducible refine (whirligigref01_Bit.calls k1 a0_1 x4_1 t125 _ A5.out).mono ?_); rintro e w' ⟨rfl, ⟨nd, rfl⟩⟩; refine ⟨_, rfl, ?_⟩) | ((with_reducible refine gate_callee (f := 27) rfl ?_); refine goesL_ (some 25) rfl rfl Try.func27 (by kernel_rfl) rfl #[.int .u8 x3_1, .int .i64 x4_1, .bool t125] rfl (by (try simp only [List.map_toArray, List.map_cons, List.map_nil]); first | done | rfl | (simp only [List.length_drop, List.length_take]; rfl)) ?_; (with_reducible refine (whirligigref01_Put.calls k1 x3_1 x4_1 t125 t126 _ A7.out).mono ?_); rintro e w' ⟨rfl, ⟨nd, rfl⟩⟩; refine ⟨_, rfl, ?_⟩))
          go_roundg k1
          case measure => have := HK1.out; omega
          case rel => exact ⟨(t126), (wrap64 (x4_1 + 1)), (by first | rfl | (simp; done) | (simp [*]; done)), (by first | rfl | (simp; done) | (simp [*]; done)), H', ⟨by have := HK1.out; omega⟩, ⟨by (with_reducible repeat (first | refine blk_drewN ?_ _ | refine blk_drew ?_ | refine blk_alloc ?_ _)); exact BK123.out⟩, ⟨by repeat (first | (with_reducible first | exact HB.out | apply below_alloc | apply pw_below_drewN | apply below_drew1 | refine below_set ?_ GE123.out) | exact HB.out)⟩⟩
        · replace c6 := Bool.eq_false_iff.mpr c6
          subst c6
          have H1 : ((whirligigref01_Put.f k1 x3_1 x4_1 false).bind fun t127 => (whirligigref14_Pending.l0 k1 t127 (wrap64 (x4_1 + 1)) a0_0 a0_1)) = some r := by rw [if_neg (show ¬ (false = true) by decide)] at H; exact H
          clear H
          have H := H1
          clear H1
          replace H := Option.bind_eq_some_iff.mp H
          obtain ⟨t127, A90, H⟩ := H
          replace H : (whirligigref14_Pending.l0 k1 t127 (wrap64 (x4_1 + 1)) a0_0 a0_1) = some r := H
          have A9 := Aside0.mk A90
          clear A90
          have H' := Aside0.mk H
          clear H
          have hcz10_0 : wr.cell? ⟨gb123, 0, none⟩ = some (.int .u8 a0_0) := (blk_cell BK123.out 0).trans rfl
          have hcz10_1 : wr.cell? ⟨gb123, 1, none⟩ = some (.int .u8 a0_1) := (blk_cell BK123.out 1).trans rfl
          have hfz10_0 := blk_frozen BK123.out 0
          have hfz10_1 := blk_frozen BK123.out 1
          go_wp2_with (first | ((with_reducible refine gate_callee (f := 26) rfl ?_); refine goesL_ (some 14) rfl rfl Try.func26 (by kernel_rfl) rfl #[.int .u8 a0_0, .int .i64 x4_1] rfl (by (try simp only [List.map_toArray, List.map_cons, List.map_nil]); first | done | rfl | (simp only [List.length_drop, List.length_take]; rfl)) ?_; (with_reducible refine (whirligigref01_Bit.calls k1 a0_0 x4_1 false _ A4.out).mono ?_); rintro e w' ⟨rfl, ⟨nd, rfl⟩⟩; refine ⟨_, rfl, ?_⟩) | ((with_reducible refine gate_callee (f := 26) rfl ?_); refine goesL_ (some 18) rfl rfl Try.func26 (by kernel_rfl) rfl #[.int .u8 a0_1, .int .i64 x4_1] rfl (by (try simp only [List.map_toArray, List.map_cons, List.map_nil]); first | done | rfl | (simp only [List.length_drop, List.length_take]; rfl)) ?_; (with_reducible refine (whirligigref01_Bit.calls k1 a0_1 x4_1 t125 _ A5.out).mono ?_); rintro e w' ⟨rfl, ⟨nd, rfl⟩⟩; refine ⟨_, rfl, ?_⟩) | ((with_reducible refine gate_callee (f := 27) rfl ?_); refine goesL_ (some 25) rfl rfl Try.func27 (by kernel_rfl) rfl #[.int .u8 x3_1, .int .i64 x4_1, .bool false] rfl (by (try simp only [List.map_toArray, List.map_cons, List.map_nil]); first | done | rfl | (simp only [List.length_drop, List.length_take]; rfl)) ?_; (with_reducible refine (whirligigref01_Put.calls k1 x3_1 x4_1 false t127 _ A9.out).mono ?_); rintro e w' ⟨rfl, ⟨nd, rfl⟩⟩; refine ⟨_, rfl, ?_⟩))
          go_roundg k1
          case measure => have := HK1.out; omega
          case rel => exact ⟨(t127), (wrap64 (x4_1 + 1)), (by first | rfl | (simp; done) | (simp [*]; done)), (by first | rfl | (simp; done) | (simp [*]; done)), H', ⟨by have := HK1.out; omega⟩, ⟨by (with_reducible repeat (first | refine blk_drewN ?_ _ | refine blk_drew ?_ | refine blk_alloc ?_ _)); exact BK123.out⟩, ⟨by repeat (first | (with_reducible first | exact HB.out | apply below_alloc | apply pw_below_drewN | apply below_drew1 | refine below_set ?_ GE123.out) | exact HB.out)⟩⟩
      · rw [if_neg c3] at H
        have c3b0 : decide (x4_1 < 5) = false := decide_eq_false c3
        clear c3
        obtain rfl := Option.some.inj H
        go_wp2
        go_ret
        exact ⟨by first | rfl | (simp [errW_none, errW_some] <;> rfl) | (simp [*, errW_none, errW_some] <;> rfl), by repeat (first | (with_reducible first | exact HB.out | apply below_alloc | apply pw_below_drewN | apply below_drew1 | refine below_set ?_ GE123.out) | exact HB.out)⟩

end Go.Proofs.Ytbakfomkgahffaa.P
