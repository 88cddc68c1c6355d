/- Contracts of Go functions of this seat: each Lean function here is what the Go function of its name answers, in every memory; no condition but the equations that each theorem states. Written by a program of this session (wip/given.py); Lean checks it. -/
import Derived.Test.YtbceegmpdgadoaaPx0
import Derived.Test.YtbceegmpdgadoaaPx1
namespace Go.Proofs.Ytbceegmpdgadoaa.P
open Go.RowKit Go.Proofs.YtbceegmpdgadoaaW.PrintWords Go.Proofs.YtbceegmpdgadoaaW.PrintLast Go.Proofs.YtbceegmpdgadoaaW.PrintMore
attribute [local go_sem] max2_int min2_int max_two min_two max_three min_three max_four min_four   -- for this text's walks alone
set_option linter.unusedVariables false
set_option linter.unusedSimpArgs false

/-! ### serial_shift: function 16 -/
def serial_shift.f (a0_0 : Int) (a0_1 : Int) (a0_2 : Int) (a0_3 : Int) (a1 : Bool) : Option (Int × Int × Int × Int) := if a1 = true then (if ((a0_2 - 1) % 256) = 0 then (some (Go.bits .or .u8 ((a0_0 * 2) % 256) 1, Go.bits .andNot .u8 a0_1 128, (a0_2 - 1) % 256, a0_3)) else (some (Go.bits .or .u8 ((a0_0 * 2) % 256) 1, a0_1, (a0_2 - 1) % 256, a0_3))) else (if ((a0_2 - 1) % 256) = 0 then (some ((a0_0 * 2) % 256, Go.bits .andNot .u8 a0_1 128, (a0_2 - 1) % 256, a0_3)) else (some ((a0_0 * 2) % 256, a0_1, (a0_2 - 1) % 256, a0_3)))
set_option maxHeartbeats 8000000 in
set_option maxRecDepth 100000 in
theorem serial_shift.calls (a0_0 : Int) (a0_1 : Int) (a0_2 : Int) (a0_3 : Int) (a1 : Bool) (r1 : Int) (r2 : Int) (r3 : Int) (r4 : Int) (w : World) (h : serial_shift.f a0_0 a0_1 a0_2 a0_3 a1 = some (r1, r2, r3, r4)) :
    Calls Try.prog 16 #[.agg #[.int .u8 a0_0, .int .u8 a0_1, .int .u8 a0_2, .int .u8 a0_3], .bool a1] w fun e w' => e = .returned (.agg #[.int .u8 r1, .int .u8 r2, .int .u8 r3, .int .u8 r4]) ∧ Below w.heap.size w w' := by
  have hu23 := Try.underlying23
  have HB := Aside0.mk (Below.refl w.heap.size w)
  have H : (if a1 = true then (if ((a0_2 - 1) % 256) = 0 then (some (Go.bits .or .u8 ((a0_0 * 2) % 256) 1, Go.bits .andNot .u8 a0_1 128, (a0_2 - 1) % 256, a0_3)) else (some (Go.bits .or .u8 ((a0_0 * 2) % 256) 1, a0_1, (a0_2 - 1) % 256, a0_3))) else (if ((a0_2 - 1) % 256) = 0 then (some ((a0_0 * 2) % 256, Go.bits .andNot .u8 a0_1 128, (a0_2 - 1) % 256, a0_3)) else (some ((a0_0 * 2) % 256, a0_1, (a0_2 - 1) % 256, a0_3)))) = some (r1, r2, r3, r4) := h
  clear h
  by_cases c3 : a1 = true
  · subst c3
    have H1 : (if ((a0_2 - 1) % 256) = 0 then (some (Go.bits .or .u8 ((a0_0 * 2) % 256) 1, Go.bits .andNot .u8 a0_1 128, (a0_2 - 1) % 256, a0_3)) else (some (Go.bits .or .u8 ((a0_0 * 2) % 256) 1, a0_1, (a0_2 - 1) % 256, a0_3))) = some (r1, r2, r3, r4) := by rw [if_pos rfl] at H; exact H
    clear H
    have H := H1
    clear H1
    by_cases c4 : ((a0_2 - 1) % 256) = 0
    · rw [if_pos c4] at H
      have c4b0 : (((a0_2 - 1) % 256) == 0) = true := beq_iff_eq.mpr c4
      have c4b1 : (((a0_2 - 1) % 256) != 0) = false := bne_eq_false_iff_eq.mpr c4
      clear c4
      simp only [Option.some.injEq, Prod.mk.injEq] at H
      obtain ⟨rfl, rfl, rfl, rfl⟩ := H
      go_enter Try.func16, Try.ntmps16
      go_wp2_with (first | ((with_reducible refine gate_dst (N := 2) rfl ?_); refine box_event ?hg (N := 2) ?hd (cs := #[.int .u8 a0_0, .int .u8 a0_1, .int .u8 a0_2, .int .u8 a0_3]) (t := 23) ?hr ?_; (case hd => rfl); (case hg => rfl); (case hr => first | (go_simp; done) | (go_simp; rfl)); intro gb101 hg w5 hbox hb; have n0_ := Aside0.mk (below_step (by repeat (first | (with_reducible first | exact HB.out | apply below_alloc | apply pw_below_drewN | apply below_drew1) | exact HB.out)) hb); have n1_ := Aside0.mk (hbox); have n2_ := Aside0.mk ((by rw [hg]; exact (below_size (by repeat (first | (with_reducible first | exact HB.out | apply below_alloc | apply pw_below_drewN | apply below_drew1) | exact HB.out))) : w.heap.size ≤ gb101)); have n3_ := Aside0.mk ((by rw [hg]; exact (below_size (by repeat (first | (with_reducible first | exact HB.out | apply below_alloc | apply pw_below_drewN | apply below_drew1) | exact HB.out))) : w.heap.size ≤ gb101)); clear HB; have HB := n0_; have BK101 := n1_; have GW101 := n2_; have GE101 := n3_; clear n0_ n1_ n2_ n3_; clear hb hbox hg) | ((with_reducible refine gate_dst (N := 4) rfl ?_); refine box_event ?hg (N := 4) ?hd (cs := #[.int .u8 0, .int .u8 0, .int .u8 0, .int .u8 0]) (t := 23) ?hr ?_; (case hd => rfl); (case hg => rfl); (case hr => first | (go_simp; done) | (go_simp; rfl)); intro gb102 hg w6 hbox hb; have n0_ := Aside0.mk (blk_below (g := gb101) (o := .cells #[.int .u8 a0_0, .int .u8 a0_1, .int .u8 a0_2, .int .u8 a0_3] 23 (0, 0)) (by (with_reducible repeat (first | refine blk_drewN ?_ _ | refine blk_drew ?_ | refine blk_alloc ?_ _)); exact BK101.out) hb); have n1_ := Aside0.mk (below_step (by repeat (first | (with_reducible first | exact HB.out | apply below_alloc | apply pw_below_drewN | apply below_drew1 | refine below_set ?_ GE101.out) | exact HB.out)) hb); have n2_ := Aside0.mk (hbox); have n3_ := Aside0.mk ((by rw [hg]; exact (below_size (by repeat (first | (with_reducible first | exact HB.out | apply below_alloc | apply pw_below_drewN | apply below_drew1 | refine below_set ?_ GE101.out) | exact HB.out))) : w.heap.size ≤ gb102)); have n4_ := Aside0.mk ((by rw [hg]; exact (below_size (by repeat (first | (with_reducible first | exact HB.out | apply below_alloc | apply pw_below_drewN | apply below_drew1 | refine below_set ?_ GE101.out) | exact HB.out))) : w.heap.size ≤ gb102)); have n5_ := Aside0.mk ((by rw [hg]; exact Nat.ne_of_lt (blk_lt (g := gb101) (o := .cells #[.int .u8 a0_0, .int .u8 a0_1, .int .u8 a0_2, .int .u8 a0_3] 23 (0, 0)) (by (with_reducible repeat (first | refine blk_drewN ?_ _ | refine blk_drew ?_ | refine blk_alloc ?_ _)); exact BK101.out)) : gb101 ≠ gb102)); have n6_ := Aside0.mk ((by rw [hg]; exact Nat.ne_of_gt (blk_lt (g := gb101) (o := .cells #[.int .u8 a0_0, .int .u8 a0_1, .int .u8 a0_2, .int .u8 a0_3] 23 (0, 0)) (by (with_reducible repeat (first | refine blk_drewN ?_ _ | refine blk_drew ?_ | refine blk_alloc ?_ _)); exact BK101.out)) : gb102 ≠ gb101)); clear BK101; clear HB; have BK101 := n0_; have HB := n1_; have BK102 := n2_; have GW102 := n3_; have GE102 := n4_; have NB101_102 := n5_; have NB102_101 := n6_; clear n0_ n1_ n2_ n3_ n4_ n5_ n6_; clear hb hbox hg; have hnb7 := NB101_102.out; have hnc7 := NB102_101.out; have hcz8_0 : w6.cell? ⟨gb101, 0, none⟩ = some (.int .u8 a0_0) := (blk_cell BK101.out 0).trans rfl; have hcz8_1 : w6.cell? ⟨gb101, 1, none⟩ = some (.int .u8 a0_1) := (blk_cell BK101.out 1).trans rfl; have hcz8_2 : w6.cell? ⟨gb101, 2, none⟩ = some (.int .u8 a0_2) := (blk_cell BK101.out 2).trans rfl; have hcz8_3 : w6.cell? ⟨gb101, 3, none⟩ = some (.int .u8 a0_3) := (blk_cell BK101.out 3).trans rfl; have hfz8_0 := blk_frozen BK101.out 0; have hfz8_1 := blk_frozen BK101.out 1; have hfz8_2 := blk_frozen BK101.out 2; have hfz8_3 := blk_frozen BK101.out 3; have hcz9_0 : w6.cell? ⟨gb102, 0, none⟩ = some (.int .u8 0) := (blk_cell BK102.out 0).trans rfl; have hcz9_1 : w6.cell? ⟨gb102, 1, none⟩ = some (.int .u8 0) := (blk_cell BK102.out 1).trans rfl; have hcz9_2 : w6.cell? ⟨gb102, 2, none⟩ = some (.int .u8 0) := (blk_cell BK102.out 2).trans rfl; have hcz9_3 : w6.cell? ⟨gb102, 3, none⟩ = some (.int .u8 0) := (blk_cell BK102.out 3).trans rfl; have hfz9_0 := blk_frozen BK102.out 0; have hfz9_1 := blk_frozen BK102.out 1; have hfz9_2 := blk_frozen BK102.out 2; have hfz9_3 := blk_frozen BK102.out 3))
      refine bodyPost_ret (results_cell_row rfl _ _ gb102 23 #[.int .u8 (Go.bits .or .u8 ((a0_0 * 2) % 256) 1), .int .u8 (Go.bits .andNot .u8 a0_1 128), .int .u8 ((a0_2 - 1) % 256), .int .u8 a0_3] (0, 0) _ rfl (by (with_reducible repeat (first | refine blk_drewN ?_ _ | refine blk_drew ?_ | refine blk_alloc ?_ _)); refine blk_put (cs := #[.int .u8 (Go.bits .or .u8 ((a0_0 * 2) % 256) 1), .int .u8 (Go.bits .andNot .u8 a0_1 128), .int .u8 ((a0_2 - 1) % 256), .int .u8 0]) ?_ 3 _ rfl; (with_reducible repeat (first | refine blk_drewN ?_ _ | refine blk_drew ?_ | refine blk_alloc ?_ _)); refine blk_put (cs := #[.int .u8 (Go.bits .or .u8 ((a0_0 * 2) % 256) 1), .int .u8 (Go.bits .andNot .u8 a0_1 128), .int .u8 0, .int .u8 0]) ?_ 2 _ rfl; (with_reducible repeat (first | refine blk_drewN ?_ _ | refine blk_drew ?_ | refine blk_alloc ?_ _)); refine blk_put (cs := #[.int .u8 (Go.bits .or .u8 ((a0_0 * 2) % 256) 1), .int .u8 0, .int .u8 0, .int .u8 0]) ?_ 1 _ rfl; (with_reducible repeat (first | refine blk_drewN ?_ _ | refine blk_drew ?_ | refine blk_alloc ?_ _)); refine blk_put (cs := #[.int .u8 0, .int .u8 0, .int .u8 0, .int .u8 0]) ?_ 0 _ rfl; (with_reducible repeat (first | refine blk_drewN ?_ _ | refine blk_drew ?_ | refine blk_alloc ?_ _)); refine blk_far ?_ NB102_101.out _; (with_reducible repeat (first | refine blk_drewN ?_ _ | refine blk_drew ?_ | refine blk_alloc ?_ _)); refine blk_far ?_ NB102_101.out _; (with_reducible repeat (first | refine blk_drewN ?_ _ | refine blk_drew ?_ | refine blk_alloc ?_ _)); refine blk_far ?_ NB102_101.out _; (with_reducible repeat (first | refine blk_drewN ?_ _ | refine blk_drew ?_ | refine blk_alloc ?_ _)); refine blk_far ?_ NB102_101.out _; (with_reducible repeat (first | refine blk_drewN ?_ _ | refine blk_drew ?_ | refine blk_alloc ?_ _)); exact BK102.out) Try.underlying23 rfl (by kernel_rfl)) rfl ?_
      exact ⟨by first | rfl | (simp [errW_none, errW_some] <;> rfl) | (simp [*, errW_none, errW_some] <;> rfl), by repeat (first | (with_reducible first | exact HB.out | apply below_alloc | apply pw_below_drewN | apply below_drew1 | refine below_set ?_ GE101.out | refine below_set ?_ GE102.out) | exact HB.out)⟩
    · rw [if_neg c4] at H
      have c4b0 : (((a0_2 - 1) % 256) == 0) = false := beq_eq_false_iff_ne.mpr c4
      have c4b1 : (((a0_2 - 1) % 256) != 0) = true := bne_iff_ne.mpr c4
      simp only [Option.some.injEq, Prod.mk.injEq] at H
      obtain ⟨rfl, rfl, rfl, rfl⟩ := H
      go_enter Try.func16, Try.ntmps16
      go_wp2_with (first | ((with_reducible refine gate_dst (N := 2) rfl ?_); refine box_event ?hg (N := 2) ?hd (cs := #[.int .u8 a0_0, .int .u8 a0_1, .int .u8 a0_2, .int .u8 a0_3]) (t := 23) ?hr ?_; (case hd => rfl); (case hg => rfl); (case hr => first | (go_simp; done) | (go_simp; rfl)); intro gb101 hg w10 hbox hb; have n0_ := Aside0.mk (below_step (by repeat (first | (with_reducible first | exact HB.out | apply below_alloc | apply pw_below_drewN | apply below_drew1) | exact HB.out)) hb); have n1_ := Aside0.mk (hbox); have n2_ := Aside0.mk ((by rw [hg]; exact (below_size (by repeat (first | (with_reducible first | exact HB.out | apply below_alloc | apply pw_below_drewN | apply below_drew1) | exact HB.out))) : w.heap.size ≤ gb101)); have n3_ := Aside0.mk ((by rw [hg]; exact (below_size (by repeat (first | (with_reducible first | exact HB.out | apply below_alloc | apply pw_below_drewN | apply below_drew1) | exact HB.out))) : w.heap.size ≤ gb101)); clear HB; have HB := n0_; have BK101 := n1_; have GW101 := n2_; have GE101 := n3_; clear n0_ n1_ n2_ n3_; clear hb hbox hg) | ((with_reducible refine gate_dst (N := 4) rfl ?_); refine box_event ?hg (N := 4) ?hd (cs := #[.int .u8 0, .int .u8 0, .int .u8 0, .int .u8 0]) (t := 23) ?hr ?_; (case hd => rfl); (case hg => rfl); (case hr => first | (go_simp; done) | (go_simp; rfl)); intro gb102 hg w11 hbox hb; have n0_ := Aside0.mk (blk_below (g := gb101) (o := .cells #[.int .u8 a0_0, .int .u8 a0_1, .int .u8 a0_2, .int .u8 a0_3] 23 (0, 0)) (by (with_reducible repeat (first | refine blk_drewN ?_ _ | refine blk_drew ?_ | refine blk_alloc ?_ _)); exact BK101.out) hb); have n1_ := Aside0.mk (below_step (by repeat (first | (with_reducible first | exact HB.out | apply below_alloc | apply pw_below_drewN | apply below_drew1 | refine below_set ?_ GE101.out) | exact HB.out)) hb); have n2_ := Aside0.mk (hbox); have n3_ := Aside0.mk ((by rw [hg]; exact (below_size (by repeat (first | (with_reducible first | exact HB.out | apply below_alloc | apply pw_below_drewN | apply below_drew1 | refine below_set ?_ GE101.out) | exact HB.out))) : w.heap.size ≤ gb102)); have n4_ := Aside0.mk ((by rw [hg]; exact (below_size (by repeat (first | (with_reducible first | exact HB.out | apply below_alloc | apply pw_below_drewN | apply below_drew1 | refine below_set ?_ GE101.out) | exact HB.out))) : w.heap.size ≤ gb102)); have n5_ := Aside0.mk ((by rw [hg]; exact Nat.ne_of_lt (blk_lt (g := gb101) (o := .cells #[.int .u8 a0_0, .int .u8 a0_1, .int .u8 a0_2, .int .u8 a0_3] 23 (0, 0)) (by (with_reducible repeat (first | refine blk_drewN ?_ _ | refine blk_drew ?_ | refine blk_alloc ?_ _)); exact BK101.out)) : gb101 ≠ gb102)); have n6_ := Aside0.mk ((by rw [hg]; exact Nat.ne_of_gt (blk_lt (g := gb101) (o := .cells #[.int .u8 a0_0, .int .u8 a0_1, .int .u8 a0_2, .int .u8 a0_3] 23 (0, 0)) (by (with_reducible repeat (first | refine blk_drewN ?_ _ | refine blk_drew ?_ | refine blk_alloc ?_ _)); exact BK101.out)) : gb102 ≠ gb101)); clear BK101; clear HB; have BK101 := n0_; have HB := n1_; have BK102 := n2_; have GW102 := n3_; have GE102 := n4_; have NB101_102 := n5_; have NB102_101 := n6_; clear n0_ n1_ n2_ n3_ n4_ n5_ n6_; clear hb hbox hg; have hnb12 := NB101_102.out; have hnc12 := NB102_101.out; have hcz13_0 : w11.cell? ⟨gb101, 0, none⟩ = some (.int .u8 a0_0) := (blk_cell BK101.out 0).trans rfl; have hcz13_1 : w11.cell? ⟨gb101, 1, none⟩ = some (.int .u8 a0_1) := (blk_cell BK101.out 1).trans rfl; have hcz13_2 : w11.cell? ⟨gb101, 2, none⟩ = some (.int .u8 a0_2) := (blk_cell BK101.out 2).trans rfl; have hcz13_3 : w11.cell? ⟨gb101, 3, none⟩ = some (.int .u8 a0_3) := (blk_cell BK101.out 3).trans rfl; have hfz13_0 := blk_frozen BK101.out 0; have hfz13_1 := blk_frozen BK101.out 1; have hfz13_2 := blk_frozen BK101.out 2; have hfz13_3 := blk_frozen BK101.out 3; have hcz14_0 : w11.cell? ⟨gb102, 0, none⟩ = some (.int .u8 0) := (blk_cell BK102.out 0).trans rfl; have hcz14_1 : w11.cell? ⟨gb102, 1, none⟩ = some (.int .u8 0) := (blk_cell BK102.out 1).trans rfl; have hcz14_2 : w11.cell? ⟨gb102, 2, none⟩ = some (.int .u8 0) := (blk_cell BK102.out 2).trans rfl; have hcz14_3 : w11.cell? ⟨gb102, 3, none⟩ = some (.int .u8 0) := (blk_cell BK102.out 3).trans rfl; have hfz14_0 := blk_frozen BK102.out 0; have hfz14_1 := blk_frozen BK102.out 1; have hfz14_2 := blk_frozen BK102.out 2; have hfz14_3 := blk_frozen BK102.out 3))
      refine bodyPost_ret (results_cell_row rfl _ _ gb102 23 #[.int .u8 (Go.bits .or .u8 ((a0_0 * 2) % 256) 1), .int .u8 a0_1, .int .u8 ((a0_2 - 1) % 256), .int .u8 a0_3] (0, 0) _ rfl (by (with_reducible repeat (first | refine blk_drewN ?_ _ | refine blk_drew ?_ | refine blk_alloc ?_ _)); refine blk_put (cs := #[.int .u8 (Go.bits .or .u8 ((a0_0 * 2) % 256) 1), .int .u8 a0_1, .int .u8 ((a0_2 - 1) % 256), .int .u8 0]) ?_ 3 _ rfl; (with_reducible repeat (first | refine blk_drewN ?_ _ | refine blk_drew ?_ | refine blk_alloc ?_ _)); refine blk_put (cs := #[.int .u8 (Go.bits .or .u8 ((a0_0 * 2) % 256) 1), .int .u8 a0_1, .int .u8 0, .int .u8 0]) ?_ 2 _ rfl; (with_reducible repeat (first | refine blk_drewN ?_ _ | refine blk_drew ?_ | refine blk_alloc ?_ _)); refine blk_put (cs := #[.int .u8 (Go.bits .or .u8 ((a0_0 * 2) % 256) 1), .int .u8 0, .int .u8 0, .int .u8 0]) ?_ 1 _ rfl; (with_reducible repeat (first | refine blk_drewN ?_ _ | refine blk_drew ?_ | refine blk_alloc ?_ _)); refine blk_put (cs := #[.int .u8 0, .int .u8 0, .int .u8 0, .int .u8 0]) ?_ 0 _ rfl; (with_reducible repeat (first | refine blk_drewN ?_ _ | refine blk_drew ?_ | refine blk_alloc ?_ _)); refine blk_far ?_ NB102_101.out _; (with_reducible repeat (first | refine blk_drewN ?_ _ | refine blk_drew ?_ | refine blk_alloc ?_ _)); refine blk_far ?_ NB102_101.out _; (with_reducible repeat (first | refine blk_drewN ?_ _ | refine blk_drew ?_ | refine blk_alloc ?_ _)); refine blk_far ?_ NB102_101.out _; (with_reducible repeat (first | refine blk_drewN ?_ _ | refine blk_drew ?_ | refine blk_alloc ?_ _)); exact BK102.out) Try.underlying23 rfl (by kernel_rfl)) rfl ?_
      exact ⟨by first | rfl | (simp [errW_none, errW_some] <;> rfl) | (simp [*, errW_none, errW_some] <;> rfl), by repeat (first | (with_reducible first | exact HB.out | apply below_alloc | apply pw_below_drewN | apply below_drew1 | refine below_set ?_ GE101.out | refine below_set ?_ GE102.out) | exact HB.out)⟩
  · replace c3 := Bool.eq_false_iff.mpr c3
    subst c3
    have H1 : (if ((a0_2 - 1) % 256) = 0 then (some ((a0_0 * 2) % 256, Go.bits .andNot .u8 a0_1 128, (a0_2 - 1) % 256, a0_3)) else (some ((a0_0 * 2) % 256, a0_1, (a0_2 - 1) % 256, a0_3))) = some (r1, r2, r3, r4) := by rw [if_neg (show ¬ (false = true) by decide)] at H; exact H
    clear H
    have H := H1
    clear H1
    by_cases c15 : ((a0_2 - 1) % 256) = 0
    · rw [if_pos c15] at H
      have c15b0 : (((a0_2 - 1) % 256) == 0) = true := beq_iff_eq.mpr c15
      have c15b1 : (((a0_2 - 1) % 256) != 0) = false := bne_eq_false_iff_eq.mpr c15
      clear c15
      simp only [Option.some.injEq, Prod.mk.injEq] at H
      obtain ⟨rfl, rfl, rfl, rfl⟩ := H
      go_enter Try.func16, Try.ntmps16
      go_wp2_with (first | ((with_reducible refine gate_dst (N := 2) rfl ?_); refine box_event ?hg (N := 2) ?hd (cs := #[.int .u8 a0_0, .int .u8 a0_1, .int .u8 a0_2, .int .u8 a0_3]) (t := 23) ?hr ?_; (case hd => rfl); (case hg => rfl); (case hr => first | (go_simp; done) | (go_simp; rfl)); intro gb101 hg w16 hbox hb; have n0_ := Aside0.mk (below_step (by repeat (first | (with_reducible first | exact HB.out | apply below_alloc | apply pw_below_drewN | apply below_drew1) | exact HB.out)) hb); have n1_ := Aside0.mk (hbox); have n2_ := Aside0.mk ((by rw [hg]; exact (below_size (by repeat (first | (with_reducible first | exact HB.out | apply below_alloc | apply pw_below_drewN | apply below_drew1) | exact HB.out))) : w.heap.size ≤ gb101)); have n3_ := Aside0.mk ((by rw [hg]; exact (below_size (by repeat (first | (with_reducible first | exact HB.out | apply below_alloc | apply pw_below_drewN | apply below_drew1) | exact HB.out))) : w.heap.size ≤ gb101)); clear HB; have HB := n0_; have BK101 := n1_; have GW101 := n2_; have GE101 := n3_; clear n0_ n1_ n2_ n3_; clear hb hbox hg) | ((with_reducible refine gate_dst (N := 4) rfl ?_); refine box_event ?hg (N := 4) ?hd (cs := #[.int .u8 0, .int .u8 0, .int .u8 0, .int .u8 0]) (t := 23) ?hr ?_; (case hd => rfl); (case hg => rfl); (case hr => first | (go_simp; done) | (go_simp; rfl)); intro gb102 hg w17 hbox hb; have n0_ := Aside0.mk (blk_below (g := gb101) (o := .cells #[.int .u8 a0_0, .int .u8 a0_1, .int .u8 a0_2, .int .u8 a0_3] 23 (0, 0)) (by (with_reducible repeat (first | refine blk_drewN ?_ _ | refine blk_drew ?_ | refine blk_alloc ?_ _)); exact BK101.out) hb); have n1_ := Aside0.mk (below_step (by repeat (first | (with_reducible first | exact HB.out | apply below_alloc | apply pw_below_drewN | apply below_drew1 | refine below_set ?_ GE101.out) | exact HB.out)) hb); have n2_ := Aside0.mk (hbox); have n3_ := Aside0.mk ((by rw [hg]; exact (below_size (by repeat (first | (with_reducible first | exact HB.out | apply below_alloc | apply pw_below_drewN | apply below_drew1 | refine below_set ?_ GE101.out) | exact HB.out))) : w.heap.size ≤ gb102)); have n4_ := Aside0.mk ((by rw [hg]; exact (below_size (by repeat (first | (with_reducible first | exact HB.out | apply below_alloc | apply pw_below_drewN | apply below_drew1 | refine below_set ?_ GE101.out) | exact HB.out))) : w.heap.size ≤ gb102)); have n5_ := Aside0.mk ((by rw [hg]; exact Nat.ne_of_lt (blk_lt (g := gb101) (o := .cells #[.int .u8 a0_0, .int .u8 a0_1, .int .u8 a0_2, .int .u8 a0_3] 23 (0, 0)) (by (with_reducible repeat (first | refine blk_drewN ?_ _ | refine blk_drew ?_ | refine blk_alloc ?_ _)); exact BK101.out)) : gb101 ≠ gb102)); have n6_ := Aside0.mk ((by rw [hg]; exact Nat.ne_of_gt (blk_lt (g := gb101) (o := .cells #[.int .u8 a0_0, .int .u8 a0_1, .int .u8 a0_2, .int .u8 a0_3] 23 (0, 0)) (by (with_reducible repeat (first | refine blk_drewN ?_ _ | refine blk_drew ?_ | refine blk_alloc ?_ _)); exact BK101.out)) : gb102 ≠ gb101)); clear BK101; clear HB; have BK101 := n0_; have HB := n1_; have BK102 := n2_; have GW102 := n3_; have GE102 := n4_; have NB101_102 := n5_; have NB102_101 := n6_; clear n0_ n1_ n2_ n3_ n4_ n5_ n6_; clear hb hbox hg; have hnb18 := NB101_102.out; have hnc18 := NB102_101.out; have hcz19_0 : w17.cell? ⟨gb101, 0, none⟩ = some (.int .u8 a0_0) := (blk_cell BK101.out 0).trans rfl; have hcz19_1 : w17.cell? ⟨gb101, 1, none⟩ = some (.int .u8 a0_1) := (blk_cell BK101.out 1).trans rfl; have hcz19_2 : w17.cell? ⟨gb101, 2, none⟩ = some (.int .u8 a0_2) := (blk_cell BK101.out 2).trans rfl; have hcz19_3 : w17.cell? ⟨gb101, 3, none⟩ = some (.int .u8 a0_3) := (blk_cell BK101.out 3).trans rfl; have hfz19_0 := blk_frozen BK101.out 0; have hfz19_1 := blk_frozen BK101.out 1; have hfz19_2 := blk_frozen BK101.out 2; have hfz19_3 := blk_frozen BK101.out 3; have hcz20_0 : w17.cell? ⟨gb102, 0, none⟩ = some (.int .u8 0) := (blk_cell BK102.out 0).trans rfl; have hcz20_1 : w17.cell? ⟨gb102, 1, none⟩ = some (.int .u8 0) := (blk_cell BK102.out 1).trans rfl; have hcz20_2 : w17.cell? ⟨gb102, 2, none⟩ = some (.int .u8 0) := (blk_cell BK102.out 2).trans rfl; have hcz20_3 : w17.cell? ⟨gb102, 3, none⟩ = some (.int .u8 0) := (blk_cell BK102.out 3).trans rfl; have hfz20_0 := blk_frozen BK102.out 0; have hfz20_1 := blk_frozen BK102.out 1; have hfz20_2 := blk_frozen BK102.out 2; have hfz20_3 := blk_frozen BK102.out 3))
      refine bodyPost_ret (results_cell_row rfl _ _ gb102 23 #[.int .u8 ((a0_0 * 2) % 256), .int .u8 (Go.bits .andNot .u8 a0_1 128), .int .u8 ((a0_2 - 1) % 256), .int .u8 a0_3] (0, 0) _ rfl (by (with_reducible repeat (first | refine blk_drewN ?_ _ | refine blk_drew ?_ | refine blk_alloc ?_ _)); refine blk_put (cs := #[.int .u8 ((a0_0 * 2) % 256), .int .u8 (Go.bits .andNot .u8 a0_1 128), .int .u8 ((a0_2 - 1) % 256), .int .u8 0]) ?_ 3 _ rfl; (with_reducible repeat (first | refine blk_drewN ?_ _ | refine blk_drew ?_ | refine blk_alloc ?_ _)); refine blk_put (cs := #[.int .u8 ((a0_0 * 2) % 256), .int .u8 (Go.bits .andNot .u8 a0_1 128), .int .u8 0, .int .u8 0]) ?_ 2 _ rfl; (with_reducible repeat (first | refine blk_drewN ?_ _ | refine blk_drew ?_ | refine blk_alloc ?_ _)); refine blk_put (cs := #[.int .u8 ((a0_0 * 2) % 256), .int .u8 0, .int .u8 0, .int .u8 0]) ?_ 1 _ rfl; (with_reducible repeat (first | refine blk_drewN ?_ _ | refine blk_drew ?_ | refine blk_alloc ?_ _)); refine blk_put (cs := #[.int .u8 0, .int .u8 0, .int .u8 0, .int .u8 0]) ?_ 0 _ rfl; (with_reducible repeat (first | refine blk_drewN ?_ _ | refine blk_drew ?_ | refine blk_alloc ?_ _)); refine blk_far ?_ NB102_101.out _; (with_reducible repeat (first | refine blk_drewN ?_ _ | refine blk_drew ?_ | refine blk_alloc ?_ _)); refine blk_far ?_ NB102_101.out _; (with_reducible repeat (first | refine blk_drewN ?_ _ | refine blk_drew ?_ | refine blk_alloc ?_ _)); refine blk_far ?_ NB102_101.out _; (with_reducible repeat (first | refine blk_drewN ?_ _ | refine blk_drew ?_ | refine blk_alloc ?_ _)); exact BK102.out) Try.underlying23 rfl (by kernel_rfl)) rfl ?_
      exact ⟨by first | rfl | (simp [errW_none, errW_some] <;> rfl) | (simp [*, errW_none, errW_some] <;> rfl), by repeat (first | (with_reducible first | exact HB.out | apply below_alloc | apply pw_below_drewN | apply below_drew1 | refine below_set ?_ GE101.out | refine below_set ?_ GE102.out) | exact HB.out)⟩
    · rw [if_neg c15] at H
      have c15b0 : (((a0_2 - 1) % 256) == 0) = false := beq_eq_false_iff_ne.mpr c15
      have c15b1 : (((a0_2 - 1) % 256) != 0) = true := bne_iff_ne.mpr c15
      simp only [Option.some.injEq, Prod.mk.injEq] at H
      obtain ⟨rfl, rfl, rfl, rfl⟩ := H
      go_enter Try.func16, Try.ntmps16
      go_wp2_with (first | ((with_reducible refine gate_dst (N := 2) rfl ?_); refine box_event ?hg (N := 2) ?hd (cs := #[.int .u8 a0_0, .int .u8 a0_1, .int .u8 a0_2, .int .u8 a0_3]) (t := 23) ?hr ?_; (case hd => rfl); (case hg => rfl); (case hr => first | (go_simp; done) | (go_simp; rfl)); intro gb101 hg w21 hbox hb; have n0_ := Aside0.mk (below_step (by repeat (first | (with_reducible first | exact HB.out | apply below_alloc | apply pw_below_drewN | apply below_drew1) | exact HB.out)) hb); have n1_ := Aside0.mk (hbox); have n2_ := Aside0.mk ((by rw [hg]; exact (below_size (by repeat (first | (with_reducible first | exact HB.out | apply below_alloc | apply pw_below_drewN | apply below_drew1) | exact HB.out))) : w.heap.size ≤ gb101)); have n3_ := Aside0.mk ((by rw [hg]; exact (below_size (by repeat (first | (with_reducible first | exact HB.out | apply below_alloc | apply pw_below_drewN | apply below_drew1) | exact HB.out))) : w.heap.size ≤ gb101)); clear HB; have HB := n0_; have BK101 := n1_; have GW101 := n2_; have GE101 := n3_; clear n0_ n1_ n2_ n3_; clear hb hbox hg) | ((with_reducible refine gate_dst (N := 4) rfl ?_); refine box_event ?hg (N := 4) ?hd (cs := #[.int .u8 0, .int .u8 0, .int .u8 0, .int .u8 0]) (t := 23) ?hr ?_; (case hd => rfl); (case hg => rfl); (case hr => first | (go_simp; done) | (go_simp; rfl)); intro gb102 hg w22 hbox hb; have n0_ := Aside0.mk (blk_below (g := gb101) (o := .cells #[.int .u8 a0_0, .int .u8 a0_1, .int .u8 a0_2, .int .u8 a0_3] 23 (0, 0)) (by (with_reducible repeat (first | refine blk_drewN ?_ _ | refine blk_drew ?_ | refine blk_alloc ?_ _)); exact BK101.out) hb); have n1_ := Aside0.mk (below_step (by repeat (first | (with_reducible first | exact HB.out | apply below_alloc | apply pw_below_drewN | apply below_drew1 | refine below_set ?_ GE101.out) | exact HB.out)) hb); have n2_ := Aside0.mk (hbox); have n3_ := Aside0.mk ((by rw [hg]; exact (below_size (by repeat (first | (with_reducible first | exact HB.out | apply below_alloc | apply pw_below_drewN | apply below_drew1 | refine below_set ?_ GE101.out) | exact HB.out))) : w.heap.size ≤ gb102)); have n4_ := Aside0.mk ((by rw [hg]; exact (below_size (by repeat (first | (with_reducible first | exact HB.out | apply below_alloc | apply pw_below_drewN | apply below_drew1 | refine below_set ?_ GE101.out) | exact HB.out))) : w.heap.size ≤ gb102)); have n5_ := Aside0.mk ((by rw [hg]; exact Nat.ne_of_lt (blk_lt (g := gb101) (o := .cells #[.int .u8 a0_0, .int .u8 a0_1, .int .u8 a0_2, .int .u8 a0_3] 23 (0, 0)) (by (with_reducible repeat (first | refine blk_drewN ?_ _ | refine blk_drew ?_ | refine blk_alloc ?_ _)); exact BK101.out)) : gb101 ≠ gb102)); have n6_ := Aside0.mk ((by rw [hg]; exact Nat.ne_of_gt (blk_lt (g := gb101) (o := .cells #[.int .u8 a0_0, .int .u8 a0_1, .int .u8 a0_2, .int .u8 a0_3] 23 (0, 0)) (by (with_reducible repeat (first | refine blk_drewN ?_ _ | refine blk_drew ?_ | refine blk_alloc ?_ _)); exact BK101.out)) : gb102 ≠ gb101)); clear BK101; clear HB; have BK101 := n0_; have HB := n1_; have BK102 := n2_; have GW102 := n3_; have GE102 := n4_; have NB101_102 := n5_; have NB102_101 := n6_; clear n0_ n1_ n2_ n3_ n4_ n5_ n6_; clear hb hbox hg; have hnb23 := NB101_102.out; have hnc23 := NB102_101.out; have hcz24_0 : w22.cell? ⟨gb101, 0, none⟩ = some (.int .u8 a0_0) := (blk_cell BK101.out 0).trans rfl; have hcz24_1 : w22.cell? ⟨gb101, 1, none⟩ = some (.int .u8 a0_1) := (blk_cell BK101.out 1).trans rfl; have hcz24_2 : w22.cell? ⟨gb101, 2, none⟩ = some (.int .u8 a0_2) := (blk_cell BK101.out 2).trans rfl; have hcz24_3 : w22.cell? ⟨gb101, 3, none⟩ = some (.int .u8 a0_3) := (blk_cell BK101.out 3).trans rfl; have hfz24_0 := blk_frozen BK101.out 0; have hfz24_1 := blk_frozen BK101.out 1; have hfz24_2 := blk_frozen BK101.out 2; have hfz24_3 := blk_frozen BK101.out 3; have hcz25_0 : w22.cell? ⟨gb102, 0, none⟩ = some (.int .u8 0) := (blk_cell BK102.out 0).trans rfl; have hcz25_1 : w22.cell? ⟨gb102, 1, none⟩ = some (.int .u8 0) := (blk_cell BK102.out 1).trans rfl; have hcz25_2 : w22.cell? ⟨gb102, 2, none⟩ = some (.int .u8 0) := (blk_cell BK102.out 2).trans rfl; have hcz25_3 : w22.cell? ⟨gb102, 3, none⟩ = some (.int .u8 0) := (blk_cell BK102.out 3).trans rfl; have hfz25_0 := blk_frozen BK102.out 0; have hfz25_1 := blk_frozen BK102.out 1; have hfz25_2 := blk_frozen BK102.out 2; have hfz25_3 := blk_frozen BK102.out 3))
      refine bodyPost_ret (results_cell_row rfl _ _ gb102 23 #[.int .u8 ((a0_0 * 2) % 256), .int .u8 a0_1, .int .u8 ((a0_2 - 1) % 256), .int .u8 a0_3] (0, 0) _ rfl (by (with_reducible repeat (first | refine blk_drewN ?_ _ | refine blk_drew ?_ | refine blk_alloc ?_ _)); refine blk_put (cs := #[.int .u8 ((a0_0 * 2) % 256), .int .u8 a0_1, .int .u8 ((a0_2 - 1) % 256), .int .u8 0]) ?_ 3 _ rfl; (with_reducible repeat (first | refine blk_drewN ?_ _ | refine blk_drew ?_ | refine blk_alloc ?_ _)); refine blk_put (cs := #[.int .u8 ((a0_0 * 2) % 256), .int .u8 a0_1, .int .u8 0, .int .u8 0]) ?_ 2 _ rfl; (with_reducible repeat (first | refine blk_drewN ?_ _ | refine blk_drew ?_ | refine blk_alloc ?_ _)); refine blk_put (cs := #[.int .u8 ((a0_0 * 2) % 256), .int .u8 0, .int .u8 0, .int .u8 0]) ?_ 1 _ rfl; (with_reducible repeat (first | refine blk_drewN ?_ _ | refine blk_drew ?_ | refine blk_alloc ?_ _)); refine blk_put (cs := #[.int .u8 0, .int .u8 0, .int .u8 0, .int .u8 0]) ?_ 0 _ rfl; (with_reducible repeat (first | refine blk_drewN ?_ _ | refine blk_drew ?_ | refine blk_alloc ?_ _)); refine blk_far ?_ NB102_101.out _; (with_reducible repeat (first | refine blk_drewN ?_ _ | refine blk_drew ?_ | refine blk_alloc ?_ _)); refine blk_far ?_ NB102_101.out _; (with_reducible repeat (first | refine blk_drewN ?_ _ | refine blk_drew ?_ | refine blk_alloc ?_ _)); exact BK102.out) Try.underlying23 rfl (by kernel_rfl)) rfl ?_
      exact ⟨by first | rfl | (simp [errW_none, errW_some] <;> rfl) | (simp [*, errW_none, errW_some] <;> rfl), by repeat (first | (with_reducible first | exact HB.out | apply below_alloc | apply pw_below_drewN | apply below_drew1 | refine below_set ?_ GE101.out | refine below_set ?_ GE102.out) | exact HB.out)⟩

/-! ### serial_Step: function 10 -/
theorem at_world {P : Program} {c : Code} {Q : Exit → Act → World → Prop} {a : Act} (W : World) (F : World → Prop) (hf : F W) (h : ∀ W', F W' → c.wp P Q a W') : c.wp P Q a W := h W hf
theorem at_end {P : Program} {fn : Func} {R : Ending → World → Prop} {x : Exit} {a : Act} (W : World) (F : World → Prop) (hf : F W) (h : ∀ W', F W' → bodyPost P fn R x a W') : bodyPost P fn R x a W := h W hf
theorem via {w : World} {g : Nat} {t : TypeId} {cs cs' : Array Value} (h : w.heap[g]? = some (.cells cs t (0, 0))) (e : cs = cs') : w.heap[g]? = some (.cells cs' t (0, 0)) := e ▸ h
theorem blk_new_at (w : World) (o : Obj) (g : Nat) (hg : w.heap.size = g) : (w.alloc o).heap[g]? = some o := hg ▸ blk_new w o
section
attribute [local go_sem high] eqA23
set_option maxHeartbeats 8000000 in
set_option maxRecDepth 100000 in
theorem serial_Step.pa (a0_0 a0_1 a0_2 a0_3 : Int) (a1 a2 : Bool) (w : World) (c1 : (bits .and .u8 a0_1 128 == 0) = true) :
    Calls Try.prog 10 #[.agg #[.int .u8 a0_0, .int .u8 a0_1, .int .u8 a0_2, .int .u8 a0_3], .bool a1, .bool a2] w fun e w' => e = .returned (.tuple #[.agg #[.int .u8 a0_0, .int .u8 a0_1, .int .u8 a0_2, .int .u8 a0_3], .bool (bits .and .u8 a0_0 128 != 0), .bool false]) ∧ Below w.heap.size w w' := by
  go_enter Try.func10, Try.ntmps10
  go_wp2
  refine at_end _ (fun W2 => W2.heap[w.heap.size + 1]? = some (.cells #[.int .u8 a0_0, .int .u8 a0_1, .int .u8 a0_2, .int .u8 a0_3] 23 (0, 0)) ∧ Below w.heap.size w W2) ?hf2 ?hg2
  case hf2 =>
    refine ⟨?_, ?_⟩
    · (apply via; (focus (repeat first | (with_reducible assumption) | (with_reducible apply blk_drew) | (with_reducible apply blk_drewN) | (focus ((with_reducible apply blk_new_at); first | rfl | (simp; done))) | (with_reducible apply blk_alloc) | (focus ((with_reducible apply blk_far); rotate_left; first | omega | (dsimp only; omega))) | (with_reducible apply blk_set))); all_goals rfl)
    · (repeat first | (with_reducible assumption) | (with_reducible exact Below.refl _ _) | (with_reducible refine Below.drew ?_) | ((with_reducible refine Below.alloc ?_ ?_ _); rotate_left; first | omega | (focus (simp; done)) | (focus (simp; omega))) | ((with_reducible refine Below.setCell ?_ ?_ _); rotate_left; first | omega | (dsimp only; omega)))
  case hg2 =>
    rintro W2 ⟨r1, hB2⟩
    refine bodyPost_ret (results_ctt rfl _ _ (w.heap.size + 1) 23 _ (0, 0) _ rfl r1 Try.underlying23 rfl (by kernel_rfl)) rfl ?_
    exact ⟨rfl, hB2⟩
set_option maxHeartbeats 8000000 in
set_option maxRecDepth 100000 in
theorem serial_Step.pb (a0_0 a0_1 a0_2 a0_3 : Int) (a1 a2 : Bool) (w : World) (c1 : (bits .and .u8 a0_1 128 == 0) = false) (c2 : (a0_2 == 0) = true) :
    Calls Try.prog 10 #[.agg #[.int .u8 a0_0, .int .u8 a0_1, .int .u8 a0_2, .int .u8 a0_3], .bool a1, .bool a2] w fun e w' => e = .returned (.tuple #[.agg #[.int .u8 a0_0, .int .u8 a0_1, .int .u8 a0_2, .int .u8 a0_3], .bool (bits .and .u8 a0_0 128 != 0), .bool false]) ∧ Below w.heap.size w w' := by
  go_enter Try.func10, Try.ntmps10
  go_wp2
  refine at_end _ (fun W2 => W2.heap[w.heap.size + 1]? = some (.cells #[.int .u8 a0_0, .int .u8 a0_1, .int .u8 a0_2, .int .u8 a0_3] 23 (0, 0)) ∧ Below w.heap.size w W2) ?hf2 ?hg2
  case hf2 =>
    refine ⟨?_, ?_⟩
    · (apply via; (focus (repeat first | (with_reducible assumption) | (with_reducible apply blk_drew) | (with_reducible apply blk_drewN) | (focus ((with_reducible apply blk_new_at); first | rfl | (simp; done))) | (with_reducible apply blk_alloc) | (focus ((with_reducible apply blk_far); rotate_left; first | omega | (dsimp only; omega))) | (with_reducible apply blk_set))); all_goals rfl)
    · (repeat first | (with_reducible assumption) | (with_reducible exact Below.refl _ _) | (with_reducible refine Below.drew ?_) | ((with_reducible refine Below.alloc ?_ ?_ _); rotate_left; first | omega | (focus (simp; done)) | (focus (simp; omega))) | ((with_reducible refine Below.setCell ?_ ?_ _); rotate_left; first | omega | (dsimp only; omega)))
  case hg2 =>
    rintro W2 ⟨r1, hB2⟩
    refine bodyPost_ret (results_ctt rfl _ _ (w.heap.size + 1) 23 _ (0, 0) _ rfl r1 Try.underlying23 rfl (by kernel_rfl)) rfl ?_
    exact ⟨rfl, hB2⟩
set_option maxHeartbeats 8000000 in
set_option maxRecDepth 100000 in
theorem serial_Step.pc (a0_0 a0_1 a0_2 a0_3 : Int) (a1 a2 : Bool) (w : World) (c1 : (bits .and .u8 a0_1 128 == 0) = false) (c2 : (a0_2 == 0) = false) (c3 : (bits .and .u8 a0_1 1 != 0) = true) (c4 : ¬ 128 ≤ wrap64 (wrap64 a0_3 + 1)) :
    Calls Try.prog 10 #[.agg #[.int .u8 a0_0, .int .u8 a0_1, .int .u8 a0_2, .int .u8 a0_3], .bool a1, .bool a2] w fun e w' => e = .returned (.tuple #[.agg #[.int .u8 a0_0, .int .u8 a0_1, .int .u8 a0_2, .int .u8 ((a0_3 + 1) % 256)], .bool (bits .and .u8 a0_0 128 != 0), .bool false]) ∧ Below w.heap.size w w' := by
  go_enter Try.func10, Try.ntmps10
  go_wp2
  refine at_end _ (fun W2 => W2.heap[w.heap.size + 1]? = some (.cells #[.int .u8 a0_0, .int .u8 a0_1, .int .u8 a0_2, .int .u8 ((a0_3 + 1) % 256)] 23 (0, 0)) ∧ Below w.heap.size w W2) ?hf2 ?hg2
  case hf2 =>
    refine ⟨?_, ?_⟩
    · (apply via; (focus (repeat first | (with_reducible assumption) | (with_reducible apply blk_drew) | (with_reducible apply blk_drewN) | (focus ((with_reducible apply blk_new_at); first | rfl | (simp; done))) | (with_reducible apply blk_alloc) | (focus ((with_reducible apply blk_far); rotate_left; first | omega | (dsimp only; omega))) | (with_reducible apply blk_set))); all_goals rfl)
    · (repeat first | (with_reducible assumption) | (with_reducible exact Below.refl _ _) | (with_reducible refine Below.drew ?_) | ((with_reducible refine Below.alloc ?_ ?_ _); rotate_left; first | omega | (focus (simp; done)) | (focus (simp; omega))) | ((with_reducible refine Below.setCell ?_ ?_ _); rotate_left; first | omega | (dsimp only; omega)))
  case hg2 =>
    rintro W2 ⟨r1, hB2⟩
    refine bodyPost_ret (results_ctt rfl _ _ (w.heap.size + 1) 23 _ (0, 0) _ rfl r1 Try.underlying23 rfl (by kernel_rfl)) rfl ?_
    exact ⟨rfl, hB2⟩
set_option maxHeartbeats 8000000 in
set_option maxRecDepth 100000 in
theorem serial_Step.pd (a0_0 a0_1 a0_2 a0_3 : Int) (a1  : Bool) (w : World) (c1 : (bits .and .u8 a0_1 128 == 0) = false) (c2 : (a0_2 == 0) = false) (c3 : (bits .and .u8 a0_1 1 != 0) = false) :
    Calls Try.prog 10 #[.agg #[.int .u8 a0_0, .int .u8 a0_1, .int .u8 a0_2, .int .u8 a0_3], .bool a1, .bool false] w fun e w' => e = .returned (.tuple #[.agg #[.int .u8 a0_0, .int .u8 a0_1, .int .u8 a0_2, .int .u8 a0_3], .bool (bits .and .u8 a0_0 128 != 0), .bool false]) ∧ Below w.heap.size w w' := by
  go_enter Try.func10, Try.ntmps10
  go_wp2
  refine at_end _ (fun W2 => W2.heap[w.heap.size + 1]? = some (.cells #[.int .u8 a0_0, .int .u8 a0_1, .int .u8 a0_2, .int .u8 a0_3] 23 (0, 0)) ∧ Below w.heap.size w W2) ?hf2 ?hg2
  case hf2 =>
    refine ⟨?_, ?_⟩
    · (apply via; (focus (repeat first | (with_reducible assumption) | (with_reducible apply blk_drew) | (with_reducible apply blk_drewN) | (focus ((with_reducible apply blk_new_at); first | rfl | (simp; done))) | (with_reducible apply blk_alloc) | (focus ((with_reducible apply blk_far); rotate_left; first | omega | (dsimp only; omega))) | (with_reducible apply blk_set))); all_goals rfl)
    · (repeat first | (with_reducible assumption) | (with_reducible exact Below.refl _ _) | (with_reducible refine Below.drew ?_) | ((with_reducible refine Below.alloc ?_ ?_ _); rotate_left; first | omega | (focus (simp; done)) | (focus (simp; omega))) | ((with_reducible refine Below.setCell ?_ ?_ _); rotate_left; first | omega | (dsimp only; omega)))
  case hg2 =>
    rintro W2 ⟨r1, hB2⟩
    refine bodyPost_ret (results_ctt rfl _ _ (w.heap.size + 1) 23 _ (0, 0) _ rfl r1 Try.underlying23 rfl (by kernel_rfl)) rfl ?_
    exact ⟨rfl, hB2⟩
set_option maxHeartbeats 8000000 in
set_option maxRecDepth 100000 in
theorem serial_Step.pet (a0_0 a0_1 a0_2 a0_3 : Int) (a1 a2 : Bool) (w : World) (c1 : (bits .and .u8 a0_1 128 == 0) = false) (c2 : (a0_2 == 0) = false) (c3 : (bits .and .u8 a0_1 1 != 0) = true) (c4 : 128 ≤ wrap64 (wrap64 a0_3 + 1)) (q1 q2 q3 q4 : Int) (H : serial_shift.f a0_0 a0_1 a0_2 0 a1 = some (q1, q2, q3, q4)) (c5 : (!(q1 == a0_0 && (q2 == a0_1 && (q3 == a0_2 && q4 == 0)))) = true) :
    Calls Try.prog 10 #[.agg #[.int .u8 a0_0, .int .u8 a0_1, .int .u8 a0_2, .int .u8 a0_3], .bool a1, .bool a2] w fun e w' => e = .returned (.tuple #[.agg #[.int .u8 q1, .int .u8 q2, .int .u8 q3, .int .u8 q4], .bool (bits .and .u8 a0_0 128 != 0), .bool (q3 == 0)]) ∧ Below w.heap.size w w' := by
  have HH := Aside0.mk H
  clear H
  go_enter Try.func10, Try.ntmps10
  go_wp2_with fail
  refine (serial_shift.calls _ _ _ _ _ _ _ _ _ _ HH.out).mono ?_
  rintro e w2 ⟨rfl, hb⟩
  have k0 : w2.heap[w.heap.size]? = some (.cells #[.int .u8 a0_0, .int .u8 a0_1, .int .u8 a0_2, .int .u8 0] 23 (0, 0)) := blk_below (by (apply via; (focus (repeat first | (with_reducible assumption) | (with_reducible apply blk_drew) | (with_reducible apply blk_drewN) | (focus ((with_reducible apply blk_new_at); first | rfl | (simp; done))) | (with_reducible apply blk_alloc) | (focus ((with_reducible apply blk_far); rotate_left; first | omega | (dsimp only; omega))) | (with_reducible apply blk_set))); all_goals rfl)) hb
  have k1 : w2.heap[w.heap.size + 1]? = some (.cells #[.int .u8 0, .int .u8 0, .int .u8 0, .int .u8 0] 23 (0, 0)) := blk_below (by (apply via; (focus (repeat first | (with_reducible assumption) | (with_reducible apply blk_drew) | (with_reducible apply blk_drewN) | (focus ((with_reducible apply blk_new_at); first | rfl | (simp; done))) | (with_reducible apply blk_alloc) | (focus ((with_reducible apply blk_far); rotate_left; first | omega | (dsimp only; omega))) | (with_reducible apply blk_set))); all_goals rfl)) hb
  have k2 : w2.heap[w.heap.size + 1 + 1]? = some (.cells #[.int .u8 a0_0, .int .u8 a0_1, .int .u8 a0_2, .int .u8 0] 23 (0, 0)) := blk_below (by (apply via; (focus (repeat first | (with_reducible assumption) | (with_reducible apply blk_drew) | (with_reducible apply blk_drewN) | (focus ((with_reducible apply blk_new_at); first | rfl | (simp; done))) | (with_reducible apply blk_alloc) | (focus ((with_reducible apply blk_far); rotate_left; first | omega | (dsimp only; omega))) | (with_reducible apply blk_set))); all_goals rfl)) hb
  have kB : Below w.heap.size w w2 := below_step (by (repeat first | (with_reducible assumption) | (with_reducible exact Below.refl _ _) | (with_reducible refine Below.drew ?_) | ((with_reducible refine Below.alloc ?_ ?_ _); rotate_left; first | omega | (focus (simp; done)) | (focus (simp; omega))) | ((with_reducible refine Below.setCell ?_ ?_ _); rotate_left; first | omega | (dsimp only; omega)))) hb
  clear hb
  have y0_0 := blk_cell k0 0
  have y0_1 := blk_cell k0 1
  have y0_2 := blk_cell k0 2
  have y0_3 := blk_cell k0 3
  have y2_0 := blk_cell k2 0
  have y2_1 := blk_cell k2 1
  have y2_2 := blk_cell k2 2
  have y2_3 := blk_cell k2 3
  simp only [List.getElem?_toArray, List.getElem?_cons_zero, List.getElem?_cons_succ] at y0_0 y0_1 y0_2 y0_3 y2_0 y2_1 y2_2 y2_3
  have u0 := fun i => blk_frozen k0 i
  have u2 := fun i => blk_frozen k2 i
  have K0 := Aside0.mk (And.intro k0 (And.intro k1 (And.intro k2 kB)))
  clear k0 k1 k2 kB
  go_wp2
  refine at_world _ (fun W => W.heap[w.heap.size]? = some (.cells #[.int .u8 q1, .int .u8 q2, .int .u8 q3, .int .u8 q4] 23 (0, 0)) ∧ W.heap[w.heap.size + 1]? = some (.cells #[.int .u8 0, .int .u8 0, .int .u8 0, .int .u8 0] 23 (0, 0)) ∧ W.heap[w.heap.size + 1 + 1]? = some (.cells #[.int .u8 a0_0, .int .u8 a0_1, .int .u8 a0_2, .int .u8 0] 23 (0, 0)) ∧ Below w.heap.size w W) ?hfacts ?hgo
  case hfacts =>
    clear y0_0 y0_1 y0_2 y0_3 y2_0 y2_1 y2_2 y2_3 u0 u2
    obtain ⟨k0, k1, k2, kB⟩ := K0.out
    refine ⟨?_, ?_, ?_, ?_⟩
    · (apply via; (focus (repeat first | (with_reducible assumption) | (with_reducible apply blk_drew) | (with_reducible apply blk_drewN) | (focus ((with_reducible apply blk_new_at); first | rfl | (simp; done))) | (with_reducible apply blk_alloc) | (focus ((with_reducible apply blk_far); rotate_left; first | omega | (dsimp only; omega))) | (with_reducible apply blk_set))); all_goals rfl)
    · (apply via; (focus (repeat first | (with_reducible assumption) | (with_reducible apply blk_drew) | (with_reducible apply blk_drewN) | (focus ((with_reducible apply blk_new_at); first | rfl | (simp; done))) | (with_reducible apply blk_alloc) | (focus ((with_reducible apply blk_far); rotate_left; first | omega | (dsimp only; omega))) | (with_reducible apply blk_set))); all_goals rfl)
    · (apply via; (focus (repeat first | (with_reducible assumption) | (with_reducible apply blk_drew) | (with_reducible apply blk_drewN) | (focus ((with_reducible apply blk_new_at); first | rfl | (simp; done))) | (with_reducible apply blk_alloc) | (focus ((with_reducible apply blk_far); rotate_left; first | omega | (dsimp only; omega))) | (with_reducible apply blk_set))); all_goals rfl)
    · (repeat first | (with_reducible assumption) | (with_reducible exact Below.refl _ _) | (with_reducible refine Below.drew ?_) | ((with_reducible refine Below.alloc ?_ ?_ _); rotate_left; first | omega | (focus (simp; done)) | (focus (simp; omega))) | ((with_reducible refine Below.setCell ?_ ?_ _); rotate_left; first | omega | (dsimp only; omega)))
  case hgo =>
    rintro W ⟨b0, b1, b2, hB⟩
    have c0_0 := blk_cell b0 0
    have c0_1 := blk_cell b0 1
    have c0_2 := blk_cell b0 2
    have c0_3 := blk_cell b0 3
    have c1_0 := blk_cell b1 0
    have c1_1 := blk_cell b1 1
    have c1_2 := blk_cell b1 2
    have c1_3 := blk_cell b1 3
    have c2_0 := blk_cell b2 0
    have c2_1 := blk_cell b2 1
    have c2_2 := blk_cell b2 2
    have c2_3 := blk_cell b2 3
    simp only [List.getElem?_toArray, List.getElem?_cons_zero, List.getElem?_cons_succ] at c0_0 c0_1 c0_2 c0_3 c1_0 c1_1 c1_2 c1_3 c2_0 c2_1 c2_2 c2_3
    have f1 := fun i => blk_frozen b1 i
    have B0 := Aside0.mk (And.intro b0 (And.intro b1 b2))
    clear b0 b1 b2 y0_0 y0_1 y0_2 y0_3 y2_0 y2_1 y2_2 y2_3 u0 u2
    go_region
    all_goals go_wp2
    refine at_end _ (fun W2 => W2.heap[w.heap.size + 1]? = some (.cells #[.int .u8 q1, .int .u8 q2, .int .u8 q3, .int .u8 q4] 23 (0, 0)) ∧ Below w.heap.size w W2) ?hf2 ?hg2
    case hf2 =>
      clear c0_0 c0_1 c0_2 c0_3 c1_0 c1_1 c1_2 c1_3 c2_0 c2_1 c2_2 c2_3 f1
      obtain ⟨b0, b1, b2⟩ := B0.out
      refine ⟨?_, ?_⟩
      · (apply via; (focus (repeat first | (with_reducible assumption) | (with_reducible apply blk_drew) | (with_reducible apply blk_drewN) | (focus ((with_reducible apply blk_new_at); first | rfl | (simp; done))) | (with_reducible apply blk_alloc) | (focus ((with_reducible apply blk_far); rotate_left; first | omega | (dsimp only; omega))) | (with_reducible apply blk_set))); all_goals rfl)
      · (repeat first | (with_reducible assumption) | (with_reducible exact Below.refl _ _) | (with_reducible refine Below.drew ?_) | ((with_reducible refine Below.alloc ?_ ?_ _); rotate_left; first | omega | (focus (simp; done)) | (focus (simp; omega))) | ((with_reducible refine Below.setCell ?_ ?_ _); rotate_left; first | omega | (dsimp only; omega)))
    case hg2 =>
      rintro W2 ⟨r1, hB2⟩
      refine bodyPost_ret (results_ctt rfl _ _ (w.heap.size + 1) 23 _ (0, 0) _ rfl r1 Try.underlying23 rfl (by kernel_rfl)) rfl ?_
      exact ⟨rfl, hB2⟩
set_option maxHeartbeats 8000000 in
set_option maxRecDepth 100000 in
theorem serial_Step.pef (a0_0 a0_1 a0_2 a0_3 : Int) (a1 a2 : Bool) (w : World) (c1 : (bits .and .u8 a0_1 128 == 0) = false) (c2 : (a0_2 == 0) = false) (c3 : (bits .and .u8 a0_1 1 != 0) = true) (c4 : 128 ≤ wrap64 (wrap64 a0_3 + 1)) (q1 q2 q3 q4 : Int) (H : serial_shift.f a0_0 a0_1 a0_2 0 a1 = some (q1, q2, q3, q4)) (c5 : (!(q1 == a0_0 && (q2 == a0_1 && (q3 == a0_2 && q4 == 0)))) = false) :
    Calls Try.prog 10 #[.agg #[.int .u8 a0_0, .int .u8 a0_1, .int .u8 a0_2, .int .u8 a0_3], .bool a1, .bool a2] w fun e w' => e = .returned (.tuple #[.agg #[.int .u8 q1, .int .u8 q2, .int .u8 q3, .int .u8 q4], .bool (bits .and .u8 a0_0 128 != 0), .bool false]) ∧ Below w.heap.size w w' := by
  have HH := Aside0.mk H
  clear H
  go_enter Try.func10, Try.ntmps10
  go_wp2_with fail
  refine (serial_shift.calls _ _ _ _ _ _ _ _ _ _ HH.out).mono ?_
  rintro e w2 ⟨rfl, hb⟩
  have k0 : w2.heap[w.heap.size]? = some (.cells #[.int .u8 a0_0, .int .u8 a0_1, .int .u8 a0_2, .int .u8 0] 23 (0, 0)) := blk_below (by (apply via; (focus (repeat first | (with_reducible assumption) | (with_reducible apply blk_drew) | (with_reducible apply blk_drewN) | (focus ((with_reducible apply blk_new_at); first | rfl | (simp; done))) | (with_reducible apply blk_alloc) | (focus ((with_reducible apply blk_far); rotate_left; first | omega | (dsimp only; omega))) | (with_reducible apply blk_set))); all_goals rfl)) hb
  have k1 : w2.heap[w.heap.size + 1]? = some (.cells #[.int .u8 0, .int .u8 0, .int .u8 0, .int .u8 0] 23 (0, 0)) := blk_below (by (apply via; (focus (repeat first | (with_reducible assumption) | (with_reducible apply blk_drew) | (with_reducible apply blk_drewN) | (focus ((with_reducible apply blk_new_at); first | rfl | (simp; done))) | (with_reducible apply blk_alloc) | (focus ((with_reducible apply blk_far); rotate_left; first | omega | (dsimp only; omega))) | (with_reducible apply blk_set))); all_goals rfl)) hb
  have k2 : w2.heap[w.heap.size + 1 + 1]? = some (.cells #[.int .u8 a0_0, .int .u8 a0_1, .int .u8 a0_2, .int .u8 0] 23 (0, 0)) := blk_below (by (apply via; (focus (repeat first | (with_reducible assumption) | (with_reducible apply blk_drew) | (with_reducible apply blk_drewN) | (focus ((with_reducible apply blk_new_at); first | rfl | (simp; done))) | (with_reducible apply blk_alloc) | (focus ((with_reducible apply blk_far); rotate_left; first | omega | (dsimp only; omega))) | (with_reducible apply blk_set))); all_goals rfl)) hb
  have kB : Below w.heap.size w w2 := below_step (by (repeat first | (with_reducible assumption) | (with_reducible exact Below.refl _ _) | (with_reducible refine Below.drew ?_) | ((with_reducible refine Below.alloc ?_ ?_ _); rotate_left; first | omega | (focus (simp; done)) | (focus (simp; omega))) | ((with_reducible refine Below.setCell ?_ ?_ _); rotate_left; first | omega | (dsimp only; omega)))) hb
  clear hb
  have y0_0 := blk_cell k0 0
  have y0_1 := blk_cell k0 1
  have y0_2 := blk_cell k0 2
  have y0_3 := blk_cell k0 3
  have y2_0 := blk_cell k2 0
  have y2_1 := blk_cell k2 1
  have y2_2 := blk_cell k2 2
  have y2_3 := blk_cell k2 3
  simp only [List.getElem?_toArray, List.getElem?_cons_zero, List.getElem?_cons_succ] at y0_0 y0_1 y0_2 y0_3 y2_0 y2_1 y2_2 y2_3
  have u0 := fun i => blk_frozen k0 i
  have u2 := fun i => blk_frozen k2 i
  have K0 := Aside0.mk (And.intro k0 (And.intro k1 (And.intro k2 kB)))
  clear k0 k1 k2 kB
  go_wp2
  refine at_world _ (fun W => W.heap[w.heap.size]? = some (.cells #[.int .u8 q1, .int .u8 q2, .int .u8 q3, .int .u8 q4] 23 (0, 0)) ∧ W.heap[w.heap.size + 1]? = some (.cells #[.int .u8 0, .int .u8 0, .int .u8 0, .int .u8 0] 23 (0, 0)) ∧ W.heap[w.heap.size + 1 + 1]? = some (.cells #[.int .u8 a0_0, .int .u8 a0_1, .int .u8 a0_2, .int .u8 0] 23 (0, 0)) ∧ Below w.heap.size w W) ?hfacts ?hgo
  case hfacts =>
    clear y0_0 y0_1 y0_2 y0_3 y2_0 y2_1 y2_2 y2_3 u0 u2
    obtain ⟨k0, k1, k2, kB⟩ := K0.out
    refine ⟨?_, ?_, ?_, ?_⟩
    · (apply via; (focus (repeat first | (with_reducible assumption) | (with_reducible apply blk_drew) | (with_reducible apply blk_drewN) | (focus ((with_reducible apply blk_new_at); first | rfl | (simp; done))) | (with_reducible apply blk_alloc) | (focus ((with_reducible apply blk_far); rotate_left; first | omega | (dsimp only; omega))) | (with_reducible apply blk_set))); all_goals rfl)
    · (apply via; (focus (repeat first | (with_reducible assumption) | (with_reducible apply blk_drew) | (with_reducible apply blk_drewN) | (focus ((with_reducible apply blk_new_at); first | rfl | (simp; done))) | (with_reducible apply blk_alloc) | (focus ((with_reducible apply blk_far); rotate_left; first | omega | (dsimp only; omega))) | (with_reducible apply blk_set))); all_goals rfl)
    · (apply via; (focus (repeat first | (with_reducible assumption) | (with_reducible apply blk_drew) | (with_reducible apply blk_drewN) | (focus ((with_reducible apply blk_new_at); first | rfl | (simp; done))) | (with_reducible apply blk_alloc) | (focus ((with_reducible apply blk_far); rotate_left; first | omega | (dsimp only; omega))) | (with_reducible apply blk_set))); all_goals rfl)
    · (repeat first | (with_reducible assumption) | (with_reducible exact Below.refl _ _) | (with_reducible refine Below.drew ?_) | ((with_reducible refine Below.alloc ?_ ?_ _); rotate_left; first | omega | (focus (simp; done)) | (focus (simp; omega))) | ((with_reducible refine Below.setCell ?_ ?_ _); rotate_left; first | omega | (dsimp only; omega)))
  case hgo =>
    rintro W ⟨b0, b1, b2, hB⟩
    have c0_0 := blk_cell b0 0
    have c0_1 := blk_cell b0 1
    have c0_2 := blk_cell b0 2
    have c0_3 := blk_cell b0 3
    have c1_0 := blk_cell b1 0
    have c1_1 := blk_cell b1 1
    have c1_2 := blk_cell b1 2
    have c1_3 := blk_cell b1 3
    have c2_0 := blk_cell b2 0
    have c2_1 := blk_cell b2 1
    have c2_2 := blk_cell b2 2
    have c2_3 := blk_cell b2 3
    simp only [List.getElem?_toArray, List.getElem?_cons_zero, List.getElem?_cons_succ] at c0_0 c0_1 c0_2 c0_3 c1_0 c1_1 c1_2 c1_3 c2_0 c2_1 c2_2 c2_3
    have f1 := fun i => blk_frozen b1 i
    have B0 := Aside0.mk (And.intro b0 (And.intro b1 b2))
    clear b0 b1 b2 y0_0 y0_1 y0_2 y0_3 y2_0 y2_1 y2_2 y2_3 u0 u2
    go_region
    all_goals go_wp2
    refine at_end _ (fun W2 => W2.heap[w.heap.size + 1]? = some (.cells #[.int .u8 q1, .int .u8 q2, .int .u8 q3, .int .u8 q4] 23 (0, 0)) ∧ Below w.heap.size w W2) ?hf2 ?hg2
    case hf2 =>
      clear c0_0 c0_1 c0_2 c0_3 c1_0 c1_1 c1_2 c1_3 c2_0 c2_1 c2_2 c2_3 f1
      obtain ⟨b0, b1, b2⟩ := B0.out
      refine ⟨?_, ?_⟩
      · (apply via; (focus (repeat first | (with_reducible assumption) | (with_reducible apply blk_drew) | (with_reducible apply blk_drewN) | (focus ((with_reducible apply blk_new_at); first | rfl | (simp; done))) | (with_reducible apply blk_alloc) | (focus ((with_reducible apply blk_far); rotate_left; first | omega | (dsimp only; omega))) | (with_reducible apply blk_set))); all_goals rfl)
      · (repeat first | (with_reducible assumption) | (with_reducible exact Below.refl _ _) | (with_reducible refine Below.drew ?_) | ((with_reducible refine Below.alloc ?_ ?_ _); rotate_left; first | omega | (focus (simp; done)) | (focus (simp; omega))) | ((with_reducible refine Below.setCell ?_ ?_ _); rotate_left; first | omega | (dsimp only; omega)))
    case hg2 =>
      rintro W2 ⟨r1, hB2⟩
      refine bodyPost_ret (results_ctt rfl _ _ (w.heap.size + 1) 23 _ (0, 0) _ rfl r1 Try.underlying23 rfl (by kernel_rfl)) rfl ?_
      exact ⟨rfl, hB2⟩
set_option maxHeartbeats 8000000 in
set_option maxRecDepth 100000 in
theorem serial_Step.pft (a0_0 a0_1 a0_2 a0_3 : Int) (a1  : Bool) (w : World) (c1 : (bits .and .u8 a0_1 128 == 0) = false) (c2 : (a0_2 == 0) = false) (c3 : (bits .and .u8 a0_1 1 != 0) = false) (q1 q2 q3 q4 : Int) (H : serial_shift.f a0_0 a0_1 a0_2 a0_3 a1 = some (q1, q2, q3, q4)) (c5 : (!(q1 == a0_0 && (q2 == a0_1 && (q3 == a0_2 && q4 == a0_3)))) = true) :
    Calls Try.prog 10 #[.agg #[.int .u8 a0_0, .int .u8 a0_1, .int .u8 a0_2, .int .u8 a0_3], .bool a1, .bool true] w fun e w' => e = .returned (.tuple #[.agg #[.int .u8 q1, .int .u8 q2, .int .u8 q3, .int .u8 q4], .bool (bits .and .u8 a0_0 128 != 0), .bool (q3 == 0)]) ∧ Below w.heap.size w w' := by
  have HH := Aside0.mk H
  clear H
  go_enter Try.func10, Try.ntmps10
  go_wp2_with fail
  refine (serial_shift.calls _ _ _ _ _ _ _ _ _ _ HH.out).mono ?_
  rintro e w2 ⟨rfl, hb⟩
  have k0 : w2.heap[w.heap.size]? = some (.cells #[.int .u8 a0_0, .int .u8 a0_1, .int .u8 a0_2, .int .u8 a0_3] 23 (0, 0)) := blk_below (by (apply via; (focus (repeat first | (with_reducible assumption) | (with_reducible apply blk_drew) | (with_reducible apply blk_drewN) | (focus ((with_reducible apply blk_new_at); first | rfl | (simp; done))) | (with_reducible apply blk_alloc) | (focus ((with_reducible apply blk_far); rotate_left; first | omega | (dsimp only; omega))) | (with_reducible apply blk_set))); all_goals rfl)) hb
  have k1 : w2.heap[w.heap.size + 1]? = some (.cells #[.int .u8 0, .int .u8 0, .int .u8 0, .int .u8 0] 23 (0, 0)) := blk_below (by (apply via; (focus (repeat first | (with_reducible assumption) | (with_reducible apply blk_drew) | (with_reducible apply blk_drewN) | (focus ((with_reducible apply blk_new_at); first | rfl | (simp; done))) | (with_reducible apply blk_alloc) | (focus ((with_reducible apply blk_far); rotate_left; first | omega | (dsimp only; omega))) | (with_reducible apply blk_set))); all_goals rfl)) hb
  have k2 : w2.heap[w.heap.size + 1 + 1]? = some (.cells #[.int .u8 a0_0, .int .u8 a0_1, .int .u8 a0_2, .int .u8 a0_3] 23 (0, 0)) := blk_below (by (apply via; (focus (repeat first | (with_reducible assumption) | (with_reducible apply blk_drew) | (with_reducible apply blk_drewN) | (focus ((with_reducible apply blk_new_at); first | rfl | (simp; done))) | (with_reducible apply blk_alloc) | (focus ((with_reducible apply blk_far); rotate_left; first | omega | (dsimp only; omega))) | (with_reducible apply blk_set))); all_goals rfl)) hb
  have kB : Below w.heap.size w w2 := below_step (by (repeat first | (with_reducible assumption) | (with_reducible exact Below.refl _ _) | (with_reducible refine Below.drew ?_) | ((with_reducible refine Below.alloc ?_ ?_ _); rotate_left; first | omega | (focus (simp; done)) | (focus (simp; omega))) | ((with_reducible refine Below.setCell ?_ ?_ _); rotate_left; first | omega | (dsimp only; omega)))) hb
  clear hb
  have y0_0 := blk_cell k0 0
  have y0_1 := blk_cell k0 1
  have y0_2 := blk_cell k0 2
  have y0_3 := blk_cell k0 3
  have y2_0 := blk_cell k2 0
  have y2_1 := blk_cell k2 1
  have y2_2 := blk_cell k2 2
  have y2_3 := blk_cell k2 3
  simp only [List.getElem?_toArray, List.getElem?_cons_zero, List.getElem?_cons_succ] at y0_0 y0_1 y0_2 y0_3 y2_0 y2_1 y2_2 y2_3
  have u0 := fun i => blk_frozen k0 i
  have u2 := fun i => blk_frozen k2 i
  have K0 := Aside0.mk (And.intro k0 (And.intro k1 (And.intro k2 kB)))
  clear k0 k1 k2 kB
  go_wp2
  refine at_world _ (fun W => W.heap[w.heap.size]? = some (.cells #[.int .u8 q1, .int .u8 q2, .int .u8 q3, .int .u8 q4] 23 (0, 0)) ∧ W.heap[w.heap.size + 1]? = some (.cells #[.int .u8 0, .int .u8 0, .int .u8 0, .int .u8 0] 23 (0, 0)) ∧ W.heap[w.heap.size + 1 + 1]? = some (.cells #[.int .u8 a0_0, .int .u8 a0_1, .int .u8 a0_2, .int .u8 a0_3] 23 (0, 0)) ∧ Below w.heap.size w W) ?hfacts ?hgo
  case hfacts =>
    clear y0_0 y0_1 y0_2 y0_3 y2_0 y2_1 y2_2 y2_3 u0 u2
    obtain ⟨k0, k1, k2, kB⟩ := K0.out
    refine ⟨?_, ?_, ?_, ?_⟩
    · (apply via; (focus (repeat first | (with_reducible assumption) | (with_reducible apply blk_drew) | (with_reducible apply blk_drewN) | (focus ((with_reducible apply blk_new_at); first | rfl | (simp; done))) | (with_reducible apply blk_alloc) | (focus ((with_reducible apply blk_far); rotate_left; first | omega | (dsimp only; omega))) | (with_reducible apply blk_set))); all_goals rfl)
    · (apply via; (focus (repeat first | (with_reducible assumption) | (with_reducible apply blk_drew) | (with_reducible apply blk_drewN) | (focus ((with_reducible apply blk_new_at); first | rfl | (simp; done))) | (with_reducible apply blk_alloc) | (focus ((with_reducible apply blk_far); rotate_left; first | omega | (dsimp only; omega))) | (with_reducible apply blk_set))); all_goals rfl)
    · (apply via; (focus (repeat first | (with_reducible assumption) | (with_reducible apply blk_drew) | (with_reducible apply blk_drewN) | (focus ((with_reducible apply blk_new_at); first | rfl | (simp; done))) | (with_reducible apply blk_alloc) | (focus ((with_reducible apply blk_far); rotate_left; first | omega | (dsimp only; omega))) | (with_reducible apply blk_set))); all_goals rfl)
    · (repeat first | (with_reducible assumption) | (with_reducible exact Below.refl _ _) | (with_reducible refine Below.drew ?_) | ((with_reducible refine Below.alloc ?_ ?_ _); rotate_left; first | omega | (focus (simp; done)) | (focus (simp; omega))) | ((with_reducible refine Below.setCell ?_ ?_ _); rotate_left; first | omega | (dsimp only; omega)))
  case hgo =>
    rintro W ⟨b0, b1, b2, hB⟩
    have c0_0 := blk_cell b0 0
    have c0_1 := blk_cell b0 1
    have c0_2 := blk_cell b0 2
    have c0_3 := blk_cell b0 3
    have c1_0 := blk_cell b1 0
    have c1_1 := blk_cell b1 1
    have c1_2 := blk_cell b1 2
    have c1_3 := blk_cell b1 3
    have c2_0 := blk_cell b2 0
    have c2_1 := blk_cell b2 1
    have c2_2 := blk_cell b2 2
    have c2_3 := blk_cell b2 3
    simp only [List.getElem?_toArray, List.getElem?_cons_zero, List.getElem?_cons_succ] at c0_0 c0_1 c0_2 c0_3 c1_0 c1_1 c1_2 c1_3 c2_0 c2_1 c2_2 c2_3
    have f1 := fun i => blk_frozen b1 i
    have B0 := Aside0.mk (And.intro b0 (And.intro b1 b2))
    clear b0 b1 b2 y0_0 y0_1 y0_2 y0_3 y2_0 y2_1 y2_2 y2_3 u0 u2
    go_region
    all_goals go_wp2
    refine at_end _ (fun W2 => W2.heap[w.heap.size + 1]? = some (.cells #[.int .u8 q1, .int .u8 q2, .int .u8 q3, .int .u8 q4] 23 (0, 0)) ∧ Below w.heap.size w W2) ?hf2 ?hg2
    case hf2 =>
      clear c0_0 c0_1 c0_2 c0_3 c1_0 c1_1 c1_2 c1_3 c2_0 c2_1 c2_2 c2_3 f1
      obtain ⟨b0, b1, b2⟩ := B0.out
      refine ⟨?_, ?_⟩
      · (apply via; (focus (repeat first | (with_reducible assumption) | (with_reducible apply blk_drew) | (with_reducible apply blk_drewN) | (focus ((with_reducible apply blk_new_at); first | rfl | (simp; done))) | (with_reducible apply blk_alloc) | (focus ((with_reducible apply blk_far); rotate_left; first | omega | (dsimp only; omega))) | (with_reducible apply blk_set))); all_goals rfl)
      · (repeat first | (with_reducible assumption) | (with_reducible exact Below.refl _ _) | (with_reducible refine Below.drew ?_) | ((with_reducible refine Below.alloc ?_ ?_ _); rotate_left; first | omega | (focus (simp; done)) | (focus (simp; omega))) | ((with_reducible refine Below.setCell ?_ ?_ _); rotate_left; first | omega | (dsimp only; omega)))
    case hg2 =>
      rintro W2 ⟨r1, hB2⟩
      refine bodyPost_ret (results_ctt rfl _ _ (w.heap.size + 1) 23 _ (0, 0) _ rfl r1 Try.underlying23 rfl (by kernel_rfl)) rfl ?_
      exact ⟨rfl, hB2⟩
set_option maxHeartbeats 8000000 in
set_option maxRecDepth 100000 in
theorem serial_Step.pff (a0_0 a0_1 a0_2 a0_3 : Int) (a1  : Bool) (w : World) (c1 : (bits .and .u8 a0_1 128 == 0) = false) (c2 : (a0_2 == 0) = false) (c3 : (bits .and .u8 a0_1 1 != 0) = false) (q1 q2 q3 q4 : Int) (H : serial_shift.f a0_0 a0_1 a0_2 a0_3 a1 = some (q1, q2, q3, q4)) (c5 : (!(q1 == a0_0 && (q2 == a0_1 && (q3 == a0_2 && q4 == a0_3)))) = false) :
    Calls Try.prog 10 #[.agg #[.int .u8 a0_0, .int .u8 a0_1, .int .u8 a0_2, .int .u8 a0_3], .bool a1, .bool true] w fun e w' => e = .returned (.tuple #[.agg #[.int .u8 q1, .int .u8 q2, .int .u8 q3, .int .u8 q4], .bool (bits .and .u8 a0_0 128 != 0), .bool false]) ∧ Below w.heap.size w w' := by
  have HH := Aside0.mk H
  clear H
  go_enter Try.func10, Try.ntmps10
  go_wp2_with fail
  refine (serial_shift.calls _ _ _ _ _ _ _ _ _ _ HH.out).mono ?_
  rintro e w2 ⟨rfl, hb⟩
  have k0 : w2.heap[w.heap.size]? = some (.cells #[.int .u8 a0_0, .int .u8 a0_1, .int .u8 a0_2, .int .u8 a0_3] 23 (0, 0)) := blk_below (by (apply via; (focus (repeat first | (with_reducible assumption) | (with_reducible apply blk_drew) | (with_reducible apply blk_drewN) | (focus ((with_reducible apply blk_new_at); first | rfl | (simp; done))) | (with_reducible apply blk_alloc) | (focus ((with_reducible apply blk_far); rotate_left; first | omega | (dsimp only; omega))) | (with_reducible apply blk_set))); all_goals rfl)) hb
  have k1 : w2.heap[w.heap.size + 1]? = some (.cells #[.int .u8 0, .int .u8 0, .int .u8 0, .int .u8 0] 23 (0, 0)) := blk_below (by (apply via; (focus (repeat first | (with_reducible assumption) | (with_reducible apply blk_drew) | (with_reducible apply blk_drewN) | (focus ((with_reducible apply blk_new_at); first | rfl | (simp; done))) | (with_reducible apply blk_alloc) | (focus ((with_reducible apply blk_far); rotate_left; first | omega | (dsimp only; omega))) | (with_reducible apply blk_set))); all_goals rfl)) hb
  have k2 : w2.heap[w.heap.size + 1 + 1]? = some (.cells #[.int .u8 a0_0, .int .u8 a0_1, .int .u8 a0_2, .int .u8 a0_3] 23 (0, 0)) := blk_below (by (apply via; (focus (repeat first | (with_reducible assumption) | (with_reducible apply blk_drew) | (with_reducible apply blk_drewN) | (focus ((with_reducible apply blk_new_at); first | rfl | (simp; done))) | (with_reducible apply blk_alloc) | (focus ((with_reducible apply blk_far); rotate_left; first | omega | (dsimp only; omega))) | (with_reducible apply blk_set))); all_goals rfl)) hb
  have kB : Below w.heap.size w w2 := below_step (by (repeat first | (with_reducible assumption) | (with_reducible exact Below.refl _ _) | (with_reducible refine Below.drew ?_) | ((with_reducible refine Below.alloc ?_ ?_ _); rotate_left; first | omega | (focus (simp; done)) | (focus (simp; omega))) | ((with_reducible refine Below.setCell ?_ ?_ _); rotate_left; first | omega | (dsimp only; omega)))) hb
  clear hb
  have y0_0 := blk_cell k0 0
  have y0_1 := blk_cell k0 1
  have y0_2 := blk_cell k0 2
  have y0_3 := blk_cell k0 3
  have y2_0 := blk_cell k2 0
  have y2_1 := blk_cell k2 1
  have y2_2 := blk_cell k2 2
  have y2_3 := blk_cell k2 3
  simp only [List.getElem?_toArray, List.getElem?_cons_zero, List.getElem?_cons_succ] at y0_0 y0_1 y0_2 y0_3 y2_0 y2_1 y2_2 y2_3
  have u0 := fun i => blk_frozen k0 i
  have u2 := fun i => blk_frozen k2 i
  have K0 := Aside0.mk (And.intro k0 (And.intro k1 (And.intro k2 kB)))
  clear k0 k1 k2 kB
  go_wp2
  refine at_world _ (fun W => W.heap[w.heap.size]? = some (.cells #[.int .u8 q1, .int .u8 q2, .int .u8 q3, .int .u8 q4] 23 (0, 0)) ∧ W.heap[w.heap.size + 1]? = some (.cells #[.int .u8 0, .int .u8 0, .int .u8 0, .int .u8 0] 23 (0, 0)) ∧ W.heap[w.heap.size + 1 + 1]? = some (.cells #[.int .u8 a0_0, .int .u8 a0_1, .int .u8 a0_2, .int .u8 a0_3] 23 (0, 0)) ∧ Below w.heap.size w W) ?hfacts ?hgo
  case hfacts =>
    clear y0_0 y0_1 y0_2 y0_3 y2_0 y2_1 y2_2 y2_3 u0 u2
    obtain ⟨k0, k1, k2, kB⟩ := K0.out
    refine ⟨?_, ?_, ?_, ?_⟩
    · (apply via; (focus (repeat first | (with_reducible assumption) | (with_reducible apply blk_drew) | (with_reducible apply blk_drewN) | (focus ((with_reducible apply blk_new_at); first | rfl | (simp; done))) | (with_reducible apply blk_alloc) | (focus ((with_reducible apply blk_far); rotate_left; first | omega | (dsimp only; omega))) | (with_reducible apply blk_set))); all_goals rfl)
    · (apply via; (focus (repeat first | (with_reducible assumption) | (with_reducible apply blk_drew) | (with_reducible apply blk_drewN) | (focus ((with_reducible apply blk_new_at); first | rfl | (simp; done))) | (with_reducible apply blk_alloc) | (focus ((with_reducible apply blk_far); rotate_left; first | omega | (dsimp only; omega))) | (with_reducible apply blk_set))); all_goals rfl)
    · (apply via; (focus (repeat first | (with_reducible assumption) | (with_reducible apply blk_drew) | (with_reducible apply blk_drewN) | (focus ((with_reducible apply blk_new_at); first | rfl | (simp; done))) | (with_reducible apply blk_alloc) | (focus ((with_reducible apply blk_far); rotate_left; first | omega | (dsimp only; omega))) | (with_reducible apply blk_set))); all_goals rfl)
    · (repeat first | (with_reducible assumption) | (with_reducible exact Below.refl _ _) | (with_reducible refine Below.drew ?_) | ((with_reducible refine Below.alloc ?_ ?_ _); rotate_left; first | omega | (focus (simp; done)) | (focus (simp; omega))) | ((with_reducible refine Below.setCell ?_ ?_ _); rotate_left; first | omega | (dsimp only; omega)))
  case hgo =>
    rintro W ⟨b0, b1, b2, hB⟩
    have c0_0 := blk_cell b0 0
    have c0_1 := blk_cell b0 1
    have c0_2 := blk_cell b0 2
    have c0_3 := blk_cell b0 3
    have c1_0 := blk_cell b1 0
    have c1_1 := blk_cell b1 1
    have c1_2 := blk_cell b1 2
    have c1_3 := blk_cell b1 3
    have c2_0 := blk_cell b2 0
    have c2_1 := blk_cell b2 1
    have c2_2 := blk_cell b2 2
    have c2_3 := blk_cell b2 3
    simp only [List.getElem?_toArray, List.getElem?_cons_zero, List.getElem?_cons_succ] at c0_0 c0_1 c0_2 c0_3 c1_0 c1_1 c1_2 c1_3 c2_0 c2_1 c2_2 c2_3
    have f1 := fun i => blk_frozen b1 i
    have B0 := Aside0.mk (And.intro b0 (And.intro b1 b2))
    clear b0 b1 b2 y0_0 y0_1 y0_2 y0_3 y2_0 y2_1 y2_2 y2_3 u0 u2
    go_region
    all_goals go_wp2
    refine at_end _ (fun W2 => W2.heap[w.heap.size + 1]? = some (.cells #[.int .u8 q1, .int .u8 q2, .int .u8 q3, .int .u8 q4] 23 (0, 0)) ∧ Below w.heap.size w W2) ?hf2 ?hg2
    case hf2 =>
      clear c0_0 c0_1 c0_2 c0_3 c1_0 c1_1 c1_2 c1_3 c2_0 c2_1 c2_2 c2_3 f1
      obtain ⟨b0, b1, b2⟩ := B0.out
      refine ⟨?_, ?_⟩
      · (apply via; (focus (repeat first | (with_reducible assumption) | (with_reducible apply blk_drew) | (with_reducible apply blk_drewN) | (focus ((with_reducible apply blk_new_at); first | rfl | (simp; done))) | (with_reducible apply blk_alloc) | (focus ((with_reducible apply blk_far); rotate_left; first | omega | (dsimp only; omega))) | (with_reducible apply blk_set))); all_goals rfl)
      · (repeat first | (with_reducible assumption) | (with_reducible exact Below.refl _ _) | (with_reducible refine Below.drew ?_) | ((with_reducible refine Below.alloc ?_ ?_ _); rotate_left; first | omega | (focus (simp; done)) | (focus (simp; omega))) | ((with_reducible refine Below.setCell ?_ ?_ _); rotate_left; first | omega | (dsimp only; omega)))
    case hg2 =>
      rintro W2 ⟨r1, hB2⟩
      refine bodyPost_ret (results_ctt rfl _ _ (w.heap.size + 1) 23 _ (0, 0) _ rfl r1 Try.underlying23 rfl (by kernel_rfl)) rfl ?_
      exact ⟨rfl, hB2⟩
end
def serial_Step.tail (a0_0 a0_1 a0_2 p : Int) (a1 : Bool) : Option (Int × Int × Int × Int × Bool × Bool) :=
  (serial_shift.f a0_0 a0_1 a0_2 p a1).bind fun q => some (q.1, q.2.1, q.2.2.1, q.2.2.2, (bits .and .u8 a0_0 128 != 0), !(q.1 == a0_0 && (q.2.1 == a0_1 && (q.2.2.1 == a0_2 && q.2.2.2 == p))) && (q.2.2.1 == 0))
def serial_Step.f (a0_0 : Int) (a0_1 : Int) (a0_2 : Int) (a0_3 : Int) (a1 : Bool) (a2 : Bool) : Option (Int × Int × Int × Int × Bool × Bool) :=
  if (bits .and .u8 a0_1 128 == 0) = true then some (a0_0, a0_1, a0_2, a0_3, (bits .and .u8 a0_0 128 != 0), false) else
  if (a0_2 == 0) = true then some (a0_0, a0_1, a0_2, a0_3, (bits .and .u8 a0_0 128 != 0), false) else
  if (bits .and .u8 a0_1 1 != 0) = true then (if 128 ≤ wrap64 (wrap64 a0_3 + 1) then serial_Step.tail a0_0 a0_1 a0_2 0 a1 else some (a0_0, a0_1, a0_2, ((a0_3 + 1) % 256), (bits .and .u8 a0_0 128 != 0), false))
  else (if a2 = true then serial_Step.tail a0_0 a0_1 a0_2 a0_3 a1 else some (a0_0, a0_1, a0_2, a0_3, (bits .and .u8 a0_0 128 != 0), false))
theorem serial_Step.tail_some {a0_0 a0_1 a0_2 p : Int} {a1 : Bool} {r1 r2 r3 r4 : Int} {r5 r6 : Bool} (h : serial_Step.tail a0_0 a0_1 a0_2 p a1 = some (r1, r2, r3, r4, r5, r6)) :
    serial_shift.f a0_0 a0_1 a0_2 p a1 = some (r1, r2, r3, r4) ∧ r5 = (bits .and .u8 a0_0 128 != 0) ∧ r6 = (!(r1 == a0_0 && (r2 == a0_1 && (r3 == a0_2 && r4 == p))) && (r3 == 0)) := by
  unfold serial_Step.tail at h
  obtain ⟨⟨q1, q2, q3, q4⟩, hq, h⟩ := Option.bind_eq_some_iff.mp h
  simp only [Option.some.injEq, Prod.mk.injEq] at h
  obtain ⟨rfl, rfl, rfl, rfl, rfl, rfl⟩ := h
  exact ⟨hq, rfl, rfl⟩
set_option maxRecDepth 100000 in
theorem serial_Step.calls (a0_0 : Int) (a0_1 : Int) (a0_2 : Int) (a0_3 : Int) (a1 : Bool) (a2 : Bool) (r1 : Int) (r2 : Int) (r3 : Int) (r4 : Int) (r5 : Bool) (r6 : Bool) (w : World) (h : serial_Step.f a0_0 a0_1 a0_2 a0_3 a1 a2 = some (r1, r2, r3, r4, r5, r6)) :
    Calls Try.prog 10 #[.agg #[.int .u8 a0_0, .int .u8 a0_1, .int .u8 a0_2, .int .u8 a0_3], .bool a1, .bool a2] w fun e w' => e = .returned (.tuple #[.agg #[.int .u8 r1, .int .u8 r2, .int .u8 r3, .int .u8 r4], .bool r5, .bool r6]) ∧ Below w.heap.size w w' := by
  unfold serial_Step.f at h
  by_cases c1 : (bits .and .u8 a0_1 128 == 0) = true
  · rw [if_pos c1] at h
    simp only [Option.some.injEq, Prod.mk.injEq] at h
    obtain ⟨rfl, rfl, rfl, rfl, rfl, rfl⟩ := h
    exact serial_Step.pa a0_0 a0_1 a0_2 a0_3 a1 a2 w c1
  · rw [if_neg c1] at h
    replace c1 := Bool.eq_false_iff.mpr c1
    by_cases c2 : (a0_2 == 0) = true
    · rw [if_pos c2] at h
      simp only [Option.some.injEq, Prod.mk.injEq] at h
      obtain ⟨rfl, rfl, rfl, rfl, rfl, rfl⟩ := h
      exact serial_Step.pb a0_0 a0_1 a0_2 a0_3 a1 a2 w c1 c2
    · rw [if_neg c2] at h
      replace c2 := Bool.eq_false_iff.mpr c2
      by_cases c3 : (bits .and .u8 a0_1 1 != 0) = true
      · rw [if_pos c3] at h
        by_cases c4 : 128 ≤ wrap64 (wrap64 a0_3 + 1)
        · rw [if_pos c4] at h
          obtain ⟨hq, rfl, rfl⟩ := serial_Step.tail_some h
          cases c5 : (!(r1 == a0_0 && (r2 == a0_1 && (r3 == a0_2 && r4 == 0)))) with
          | true => exact serial_Step.pet a0_0 a0_1 a0_2 a0_3 a1 a2 w c1 c2 c3 c4 r1 r2 r3 r4 hq c5
          | false => exact serial_Step.pef a0_0 a0_1 a0_2 a0_3 a1 a2 w c1 c2 c3 c4 r1 r2 r3 r4 hq c5
        · rw [if_neg c4] at h
          simp only [Option.some.injEq, Prod.mk.injEq] at h
          obtain ⟨rfl, rfl, rfl, rfl, rfl, rfl⟩ := h
          exact serial_Step.pc a0_0 a0_1 a0_2 a0_3 a1 a2 w c1 c2 c3 c4
      · rw [if_neg c3] at h
        replace c3 := Bool.eq_false_iff.mpr c3
        cases a2 with
        | true =>
          rw [if_pos rfl] at h
          obtain ⟨hq, rfl, rfl⟩ := serial_Step.tail_some h
          cases c5 : (!(r1 == a0_0 && (r2 == a0_1 && (r3 == a0_2 && r4 == a0_3)))) with
          | true => exact serial_Step.pft a0_0 a0_1 a0_2 a0_3 a1 w c1 c2 c3 r1 r2 r3 r4 hq c5
          | false => exact serial_Step.pff a0_0 a0_1 a0_2 a0_3 a1 w c1 c2 c3 r1 r2 r3 r4 hq c5
        | false =>
          rw [if_neg (by simp)] at h
          simp only [Option.some.injEq, Prod.mk.injEq] at h
          obtain ⟨rfl, rfl, rfl, rfl, rfl, rfl⟩ := h
          exact serial_Step.pd a0_0 a0_1 a0_2 a0_3 a1 w c1 c2 c3

end Go.Proofs.Ytbceegmpdgadoaa.P
