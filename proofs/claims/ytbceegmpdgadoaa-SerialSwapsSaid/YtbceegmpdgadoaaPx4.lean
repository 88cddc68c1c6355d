/- Contracts of Go functions of this seat: each Lean function here is what the Go function of its name answers, in every memory; no condition but the equations that each theorem states. Written by a program of this session (wip/given.py); Lean checks it. -/
import Derived.Test.YtbceegmpdgadoaaPx0
namespace Go.Proofs.Ytbceegmpdgadoaa.P
open Go.RowKit Go.Proofs.YtbceegmpdgadoaaW.PrintWords Go.Proofs.YtbceegmpdgadoaaW.PrintLast Go.Proofs.YtbceegmpdgadoaaW.PrintMore
attribute [local go_sem] max2_int min2_int max_two min_two max_three min_three max_four min_four   -- for this text's walks alone
set_option linter.unusedVariables false
set_option linter.unusedSimpArgs false

/-! ### whirligigref12_Step: function 11 -/
mutual
def whirligigref12_Step.j0 : Nat → Bool → Bool → Bool → Bool → Int → Int → Int → Int → Option (Int × Int × Int × Int × Bool × Bool)
  | 0, _, _, _, _, _, _, _, _ => none
  | k + 1, x1, x2, x9, x23, x118000, x118001, x118002, x118003 => if x23 = true then (some (x118000, x118001, x118002, x118003, x9, false)) else (if (Int.tmod x118001 2) = 1 then (if (wrap64 ((wrap64 (x118003)) + 1)) ≥ 128 then (whirligigref12_Step.j1 k x1 x9 (decide ((wrap64 ((wrap64 (x118003)) + 1)) ≥ 128)) x118000 x118001 x118002 0) else (whirligigref12_Step.j1 k x1 x9 (decide ((wrap64 ((wrap64 (x118003)) + 1)) ≥ 128)) x118000 x118001 x118002 ((wrap64 ((wrap64 (x118003)) + 1)) % 256))) else (whirligigref12_Step.j1 k x1 x9 x2 x118000 x118001 x118002 x118003))
def whirligigref12_Step.j1 : Nat → Bool → Bool → Bool → Int → Int → Int → Int → Option (Int × Int × Int × Int × Bool × Bool)
  | 0, _, _, _, _, _, _, _ => none
  | k + 1, x1, x9, x10, x118000, x118001, x118002, x118003 => if x10 = true then (if x1 = true then (if ((x118002 - 1) % 256) > 0 then (some ((wrap64 ((Int.tmod (wrap64 ((wrap64 (x118000)) * 2)) 256) + 1)) % 256, x118001, (x118002 - 1) % 256, x118003, x9, false)) else (some ((wrap64 ((Int.tmod (wrap64 ((wrap64 (x118000)) * 2)) 256) + 1)) % 256, (x118001 - 128) % 256, (x118002 - 1) % 256, x118003, x9, true))) else (if ((x118002 - 1) % 256) > 0 then (some ((Int.tmod (wrap64 ((wrap64 (x118000)) * 2)) 256) % 256, x118001, (x118002 - 1) % 256, x118003, x9, false)) else (some ((Int.tmod (wrap64 ((wrap64 (x118000)) * 2)) 256) % 256, (x118001 - 128) % 256, (x118002 - 1) % 256, x118003, x9, true)))) else (some (x118000, x118001, x118002, x118003, x9, false))
end
def whirligigref12_Step.f (k : Nat) (a0_0 : Int) (a0_1 : Int) (a0_2 : Int) (a0_3 : Int) (a1 : Bool) (a2 : Bool) : Option (Int × Int × Int × Int × Bool × Bool) := if a0_1 < 128 then (whirligigref12_Step.j0 k a1 a2 (decide (a0_0 ≥ 128)) true a0_0 a0_1 a0_2 a0_3) else (whirligigref12_Step.j0 k a1 a2 (decide (a0_0 ≥ 128)) (a0_2 == 0) a0_0 a0_1 a0_2 a0_3)
theorem whirligigref12_Step.mono_l : ∀ k, (∀ y0 y1 y2 y3 y4 y5 y6 y7, LeO (whirligigref12_Step.j0 k y0 y1 y2 y3 y4 y5 y6 y7) (whirligigref12_Step.j0 (k + 1) y0 y1 y2 y3 y4 y5 y6 y7)) ∧ (∀ y0 y1 y2 y3 y4 y5 y6, LeO (whirligigref12_Step.j1 k y0 y1 y2 y3 y4 y5 y6) (whirligigref12_Step.j1 (k + 1) y0 y1 y2 y3 y4 y5 y6))
  | 0 => ⟨fun _ _ _ _ _ _ _ _ r h => by simp [whirligigref12_Step.j0] at h, fun _ _ _ _ _ _ _ r h => by simp [whirligigref12_Step.j1] at h⟩
  | k + 1 => by
    obtain ⟨ih0, ih1⟩ := whirligigref12_Step.mono_l k
    refine ⟨?_, ?_⟩
    · intro y0 y1 y2 y3 y4 y5 y6 y7
      unfold whirligigref12_Step.j0
      repeat' first
      | (with_reducible exact ih0 _ _ _ _ _ _ _ _)
      | (with_reducible exact ih1 _ _ _ _ _ _ _)
      | (with_reducible exact LeO.refl _)
      | (with_reducible exact LeO.none _)
      | (with_reducible refine LeO.ite ?_ ?_)
      | (with_reducible refine LeO.bind ?_ (fun _ => ?_))
      | exact ih0 _ _ _ _ _ _ _ _
      | exact ih1 _ _ _ _ _ _ _
      | exact LeO.none _
      | refine LeO.ite ?_ ?_
      | refine LeO.bind ?_ (fun _ => ?_)
    · intro y0 y1 y2 y3 y4 y5 y6
      unfold whirligigref12_Step.j1
      repeat' first
      | (with_reducible exact ih0 _ _ _ _ _ _ _ _)
      | (with_reducible exact ih1 _ _ _ _ _ _ _)
      | (with_reducible exact LeO.refl _)
      | (with_reducible exact LeO.none _)
      | (with_reducible refine LeO.ite ?_ ?_)
      | (with_reducible refine LeO.bind ?_ (fun _ => ?_))
      | exact ih0 _ _ _ _ _ _ _ _
      | exact ih1 _ _ _ _ _ _ _
      | exact LeO.none _
      | refine LeO.ite ?_ ?_
      | refine LeO.bind ?_ (fun _ => ?_)
theorem whirligigref12_Step.mono : ∀ a0 a1 a2 a3 a4 a5 k, LeO (whirligigref12_Step.f k a0 a1 a2 a3 a4 a5) (whirligigref12_Step.f (k + 1) a0 a1 a2 a3 a4 a5) := by
  intro a0 a1 a2 a3 a4 a5 k
  obtain ⟨ih0, ih1⟩ := whirligigref12_Step.mono_l k
  unfold whirligigref12_Step.f
  repeat' first
      | (with_reducible exact ih0 _ _ _ _ _ _ _ _)
      | (with_reducible exact ih1 _ _ _ _ _ _ _)
      | (with_reducible exact LeO.refl _)
      | (with_reducible exact LeO.none _)
      | (with_reducible refine LeO.ite ?_ ?_)
      | (with_reducible refine LeO.bind ?_ (fun _ => ?_))
      | exact ih0 _ _ _ _ _ _ _ _
      | exact ih1 _ _ _ _ _ _ _
      | exact LeO.none _
      | refine LeO.ite ?_ ?_
      | refine LeO.bind ?_ (fun _ => ?_)
set_option maxHeartbeats 8000000 in
set_option maxRecDepth 100000 in
theorem whirligigref12_Step.calls (k : Nat) (a0_0 : Int) (a0_1 : Int) (a0_2 : Int) (a0_3 : Int) (a1 : Bool) (a2 : Bool) (r1 : Int) (r2 : Int) (r3 : Int) (r4 : Int) (r5 : Bool) (r6 : Bool) (w : World) (h : whirligigref12_Step.f k a0_0 a0_1 a0_2 a0_3 a1 a2 = some (r1, r2, r3, r4, r5, r6)) :
    Calls Try.prog 11 #[.agg #[.int .u8 a0_0, .int .u8 a0_1, .int .u8 a0_2, .int .u8 a0_3], .bool a1, .bool a2] w fun e w' => e = .returned (.tuple #[.agg #[.int .u8 r1, .int .u8 r2, .int .u8 r3, .int .u8 r4], .bool r5, .bool r6]) ∧ Below w.heap.size w w' := by
  have hu23 := Try.underlying23
  have HB := Aside0.mk (Below.refl w.heap.size w)
  have H : (if a0_1 < 128 then (whirligigref12_Step.j0 k a1 a2 (decide (a0_0 ≥ 128)) true a0_0 a0_1 a0_2 a0_3) else (whirligigref12_Step.j0 k a1 a2 (decide (a0_0 ≥ 128)) (a0_2 == 0) a0_0 a0_1 a0_2 a0_3)) = some (r1, r2, r3, r4, r5, r6) := h
  clear h
  have HC4 := Aside0.mk H
  clear H
  go_enter Try.func11, Try.ntmps11
  go_upto_region 2 with (first | ((with_reducible refine gate_dst (N := 3) rfl ?_); refine box_event ?hg (N := 3) ?hd (cs := #[.int .u8 a0_0, .int .u8 a0_1, .int .u8 a0_2, .int .u8 a0_3]) (t := 23) ?hr ?_; (case hd => rfl); (case hg => rfl); (case hr => first | (go_simp; done) | (go_simp; rfl)); intro gb117 hg w5 hbox hb; have n0_ := Aside0.mk (below_step (by repeat (first | (with_reducible first | exact HB.out | apply below_alloc | apply pw_below_drewN | apply below_drew1) | exact HB.out)) hb); have n1_ := Aside0.mk (hbox); have n2_ := Aside0.mk ((by rw [hg]; exact (below_size (by repeat (first | (with_reducible first | exact HB.out | apply below_alloc | apply pw_below_drewN | apply below_drew1) | exact HB.out))) : w.heap.size ≤ gb117)); have n3_ := Aside0.mk ((by rw [hg]; exact (below_size (by repeat (first | (with_reducible first | exact HB.out | apply below_alloc | apply pw_below_drewN | apply below_drew1) | exact HB.out))) : w.heap.size ≤ gb117)); clear HB; have HB := n0_; have BK117 := n1_; have GW117 := n2_; have GE117 := n3_; clear n0_ n1_ n2_ n3_; clear hb hbox hg) | ((with_reducible refine gate_dst (N := 6) rfl ?_); refine box_event ?hg (N := 6) ?hd (cs := #[.int .u8 0, .int .u8 0, .int .u8 0, .int .u8 0]) (t := 23) ?hr ?_; (case hd => rfl); (case hg => rfl); (case hr => first | (go_simp; done) | (go_simp; rfl)); intro gb118 hg w6 hbox hb; have n0_ := Aside0.mk (blk_below (g := gb117) (o := .cells #[.int .u8 a0_0, .int .u8 a0_1, .int .u8 a0_2, .int .u8 a0_3] 23 (0, 0)) (by (with_reducible repeat (first | refine blk_drewN ?_ _ | refine blk_drew ?_ | refine blk_alloc ?_ _)); exact BK117.out) hb); have n1_ := Aside0.mk (below_step (by repeat (first | (with_reducible first | exact HB.out | apply below_alloc | apply pw_below_drewN | apply below_drew1 | refine below_set ?_ GE117.out) | exact HB.out)) hb); have n2_ := Aside0.mk (hbox); have n3_ := Aside0.mk ((by rw [hg]; exact (below_size (by repeat (first | (with_reducible first | exact HB.out | apply below_alloc | apply pw_below_drewN | apply below_drew1 | refine below_set ?_ GE117.out) | exact HB.out))) : w.heap.size ≤ gb118)); have n4_ := Aside0.mk ((by rw [hg]; exact (below_size (by repeat (first | (with_reducible first | exact HB.out | apply below_alloc | apply pw_below_drewN | apply below_drew1 | refine below_set ?_ GE117.out) | exact HB.out))) : w.heap.size ≤ gb118)); have n5_ := Aside0.mk ((by rw [hg]; exact Nat.ne_of_lt (blk_lt (g := gb117) (o := .cells #[.int .u8 a0_0, .int .u8 a0_1, .int .u8 a0_2, .int .u8 a0_3] 23 (0, 0)) (by (with_reducible repeat (first | refine blk_drewN ?_ _ | refine blk_drew ?_ | refine blk_alloc ?_ _)); exact BK117.out)) : gb117 ≠ gb118)); have n6_ := Aside0.mk ((by rw [hg]; exact Nat.ne_of_gt (blk_lt (g := gb117) (o := .cells #[.int .u8 a0_0, .int .u8 a0_1, .int .u8 a0_2, .int .u8 a0_3] 23 (0, 0)) (by (with_reducible repeat (first | refine blk_drewN ?_ _ | refine blk_drew ?_ | refine blk_alloc ?_ _)); exact BK117.out)) : gb118 ≠ gb117)); clear BK117; clear HB; have BK117 := n0_; have HB := n1_; have BK118 := n2_; have GW118 := n3_; have GE118 := n4_; have NB117_118 := n5_; have NB118_117 := n6_; clear n0_ n1_ n2_ n3_ n4_ n5_ n6_; clear hb hbox hg; have hnb7 := NB117_118.out; have hnc7 := NB118_117.out; have hcz8_0 : w6.cell? ⟨gb117, 0, none⟩ = some (.int .u8 a0_0) := (blk_cell BK117.out 0).trans rfl; have hcz8_1 : w6.cell? ⟨gb117, 1, none⟩ = some (.int .u8 a0_1) := (blk_cell BK117.out 1).trans rfl; have hcz8_2 : w6.cell? ⟨gb117, 2, none⟩ = some (.int .u8 a0_2) := (blk_cell BK117.out 2).trans rfl; have hcz8_3 : w6.cell? ⟨gb117, 3, none⟩ = some (.int .u8 a0_3) := (blk_cell BK117.out 3).trans rfl; have hfz8_0 := blk_frozen BK117.out 0; have hfz8_1 := blk_frozen BK117.out 1; have hfz8_2 := blk_frozen BK117.out 2; have hfz8_3 := blk_frozen BK117.out 3))
  (try simp only [Act.put, List.setIfInBounds_toArray, List.set_cons_zero, List.set_cons_succ])
  go_cut [23] (fun v23 wc => ∃ (kq : Nat) (x23_3 : Bool), v23 = .bool x23_3 ∧ Aside0 (whirligigref12_Step.j0 kq a1 a2 (decide (a0_0 ≥ 128)) x23_3 a0_0 a0_1 a0_2 a0_3 = some (r1, r2, r3, r4, r5, r6)) ∧ Aside0 (kq ≤ k) ∧ Aside0 (wc.heap[gb117]? = some (.cells #[.int .u8 a0_0, .int .u8 a0_1, .int .u8 a0_2, .int .u8 a0_3] 23 (0, 0))) ∧ Aside0 (wc.heap[gb118]? = some (.cells #[.int .u8 0, .int .u8 0, .int .u8 0, .int .u8 0] 23 (0, 0))) ∧ Aside0 (Below w.heap.size w wc))
  case first =>
    have H := HC4.out
    clear HC4
    by_cases c9 : a0_1 < 128
    · rw [if_pos c9] at H
      have c9b0 : decide (a0_1 < 128) = true := decide_eq_true c9
      clear c9
      (first | rw [c9b0] | (simp only [i64_w, i32_w]; rw [c9b0]) | skip)
      have H' := Aside0.mk H
      clear H
      have hnb10 := NB117_118.out
      have hnc10 := NB118_117.out
      have hcz11_0 : w6.cell? ⟨gb117, 0, none⟩ = some (.int .u8 a0_0) := (blk_cell BK117.out 0).trans rfl
      have hcz11_1 : w6.cell? ⟨gb117, 1, none⟩ = some (.int .u8 a0_1) := (blk_cell BK117.out 1).trans rfl
      have hcz11_2 : w6.cell? ⟨gb117, 2, none⟩ = some (.int .u8 a0_2) := (blk_cell BK117.out 2).trans rfl
      have hcz11_3 : w6.cell? ⟨gb117, 3, none⟩ = some (.int .u8 a0_3) := (blk_cell BK117.out 3).trans rfl
      have hfz11_0 := blk_frozen BK117.out 0
      have hfz11_1 := blk_frozen BK117.out 1
      have hfz11_2 := blk_frozen BK117.out 2
      have hfz11_3 := blk_frozen BK117.out 3
      go_wp2
      go_meet
      case rel => exact ⟨_, (true), (by first | rfl | (simp; done) | (simp [*]; done)), H', ⟨by first | omega | exact Nat.le_refl _⟩, ⟨by (with_reducible repeat (first | refine blk_drewN ?_ _ | refine blk_drew ?_ | refine blk_alloc ?_ _)); exact BK117.out⟩, ⟨by (with_reducible repeat (first | refine blk_drewN ?_ _ | refine blk_drew ?_ | refine blk_alloc ?_ _)); exact BK118.out⟩, ⟨by repeat (first | (with_reducible first | exact HB.out | apply below_alloc | apply pw_below_drewN | apply below_drew1 | refine below_set ?_ GE117.out | refine below_set ?_ GE118.out) | exact HB.out)⟩⟩
    · rw [if_neg c9] at H
      have c9b0 : decide (a0_1 < 128) = false := decide_eq_false c9
      clear c9
      (first | rw [c9b0] | (simp only [i64_w, i32_w]; rw [c9b0]) | skip)
      have H' := Aside0.mk H
      clear H
      have hnb12 := NB117_118.out
      have hnc12 := NB118_117.out
      have hcz13_0 : w6.cell? ⟨gb117, 0, none⟩ = some (.int .u8 a0_0) := (blk_cell BK117.out 0).trans rfl
      have hcz13_1 : w6.cell? ⟨gb117, 1, none⟩ = some (.int .u8 a0_1) := (blk_cell BK117.out 1).trans rfl
      have hcz13_2 : w6.cell? ⟨gb117, 2, none⟩ = some (.int .u8 a0_2) := (blk_cell BK117.out 2).trans rfl
      have hcz13_3 : w6.cell? ⟨gb117, 3, none⟩ = some (.int .u8 a0_3) := (blk_cell BK117.out 3).trans rfl
      have hfz13_0 := blk_frozen BK117.out 0
      have hfz13_1 := blk_frozen BK117.out 1
      have hfz13_2 := blk_frozen BK117.out 2
      have hfz13_3 := blk_frozen BK117.out 3
      go_wp2
      go_meet
      case rel => exact ⟨_, ((a0_2 == 0)), (by first | rfl | (simp; done) | (simp [*]; done)), H', ⟨by first | omega | exact Nat.le_refl _⟩, ⟨by (with_reducible repeat (first | refine blk_drewN ?_ _ | refine blk_drew ?_ | refine blk_alloc ?_ _)); exact BK117.out⟩, ⟨by (with_reducible repeat (first | refine blk_drewN ?_ _ | refine blk_drew ?_ | refine blk_alloc ?_ _)); exact BK118.out⟩, ⟨by repeat (first | (with_reducible first | exact HB.out | apply below_alloc | apply pw_below_drewN | apply below_drew1 | refine below_set ?_ GE117.out | refine below_set ?_ GE118.out) | exact HB.out)⟩⟩
  case rest =>
    clear HC4
    try clear c1
    try clear p2
    try clear c7
    try clear c9
    try clear c9b0
    try clear c10
    try clear c11
    try clear c12
    try clear hcz11_0
    try clear hcz11_1
    try clear hcz11_2
    try clear hcz11_3
    try clear hcz13_0
    try clear hcz13_1
    try clear hcz13_2
    try clear hcz13_3
    try clear hcz8_0
    try clear hcz8_1
    try clear hcz8_2
    try clear hcz8_3
    try clear hfz11_0
    try clear hfz11_1
    try clear hfz11_2
    try clear hfz11_3
    try clear hfz13_0
    try clear hfz13_1
    try clear hfz13_2
    try clear hfz13_3
    try clear hfz8_0
    try clear hfz8_1
    try clear hfz8_2
    try clear hfz8_3
    obtain ⟨kq, x23_3, rfl, HA, HJ3, BK117, BK118, HB⟩ := hcut
    cases kq with
    | zero => exact absurd HA.out (by simp [whirligigref12_Step.j0])
    | succ kj3 =>
      have H := HA.out
      clear HA
      simp only [whirligigref12_Step.j0] at H
      by_cases c14 : x23_3 = true
      · subst c14
        have H1 : (some (a0_0, a0_1, a0_2, a0_3, (decide (a0_0 ≥ 128)), false)) = some (r1, r2, r3, r4, r5, r6) := by rw [if_pos rfl] at H; exact H
        clear H
        have H := H1
        clear H1
        simp only [Option.some.injEq, Prod.mk.injEq] at H
        obtain ⟨rfl, rfl, rfl, rfl, rfl, rfl⟩ := H
        have hnb15 := NB117_118.out
        have hnc15 := NB118_117.out
        have hcz16_0 : wc.cell? ⟨gb117, 0, none⟩ = some (.int .u8 a0_0) := (blk_cell BK117.out 0).trans rfl
        have hcz16_1 : wc.cell? ⟨gb117, 1, none⟩ = some (.int .u8 a0_1) := (blk_cell BK117.out 1).trans rfl
        have hcz16_2 : wc.cell? ⟨gb117, 2, none⟩ = some (.int .u8 a0_2) := (blk_cell BK117.out 2).trans rfl
        have hcz16_3 : wc.cell? ⟨gb117, 3, none⟩ = some (.int .u8 a0_3) := (blk_cell BK117.out 3).trans rfl
        have hfz16_0 := blk_frozen BK117.out 0
        have hfz16_1 := blk_frozen BK117.out 1
        have hfz16_2 := blk_frozen BK117.out 2
        have hfz16_3 := blk_frozen BK117.out 3
        have hcz17_0 : wc.cell? ⟨gb118, 0, none⟩ = some (.int .u8 0) := (blk_cell BK118.out 0).trans rfl
        have hcz17_1 : wc.cell? ⟨gb118, 1, none⟩ = some (.int .u8 0) := (blk_cell BK118.out 1).trans rfl
        have hcz17_2 : wc.cell? ⟨gb118, 2, none⟩ = some (.int .u8 0) := (blk_cell BK118.out 2).trans rfl
        have hcz17_3 : wc.cell? ⟨gb118, 3, none⟩ = some (.int .u8 0) := (blk_cell BK118.out 3).trans rfl
        have hfz17_0 := blk_frozen BK118.out 0
        have hfz17_1 := blk_frozen BK118.out 1
        have hfz17_2 := blk_frozen BK118.out 2
        have hfz17_3 := blk_frozen BK118.out 3
        go_wp2
        refine bodyPost_ret (results_ctt rfl _ _ gb118 23 #[.int .u8 a0_0, .int .u8 a0_1, .int .u8 a0_2, .int .u8 a0_3] (0, 0) _ rfl (by (with_reducible repeat (first | refine blk_drewN ?_ _ | refine blk_drew ?_ | refine blk_alloc ?_ _)); refine blk_put (cs := #[.int .u8 a0_0, .int .u8 a0_1, .int .u8 a0_2, .int .u8 0]) ?_ 3 _ rfl; (with_reducible repeat (first | refine blk_drewN ?_ _ | refine blk_drew ?_ | refine blk_alloc ?_ _)); refine blk_put (cs := #[.int .u8 a0_0, .int .u8 a0_1, .int .u8 0, .int .u8 0]) ?_ 2 _ rfl; (with_reducible repeat (first | refine blk_drewN ?_ _ | refine blk_drew ?_ | refine blk_alloc ?_ _)); refine blk_put (cs := #[.int .u8 a0_0, .int .u8 0, .int .u8 0, .int .u8 0]) ?_ 1 _ rfl; (with_reducible repeat (first | refine blk_drewN ?_ _ | refine blk_drew ?_ | refine blk_alloc ?_ _)); refine blk_put (cs := #[.int .u8 0, .int .u8 0, .int .u8 0, .int .u8 0]) ?_ 0 _ rfl; (with_reducible repeat (first | refine blk_drewN ?_ _ | refine blk_drew ?_ | refine blk_alloc ?_ _)); exact BK118.out) Try.underlying23 rfl (by kernel_rfl)) rfl ?_
        exact ⟨by first | rfl | (simp [errW_none, errW_some] <;> rfl) | (simp [*, errW_none, errW_some] <;> rfl), by repeat (first | (with_reducible first | exact HB.out | apply below_alloc | apply pw_below_drewN | apply below_drew1 | refine below_set ?_ GE117.out | refine below_set ?_ GE118.out) | exact HB.out)⟩
      · replace c14 := Bool.eq_false_iff.mpr c14
        subst c14
        have H1 : (if (Int.tmod a0_1 2) = 1 then (if (wrap64 ((wrap64 (a0_3)) + 1)) ≥ 128 then (whirligigref12_Step.j1 kj3 a1 (decide (a0_0 ≥ 128)) (decide ((wrap64 ((wrap64 (a0_3)) + 1)) ≥ 128)) a0_0 a0_1 a0_2 0) else (whirligigref12_Step.j1 kj3 a1 (decide (a0_0 ≥ 128)) (decide ((wrap64 ((wrap64 (a0_3)) + 1)) ≥ 128)) a0_0 a0_1 a0_2 ((wrap64 ((wrap64 (a0_3)) + 1)) % 256))) else (whirligigref12_Step.j1 kj3 a1 (decide (a0_0 ≥ 128)) a2 a0_0 a0_1 a0_2 a0_3)) = some (r1, r2, r3, r4, r5, r6) := by rw [if_neg (show ¬ (false = true) by decide)] at H; exact H
        clear H
        have H := H1
        clear H1
        have HC18 := Aside0.mk H
        clear H
        have hnb19 := NB117_118.out
        have hnc19 := NB118_117.out
        have hcz20_0 : wc.cell? ⟨gb117, 0, none⟩ = some (.int .u8 a0_0) := (blk_cell BK117.out 0).trans rfl
        have hcz20_1 : wc.cell? ⟨gb117, 1, none⟩ = some (.int .u8 a0_1) := (blk_cell BK117.out 1).trans rfl
        have hcz20_2 : wc.cell? ⟨gb117, 2, none⟩ = some (.int .u8 a0_2) := (blk_cell BK117.out 2).trans rfl
        have hcz20_3 : wc.cell? ⟨gb117, 3, none⟩ = some (.int .u8 a0_3) := (blk_cell BK117.out 3).trans rfl
        have hfz20_0 := blk_frozen BK117.out 0
        have hfz20_1 := blk_frozen BK117.out 1
        have hfz20_2 := blk_frozen BK117.out 2
        have hfz20_3 := blk_frozen BK117.out 3
        go_upto_if 30 with (fail)
        go_cut [10] (fun v10 wc => ∃ (kq : Nat) (x10_17 : Bool) (x118003_17 : Int), v10 = .bool x10_17 ∧ Aside0 (whirligigref12_Step.j1 kq a1 (decide (a0_0 ≥ 128)) x10_17 a0_0 a0_1 a0_2 x118003_17 = some (r1, r2, r3, r4, r5, r6)) ∧ Aside0 (kq ≤ kj3) ∧ Aside0 (wc.heap[gb117]? = some (.cells #[.int .u8 a0_0, .int .u8 a0_1, .int .u8 a0_2, .int .u8 x118003_17] 23 (0, 0))) ∧ Aside0 (wc.heap[gb118]? = some (.cells #[.int .u8 0, .int .u8 0, .int .u8 0, .int .u8 0] 23 (0, 0))) ∧ Aside0 (Below w.heap.size w wc))
        case first =>
          have H := HC18.out
          clear HC18
          by_cases c21 : (Int.tmod a0_1 2) = 1
          · rw [if_pos c21] at H
            have c21b0 : ((Int.tmod a0_1 2) == 1) = true := beq_iff_eq.mpr c21
            have c21b1 : ((Int.tmod a0_1 2) != 1) = false := bne_eq_false_iff_eq.mpr c21
            clear c21
            (first | rw [c21b0] | (simp only [i64_w, i32_w]; rw [c21b0]) | skip)
            by_cases c22 : (wrap64 ((wrap64 (a0_3)) + 1)) ≥ 128
            · rw [if_pos c22] at H
              have c22b0 : decide (128 ≤ (wrap64 ((wrap64 (a0_3)) + 1))) = true := decide_eq_true c22
              clear c22
              have H' := Aside0.mk H
              clear H
              have hnb23 := NB117_118.out
              have hnc23 := NB118_117.out
              have hcz24_0 : wc.cell? ⟨gb117, 0, none⟩ = some (.int .u8 a0_0) := (blk_cell BK117.out 0).trans rfl
              have hcz24_1 : wc.cell? ⟨gb117, 1, none⟩ = some (.int .u8 a0_1) := (blk_cell BK117.out 1).trans rfl
              have hcz24_2 : wc.cell? ⟨gb117, 2, none⟩ = some (.int .u8 a0_2) := (blk_cell BK117.out 2).trans rfl
              have hcz24_3 : wc.cell? ⟨gb117, 3, none⟩ = some (.int .u8 a0_3) := (blk_cell BK117.out 3).trans rfl
              have hfz24_0 := blk_frozen BK117.out 0
              have hfz24_1 := blk_frozen BK117.out 1
              have hfz24_2 := blk_frozen BK117.out 2
              have hfz24_3 := blk_frozen BK117.out 3
              go_wp2
              go_meet
              case rel => exact ⟨_, (decide ((wrap64 ((wrap64 (a0_3)) + 1)) ≥ 128)), (0), (by first | rfl | (simp; done) | (simp [*]; done)), H', ⟨by have := HJ3.out; first | omega | exact Nat.le_refl _⟩, ⟨by (with_reducible repeat (first | refine blk_drewN ?_ _ | refine blk_drew ?_ | refine blk_alloc ?_ _)); refine blk_put (cs := #[.int .u8 a0_0, .int .u8 a0_1, .int .u8 a0_2, .int .u8 a0_3]) ?_ 3 _ rfl; (with_reducible repeat (first | refine blk_drewN ?_ _ | refine blk_drew ?_ | refine blk_alloc ?_ _)); exact BK117.out⟩, ⟨by (with_reducible repeat (first | refine blk_drewN ?_ _ | refine blk_drew ?_ | refine blk_alloc ?_ _)); refine blk_far ?_ NB118_117.out _; (with_reducible repeat (first | refine blk_drewN ?_ _ | refine blk_drew ?_ | refine blk_alloc ?_ _)); exact BK118.out⟩, ⟨by repeat (first | (with_reducible first | exact HB.out | apply below_alloc | apply pw_below_drewN | apply below_drew1 | refine below_set ?_ GE117.out | refine below_set ?_ GE118.out) | exact HB.out)⟩⟩
            · rw [if_neg c22] at H
              have c22b0 : decide (128 ≤ (wrap64 ((wrap64 (a0_3)) + 1))) = false := decide_eq_false c22
              clear c22
              have H' := Aside0.mk H
              clear H
              have hnb25 := NB117_118.out
              have hnc25 := NB118_117.out
              have hcz26_0 : wc.cell? ⟨gb117, 0, none⟩ = some (.int .u8 a0_0) := (blk_cell BK117.out 0).trans rfl
              have hcz26_1 : wc.cell? ⟨gb117, 1, none⟩ = some (.int .u8 a0_1) := (blk_cell BK117.out 1).trans rfl
              have hcz26_2 : wc.cell? ⟨gb117, 2, none⟩ = some (.int .u8 a0_2) := (blk_cell BK117.out 2).trans rfl
              have hcz26_3 : wc.cell? ⟨gb117, 3, none⟩ = some (.int .u8 a0_3) := (blk_cell BK117.out 3).trans rfl
              have hfz26_0 := blk_frozen BK117.out 0
              have hfz26_1 := blk_frozen BK117.out 1
              have hfz26_2 := blk_frozen BK117.out 2
              have hfz26_3 := blk_frozen BK117.out 3
              go_wp2
              go_meet
              case rel => exact ⟨_, (decide ((wrap64 ((wrap64 (a0_3)) + 1)) ≥ 128)), ((wrap64 ((wrap64 (a0_3)) + 1)) % 256), (by first | rfl | (simp; done) | (simp [*]; done)), H', ⟨by have := HJ3.out; first | omega | exact Nat.le_refl _⟩, ⟨by (with_reducible repeat (first | refine blk_drewN ?_ _ | refine blk_drew ?_ | refine blk_alloc ?_ _)); refine blk_put (cs := #[.int .u8 a0_0, .int .u8 a0_1, .int .u8 a0_2, .int .u8 a0_3]) ?_ 3 _ rfl; (with_reducible repeat (first | refine blk_drewN ?_ _ | refine blk_drew ?_ | refine blk_alloc ?_ _)); exact BK117.out⟩, ⟨by (with_reducible repeat (first | refine blk_drewN ?_ _ | refine blk_drew ?_ | refine blk_alloc ?_ _)); refine blk_far ?_ NB118_117.out _; (with_reducible repeat (first | refine blk_drewN ?_ _ | refine blk_drew ?_ | refine blk_alloc ?_ _)); exact BK118.out⟩, ⟨by repeat (first | (with_reducible first | exact HB.out | apply below_alloc | apply pw_below_drewN | apply below_drew1 | refine below_set ?_ GE117.out | refine below_set ?_ GE118.out) | exact HB.out)⟩⟩
          · rw [if_neg c21] at H
            have c21b0 : ((Int.tmod a0_1 2) == 1) = false := beq_eq_false_iff_ne.mpr c21
            have c21b1 : ((Int.tmod a0_1 2) != 1) = true := bne_iff_ne.mpr c21
            (first | rw [c21b0] | (simp only [i64_w, i32_w]; rw [c21b0]) | skip)
            have H' := Aside0.mk H
            clear H
            go_wp2
            go_meet
            case rel => exact ⟨_, (a2), (a0_3), (by first | rfl | (simp; done) | (simp [*]; done)), H', ⟨by have := HJ3.out; first | omega | exact Nat.le_refl _⟩, ⟨by (with_reducible repeat (first | refine blk_drewN ?_ _ | refine blk_drew ?_ | refine blk_alloc ?_ _)); exact BK117.out⟩, ⟨by (with_reducible repeat (first | refine blk_drewN ?_ _ | refine blk_drew ?_ | refine blk_alloc ?_ _)); exact BK118.out⟩, ⟨by repeat (first | (with_reducible first | exact HB.out | apply below_alloc | apply pw_below_drewN | apply below_drew1 | refine below_set ?_ GE117.out | refine below_set ?_ GE118.out) | exact HB.out)⟩⟩
        case rest =>
          clear HC18
          try clear c1
          try clear c2
          try clear p2
          try clear p6
          try clear c7
          try clear c9
          try clear c9b0
          try clear c10
          try clear c11
          try clear c12
          try clear c14
          try clear c15
          try clear c19
          try clear c21
          try clear c21b0
          try clear c21b1
          try clear c22
          try clear c22b0
          try clear c23
          try clear c25
          try clear hcz11_0
          try clear hcz11_1
          try clear hcz11_2
          try clear hcz11_3
          try clear hcz13_0
          try clear hcz13_1
          try clear hcz13_2
          try clear hcz13_3
          try clear hcz16_0
          try clear hcz16_1
          try clear hcz16_2
          try clear hcz16_3
          try clear hcz17_0
          try clear hcz17_1
          try clear hcz17_2
          try clear hcz17_3
          try clear hcz20_0
          try clear hcz20_1
          try clear hcz20_2
          try clear hcz20_3
          try clear hcz24_0
          try clear hcz24_1
          try clear hcz24_2
          try clear hcz24_3
          try clear hcz26_0
          try clear hcz26_1
          try clear hcz26_2
          try clear hcz26_3
          try clear hcz8_0
          try clear hcz8_1
          try clear hcz8_2
          try clear hcz8_3
          try clear hfz11_0
          try clear hfz11_1
          try clear hfz11_2
          try clear hfz11_3
          try clear hfz13_0
          try clear hfz13_1
          try clear hfz13_2
          try clear hfz13_3
          try clear hfz16_0
          try clear hfz16_1
          try clear hfz16_2
          try clear hfz16_3
          try clear hfz17_0
          try clear hfz17_1
          try clear hfz17_2
          try clear hfz17_3
          try clear hfz20_0
          try clear hfz20_1
          try clear hfz20_2
          try clear hfz20_3
          try clear hfz24_0
          try clear hfz24_1
          try clear hfz24_2
          try clear hfz24_3
          try clear hfz26_0
          try clear hfz26_1
          try clear hfz26_2
          try clear hfz26_3
          try clear hfz8_0
          try clear hfz8_1
          try clear hfz8_2
          try clear hfz8_3
          try clear p2
          obtain ⟨kq, x10_17, x118003_17, rfl, HA, HJ17, BK117, BK118, HB⟩ := hcut
          cases kq with
          | zero => exact absurd HA.out (by simp [whirligigref12_Step.j1])
          | succ kj17 =>
            have H := HA.out
            clear HA
            simp only [whirligigref12_Step.j1] at H
            by_cases c27 : x10_17 = true
            · subst c27
              have H1 : (if a1 = true then (if ((a0_2 - 1) % 256) > 0 then (some ((wrap64 ((Int.tmod (wrap64 ((wrap64 (a0_0)) * 2)) 256) + 1)) % 256, a0_1, (a0_2 - 1) % 256, x118003_17, (decide (a0_0 ≥ 128)), false)) else (some ((wrap64 ((Int.tmod (wrap64 ((wrap64 (a0_0)) * 2)) 256) + 1)) % 256, (a0_1 - 128) % 256, (a0_2 - 1) % 256, x118003_17, (decide (a0_0 ≥ 128)), true))) else (if ((a0_2 - 1) % 256) > 0 then (some ((Int.tmod (wrap64 ((wrap64 (a0_0)) * 2)) 256) % 256, a0_1, (a0_2 - 1) % 256, x118003_17, (decide (a0_0 ≥ 128)), false)) else (some ((Int.tmod (wrap64 ((wrap64 (a0_0)) * 2)) 256) % 256, (a0_1 - 128) % 256, (a0_2 - 1) % 256, x118003_17, (decide (a0_0 ≥ 128)), true)))) = some (r1, r2, r3, r4, r5, r6) := by rw [if_pos rfl] at H; exact H
              clear H
              have H := H1
              clear H1
              by_cases c28 : a1 = true
              · subst c28
                have H1 : (if ((a0_2 - 1) % 256) > 0 then (some ((wrap64 ((Int.tmod (wrap64 ((wrap64 (a0_0)) * 2)) 256) + 1)) % 256, a0_1, (a0_2 - 1) % 256, x118003_17, (decide (a0_0 ≥ 128)), false)) else (some ((wrap64 ((Int.tmod (wrap64 ((wrap64 (a0_0)) * 2)) 256) + 1)) % 256, (a0_1 - 128) % 256, (a0_2 - 1) % 256, x118003_17, (decide (a0_0 ≥ 128)), true))) = some (r1, r2, r3, r4, r5, r6) := by rw [if_pos rfl] at H; exact H
                clear H
                have H := H1
                clear H1
                by_cases c29 : ((a0_2 - 1) % 256) > 0
                · rw [if_pos c29] at H
                  have c29b0 : decide (0 < ((a0_2 - 1) % 256)) = true := decide_eq_true c29
                  clear c29
                  simp only [Option.some.injEq, Prod.mk.injEq] at H
                  obtain ⟨rfl, rfl, rfl, rfl, rfl, rfl⟩ := H
                  have hnb30 := NB117_118.out
                  have hnc30 := NB118_117.out
                  have hcz31_0 : wc.cell? ⟨gb117, 0, none⟩ = some (.int .u8 a0_0) := (blk_cell BK117.out 0).trans rfl
                  have hcz31_1 : wc.cell? ⟨gb117, 1, none⟩ = some (.int .u8 a0_1) := (blk_cell BK117.out 1).trans rfl
                  have hcz31_2 : wc.cell? ⟨gb117, 2, none⟩ = some (.int .u8 a0_2) := (blk_cell BK117.out 2).trans rfl
                  have hcz31_3 : wc.cell? ⟨gb117, 3, none⟩ = some (.int .u8 x118003_17) := (blk_cell BK117.out 3).trans rfl
                  have hfz31_0 := blk_frozen BK117.out 0
                  have hfz31_1 := blk_frozen BK117.out 1
                  have hfz31_2 := blk_frozen BK117.out 2
                  have hfz31_3 := blk_frozen BK117.out 3
                  have hcz32_0 : wc.cell? ⟨gb118, 0, none⟩ = some (.int .u8 0) := (blk_cell BK118.out 0).trans rfl
                  have hcz32_1 : wc.cell? ⟨gb118, 1, none⟩ = some (.int .u8 0) := (blk_cell BK118.out 1).trans rfl
                  have hcz32_2 : wc.cell? ⟨gb118, 2, none⟩ = some (.int .u8 0) := (blk_cell BK118.out 2).trans rfl
                  have hcz32_3 : wc.cell? ⟨gb118, 3, none⟩ = some (.int .u8 0) := (blk_cell BK118.out 3).trans rfl
                  have hfz32_0 := blk_frozen BK118.out 0
                  have hfz32_1 := blk_frozen BK118.out 1
                  have hfz32_2 := blk_frozen BK118.out 2
                  have hfz32_3 := blk_frozen BK118.out 3
                  go_wp2
                  refine bodyPost_ret (results_ctt rfl _ _ gb118 23 #[.int .u8 ((wrap64 ((Int.tmod (wrap64 ((wrap64 (a0_0)) * 2)) 256) + 1)) % 256), .int .u8 a0_1, .int .u8 ((a0_2 - 1) % 256), .int .u8 x118003_17] (0, 0) _ rfl (by (with_reducible repeat (first | refine blk_drewN ?_ _ | refine blk_drew ?_ | refine blk_alloc ?_ _)); refine blk_put (cs := #[.int .u8 ((wrap64 ((Int.tmod (wrap64 ((wrap64 (a0_0)) * 2)) 256) + 1)) % 256), .int .u8 a0_1, .int .u8 ((a0_2 - 1) % 256), .int .u8 0]) ?_ 3 _ rfl; (with_reducible repeat (first | refine blk_drewN ?_ _ | refine blk_drew ?_ | refine blk_alloc ?_ _)); refine blk_put (cs := #[.int .u8 ((wrap64 ((Int.tmod (wrap64 ((wrap64 (a0_0)) * 2)) 256) + 1)) % 256), .int .u8 a0_1, .int .u8 0, .int .u8 0]) ?_ 2 _ rfl; (with_reducible repeat (first | refine blk_drewN ?_ _ | refine blk_drew ?_ | refine blk_alloc ?_ _)); refine blk_put (cs := #[.int .u8 ((wrap64 ((Int.tmod (wrap64 ((wrap64 (a0_0)) * 2)) 256) + 1)) % 256), .int .u8 0, .int .u8 0, .int .u8 0]) ?_ 1 _ rfl; (with_reducible repeat (first | refine blk_drewN ?_ _ | refine blk_drew ?_ | refine blk_alloc ?_ _)); refine blk_put (cs := #[.int .u8 0, .int .u8 0, .int .u8 0, .int .u8 0]) ?_ 0 _ rfl; (with_reducible repeat (first | refine blk_drewN ?_ _ | refine blk_drew ?_ | refine blk_alloc ?_ _)); refine blk_far ?_ NB118_117.out _; (with_reducible repeat (first | refine blk_drewN ?_ _ | refine blk_drew ?_ | refine blk_alloc ?_ _)); refine blk_far ?_ NB118_117.out _; (with_reducible repeat (first | refine blk_drewN ?_ _ | refine blk_drew ?_ | refine blk_alloc ?_ _)); exact BK118.out) Try.underlying23 rfl (by kernel_rfl)) rfl ?_
                  exact ⟨by first | rfl | (simp [errW_none, errW_some] <;> rfl) | (simp [*, errW_none, errW_some] <;> rfl), by repeat (first | (with_reducible first | exact HB.out | apply below_alloc | apply pw_below_drewN | apply below_drew1 | refine below_set ?_ GE117.out | refine below_set ?_ GE118.out) | exact HB.out)⟩
                · rw [if_neg c29] at H
                  have c29b0 : decide (0 < ((a0_2 - 1) % 256)) = false := decide_eq_false c29
                  clear c29
                  simp only [Option.some.injEq, Prod.mk.injEq] at H
                  obtain ⟨rfl, rfl, rfl, rfl, rfl, rfl⟩ := H
                  have hnb33 := NB117_118.out
                  have hnc33 := NB118_117.out
                  have hcz34_0 : wc.cell? ⟨gb117, 0, none⟩ = some (.int .u8 a0_0) := (blk_cell BK117.out 0).trans rfl
                  have hcz34_1 : wc.cell? ⟨gb117, 1, none⟩ = some (.int .u8 a0_1) := (blk_cell BK117.out 1).trans rfl
                  have hcz34_2 : wc.cell? ⟨gb117, 2, none⟩ = some (.int .u8 a0_2) := (blk_cell BK117.out 2).trans rfl
                  have hcz34_3 : wc.cell? ⟨gb117, 3, none⟩ = some (.int .u8 x118003_17) := (blk_cell BK117.out 3).trans rfl
                  have hfz34_0 := blk_frozen BK117.out 0
                  have hfz34_1 := blk_frozen BK117.out 1
                  have hfz34_2 := blk_frozen BK117.out 2
                  have hfz34_3 := blk_frozen BK117.out 3
                  have hcz35_0 : wc.cell? ⟨gb118, 0, none⟩ = some (.int .u8 0) := (blk_cell BK118.out 0).trans rfl
                  have hcz35_1 : wc.cell? ⟨gb118, 1, none⟩ = some (.int .u8 0) := (blk_cell BK118.out 1).trans rfl
                  have hcz35_2 : wc.cell? ⟨gb118, 2, none⟩ = some (.int .u8 0) := (blk_cell BK118.out 2).trans rfl
                  have hcz35_3 : wc.cell? ⟨gb118, 3, none⟩ = some (.int .u8 0) := (blk_cell BK118.out 3).trans rfl
                  have hfz35_0 := blk_frozen BK118.out 0
                  have hfz35_1 := blk_frozen BK118.out 1
                  have hfz35_2 := blk_frozen BK118.out 2
                  have hfz35_3 := blk_frozen BK118.out 3
                  go_wp2
                  refine bodyPost_ret (results_ctt rfl _ _ gb118 23 #[.int .u8 ((wrap64 ((Int.tmod (wrap64 ((wrap64 (a0_0)) * 2)) 256) + 1)) % 256), .int .u8 ((a0_1 - 128) % 256), .int .u8 ((a0_2 - 1) % 256), .int .u8 x118003_17] (0, 0) _ rfl (by (with_reducible repeat (first | refine blk_drewN ?_ _ | refine blk_drew ?_ | refine blk_alloc ?_ _)); refine blk_put (cs := #[.int .u8 ((wrap64 ((Int.tmod (wrap64 ((wrap64 (a0_0)) * 2)) 256) + 1)) % 256), .int .u8 ((a0_1 - 128) % 256), .int .u8 ((a0_2 - 1) % 256), .int .u8 0]) ?_ 3 _ rfl; (with_reducible repeat (first | refine blk_drewN ?_ _ | refine blk_drew ?_ | refine blk_alloc ?_ _)); refine blk_put (cs := #[.int .u8 ((wrap64 ((Int.tmod (wrap64 ((wrap64 (a0_0)) * 2)) 256) + 1)) % 256), .int .u8 ((a0_1 - 128) % 256), .int .u8 0, .int .u8 0]) ?_ 2 _ rfl; (with_reducible repeat (first | refine blk_drewN ?_ _ | refine blk_drew ?_ | refine blk_alloc ?_ _)); refine blk_put (cs := #[.int .u8 ((wrap64 ((Int.tmod (wrap64 ((wrap64 (a0_0)) * 2)) 256) + 1)) % 256), .int .u8 0, .int .u8 0, .int .u8 0]) ?_ 1 _ rfl; (with_reducible repeat (first | refine blk_drewN ?_ _ | refine blk_drew ?_ | refine blk_alloc ?_ _)); refine blk_put (cs := #[.int .u8 0, .int .u8 0, .int .u8 0, .int .u8 0]) ?_ 0 _ rfl; (with_reducible repeat (first | refine blk_drewN ?_ _ | refine blk_drew ?_ | refine blk_alloc ?_ _)); refine blk_far ?_ NB118_117.out _; (with_reducible repeat (first | refine blk_drewN ?_ _ | refine blk_drew ?_ | refine blk_alloc ?_ _)); refine blk_far ?_ NB118_117.out _; (with_reducible repeat (first | refine blk_drewN ?_ _ | refine blk_drew ?_ | refine blk_alloc ?_ _)); refine blk_far ?_ NB118_117.out _; (with_reducible repeat (first | refine blk_drewN ?_ _ | refine blk_drew ?_ | refine blk_alloc ?_ _)); exact BK118.out) Try.underlying23 rfl (by kernel_rfl)) rfl ?_
                  exact ⟨by first | rfl | (simp [errW_none, errW_some] <;> rfl) | (simp [*, errW_none, errW_some] <;> rfl), by repeat (first | (with_reducible first | exact HB.out | apply below_alloc | apply pw_below_drewN | apply below_drew1 | refine below_set ?_ GE117.out | refine below_set ?_ GE118.out) | exact HB.out)⟩
              · replace c28 := Bool.eq_false_iff.mpr c28
                subst c28
                have H1 : (if ((a0_2 - 1) % 256) > 0 then (some ((Int.tmod (wrap64 ((wrap64 (a0_0)) * 2)) 256) % 256, a0_1, (a0_2 - 1) % 256, x118003_17, (decide (a0_0 ≥ 128)), false)) else (some ((Int.tmod (wrap64 ((wrap64 (a0_0)) * 2)) 256) % 256, (a0_1 - 128) % 256, (a0_2 - 1) % 256, x118003_17, (decide (a0_0 ≥ 128)), true))) = some (r1, r2, r3, r4, r5, r6) := by rw [if_neg (show ¬ (false = true) by decide)] at H; exact H
                clear H
                have H := H1
                clear H1
                by_cases c36 : ((a0_2 - 1) % 256) > 0
                · rw [if_pos c36] at H
                  have c36b0 : decide (0 < ((a0_2 - 1) % 256)) = true := decide_eq_true c36
                  clear c36
                  simp only [Option.some.injEq, Prod.mk.injEq] at H
                  obtain ⟨rfl, rfl, rfl, rfl, rfl, rfl⟩ := H
                  have hnb37 := NB117_118.out
                  have hnc37 := NB118_117.out
                  have hcz38_0 : wc.cell? ⟨gb117, 0, none⟩ = some (.int .u8 a0_0) := (blk_cell BK117.out 0).trans rfl
                  have hcz38_1 : wc.cell? ⟨gb117, 1, none⟩ = some (.int .u8 a0_1) := (blk_cell BK117.out 1).trans rfl
                  have hcz38_2 : wc.cell? ⟨gb117, 2, none⟩ = some (.int .u8 a0_2) := (blk_cell BK117.out 2).trans rfl
                  have hcz38_3 : wc.cell? ⟨gb117, 3, none⟩ = some (.int .u8 x118003_17) := (blk_cell BK117.out 3).trans rfl
                  have hfz38_0 := blk_frozen BK117.out 0
                  have hfz38_1 := blk_frozen BK117.out 1
                  have hfz38_2 := blk_frozen BK117.out 2
                  have hfz38_3 := blk_frozen BK117.out 3
                  have hcz39_0 : wc.cell? ⟨gb118, 0, none⟩ = some (.int .u8 0) := (blk_cell BK118.out 0).trans rfl
                  have hcz39_1 : wc.cell? ⟨gb118, 1, none⟩ = some (.int .u8 0) := (blk_cell BK118.out 1).trans rfl
                  have hcz39_2 : wc.cell? ⟨gb118, 2, none⟩ = some (.int .u8 0) := (blk_cell BK118.out 2).trans rfl
                  have hcz39_3 : wc.cell? ⟨gb118, 3, none⟩ = some (.int .u8 0) := (blk_cell BK118.out 3).trans rfl
                  have hfz39_0 := blk_frozen BK118.out 0
                  have hfz39_1 := blk_frozen BK118.out 1
                  have hfz39_2 := blk_frozen BK118.out 2
                  have hfz39_3 := blk_frozen BK118.out 3
                  go_wp2
                  refine bodyPost_ret (results_ctt rfl _ _ gb118 23 #[.int .u8 ((Int.tmod (wrap64 ((wrap64 (a0_0)) * 2)) 256) % 256), .int .u8 a0_1, .int .u8 ((a0_2 - 1) % 256), .int .u8 x118003_17] (0, 0) _ rfl (by (with_reducible repeat (first | refine blk_drewN ?_ _ | refine blk_drew ?_ | refine blk_alloc ?_ _)); refine blk_put (cs := #[.int .u8 ((Int.tmod (wrap64 ((wrap64 (a0_0)) * 2)) 256) % 256), .int .u8 a0_1, .int .u8 ((a0_2 - 1) % 256), .int .u8 0]) ?_ 3 _ rfl; (with_reducible repeat (first | refine blk_drewN ?_ _ | refine blk_drew ?_ | refine blk_alloc ?_ _)); refine blk_put (cs := #[.int .u8 ((Int.tmod (wrap64 ((wrap64 (a0_0)) * 2)) 256) % 256), .int .u8 a0_1, .int .u8 0, .int .u8 0]) ?_ 2 _ rfl; (with_reducible repeat (first | refine blk_drewN ?_ _ | refine blk_drew ?_ | refine blk_alloc ?_ _)); refine blk_put (cs := #[.int .u8 ((Int.tmod (wrap64 ((wrap64 (a0_0)) * 2)) 256) % 256), .int .u8 0, .int .u8 0, .int .u8 0]) ?_ 1 _ rfl; (with_reducible repeat (first | refine blk_drewN ?_ _ | refine blk_drew ?_ | refine blk_alloc ?_ _)); refine blk_put (cs := #[.int .u8 0, .int .u8 0, .int .u8 0, .int .u8 0]) ?_ 0 _ rfl; (with_reducible repeat (first | refine blk_drewN ?_ _ | refine blk_drew ?_ | refine blk_alloc ?_ _)); refine blk_far ?_ NB118_117.out _; (with_reducible repeat (first | refine blk_drewN ?_ _ | refine blk_drew ?_ | refine blk_alloc ?_ _)); refine blk_far ?_ NB118_117.out _; (with_reducible repeat (first | refine blk_drewN ?_ _ | refine blk_drew ?_ | refine blk_alloc ?_ _)); exact BK118.out) Try.underlying23 rfl (by kernel_rfl)) rfl ?_
                  exact ⟨by first | rfl | (simp [errW_none, errW_some] <;> rfl) | (simp [*, errW_none, errW_some] <;> rfl), by repeat (first | (with_reducible first | exact HB.out | apply below_alloc | apply pw_below_drewN | apply below_drew1 | refine below_set ?_ GE117.out | refine below_set ?_ GE118.out) | exact HB.out)⟩
                · rw [if_neg c36] at H
                  have c36b0 : decide (0 < ((a0_2 - 1) % 256)) = false := decide_eq_false c36
                  clear c36
                  simp only [Option.some.injEq, Prod.mk.injEq] at H
                  obtain ⟨rfl, rfl, rfl, rfl, rfl, rfl⟩ := H
                  have hnb40 := NB117_118.out
                  have hnc40 := NB118_117.out
                  have hcz41_0 : wc.cell? ⟨gb117, 0, none⟩ = some (.int .u8 a0_0) := (blk_cell BK117.out 0).trans rfl
                  have hcz41_1 : wc.cell? ⟨gb117, 1, none⟩ = some (.int .u8 a0_1) := (blk_cell BK117.out 1).trans rfl
                  have hcz41_2 : wc.cell? ⟨gb117, 2, none⟩ = some (.int .u8 a0_2) := (blk_cell BK117.out 2).trans rfl
                  have hcz41_3 : wc.cell? ⟨gb117, 3, none⟩ = some (.int .u8 x118003_17) := (blk_cell BK117.out 3).trans rfl
                  have hfz41_0 := blk_frozen BK117.out 0
                  have hfz41_1 := blk_frozen BK117.out 1
                  have hfz41_2 := blk_frozen BK117.out 2
                  have hfz41_3 := blk_frozen BK117.out 3
                  have hcz42_0 : wc.cell? ⟨gb118, 0, none⟩ = some (.int .u8 0) := (blk_cell BK118.out 0).trans rfl
                  have hcz42_1 : wc.cell? ⟨gb118, 1, none⟩ = some (.int .u8 0) := (blk_cell BK118.out 1).trans rfl
                  have hcz42_2 : wc.cell? ⟨gb118, 2, none⟩ = some (.int .u8 0) := (blk_cell BK118.out 2).trans rfl
                  have hcz42_3 : wc.cell? ⟨gb118, 3, none⟩ = some (.int .u8 0) := (blk_cell BK118.out 3).trans rfl
                  have hfz42_0 := blk_frozen BK118.out 0
                  have hfz42_1 := blk_frozen BK118.out 1
                  have hfz42_2 := blk_frozen BK118.out 2
                  have hfz42_3 := blk_frozen BK118.out 3
                  go_wp2
                  refine bodyPost_ret (results_ctt rfl _ _ gb118 23 #[.int .u8 ((Int.tmod (wrap64 ((wrap64 (a0_0)) * 2)) 256) % 256), .int .u8 ((a0_1 - 128) % 256), .int .u8 ((a0_2 - 1) % 256), .int .u8 x118003_17] (0, 0) _ rfl (by (with_reducible repeat (first | refine blk_drewN ?_ _ | refine blk_drew ?_ | refine blk_alloc ?_ _)); refine blk_put (cs := #[.int .u8 ((Int.tmod (wrap64 ((wrap64 (a0_0)) * 2)) 256) % 256), .int .u8 ((a0_1 - 128) % 256), .int .u8 ((a0_2 - 1) % 256), .int .u8 0]) ?_ 3 _ rfl; (with_reducible repeat (first | refine blk_drewN ?_ _ | refine blk_drew ?_ | refine blk_alloc ?_ _)); refine blk_put (cs := #[.int .u8 ((Int.tmod (wrap64 ((wrap64 (a0_0)) * 2)) 256) % 256), .int .u8 ((a0_1 - 128) % 256), .int .u8 0, .int .u8 0]) ?_ 2 _ rfl; (with_reducible repeat (first | refine blk_drewN ?_ _ | refine blk_drew ?_ | refine blk_alloc ?_ _)); refine blk_put (cs := #[.int .u8 ((Int.tmod (wrap64 ((wrap64 (a0_0)) * 2)) 256) % 256), .int .u8 0, .int .u8 0, .int .u8 0]) ?_ 1 _ rfl; (with_reducible repeat (first | refine blk_drewN ?_ _ | refine blk_drew ?_ | refine blk_alloc ?_ _)); refine blk_put (cs := #[.int .u8 0, .int .u8 0, .int .u8 0, .int .u8 0]) ?_ 0 _ rfl; (with_reducible repeat (first | refine blk_drewN ?_ _ | refine blk_drew ?_ | refine blk_alloc ?_ _)); refine blk_far ?_ NB118_117.out _; (with_reducible repeat (first | refine blk_drewN ?_ _ | refine blk_drew ?_ | refine blk_alloc ?_ _)); refine blk_far ?_ NB118_117.out _; (with_reducible repeat (first | refine blk_drewN ?_ _ | refine blk_drew ?_ | refine blk_alloc ?_ _)); refine blk_far ?_ NB118_117.out _; (with_reducible repeat (first | refine blk_drewN ?_ _ | refine blk_drew ?_ | refine blk_alloc ?_ _)); exact BK118.out) Try.underlying23 rfl (by kernel_rfl)) rfl ?_
                  exact ⟨by first | rfl | (simp [errW_none, errW_some] <;> rfl) | (simp [*, errW_none, errW_some] <;> rfl), by repeat (first | (with_reducible first | exact HB.out | apply below_alloc | apply pw_below_drewN | apply below_drew1 | refine below_set ?_ GE117.out | refine below_set ?_ GE118.out) | exact HB.out)⟩
            · replace c27 := Bool.eq_false_iff.mpr c27
              subst c27
              have H1 : (some (a0_0, a0_1, a0_2, x118003_17, (decide (a0_0 ≥ 128)), false)) = some (r1, r2, r3, r4, r5, r6) := by rw [if_neg (show ¬ (false = true) by decide)] at H; exact H
              clear H
              have H := H1
              clear H1
              simp only [Option.some.injEq, Prod.mk.injEq] at H
              obtain ⟨rfl, rfl, rfl, rfl, rfl, rfl⟩ := H
              have hnb43 := NB117_118.out
              have hnc43 := NB118_117.out
              have hcz44_0 : wc.cell? ⟨gb117, 0, none⟩ = some (.int .u8 a0_0) := (blk_cell BK117.out 0).trans rfl
              have hcz44_1 : wc.cell? ⟨gb117, 1, none⟩ = some (.int .u8 a0_1) := (blk_cell BK117.out 1).trans rfl
              have hcz44_2 : wc.cell? ⟨gb117, 2, none⟩ = some (.int .u8 a0_2) := (blk_cell BK117.out 2).trans rfl
              have hcz44_3 : wc.cell? ⟨gb117, 3, none⟩ = some (.int .u8 x118003_17) := (blk_cell BK117.out 3).trans rfl
              have hfz44_0 := blk_frozen BK117.out 0
              have hfz44_1 := blk_frozen BK117.out 1
              have hfz44_2 := blk_frozen BK117.out 2
              have hfz44_3 := blk_frozen BK117.out 3
              have hcz45_0 : wc.cell? ⟨gb118, 0, none⟩ = some (.int .u8 0) := (blk_cell BK118.out 0).trans rfl
              have hcz45_1 : wc.cell? ⟨gb118, 1, none⟩ = some (.int .u8 0) := (blk_cell BK118.out 1).trans rfl
              have hcz45_2 : wc.cell? ⟨gb118, 2, none⟩ = some (.int .u8 0) := (blk_cell BK118.out 2).trans rfl
              have hcz45_3 : wc.cell? ⟨gb118, 3, none⟩ = some (.int .u8 0) := (blk_cell BK118.out 3).trans rfl
              have hfz45_0 := blk_frozen BK118.out 0
              have hfz45_1 := blk_frozen BK118.out 1
              have hfz45_2 := blk_frozen BK118.out 2
              have hfz45_3 := blk_frozen BK118.out 3
              go_wp2
              refine bodyPost_ret (results_ctt rfl _ _ gb118 23 #[.int .u8 a0_0, .int .u8 a0_1, .int .u8 a0_2, .int .u8 x118003_17] (0, 0) _ rfl (by (with_reducible repeat (first | refine blk_drewN ?_ _ | refine blk_drew ?_ | refine blk_alloc ?_ _)); refine blk_put (cs := #[.int .u8 a0_0, .int .u8 a0_1, .int .u8 a0_2, .int .u8 0]) ?_ 3 _ rfl; (with_reducible repeat (first | refine blk_drewN ?_ _ | refine blk_drew ?_ | refine blk_alloc ?_ _)); refine blk_put (cs := #[.int .u8 a0_0, .int .u8 a0_1, .int .u8 0, .int .u8 0]) ?_ 2 _ rfl; (with_reducible repeat (first | refine blk_drewN ?_ _ | refine blk_drew ?_ | refine blk_alloc ?_ _)); refine blk_put (cs := #[.int .u8 a0_0, .int .u8 0, .int .u8 0, .int .u8 0]) ?_ 1 _ rfl; (with_reducible repeat (first | refine blk_drewN ?_ _ | refine blk_drew ?_ | refine blk_alloc ?_ _)); refine blk_put (cs := #[.int .u8 0, .int .u8 0, .int .u8 0, .int .u8 0]) ?_ 0 _ rfl; (with_reducible repeat (first | refine blk_drewN ?_ _ | refine blk_drew ?_ | refine blk_alloc ?_ _)); exact BK118.out) Try.underlying23 rfl (by kernel_rfl)) rfl ?_
              exact ⟨by first | rfl | (simp [errW_none, errW_some] <;> rfl) | (simp [*, errW_none, errW_some] <;> rfl), by repeat (first | (with_reducible first | exact HB.out | apply below_alloc | apply pw_below_drewN | apply below_drew1 | refine below_set ?_ GE117.out | refine below_set ?_ GE118.out) | exact HB.out)⟩

end Go.Proofs.Ytbceegmpdgadoaa.P
