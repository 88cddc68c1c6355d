/- Contracts of Go functions of this seat: each Lean function here is what the Go function of its name answers, in every memory; no condition but the equations that each theorem states. Written by a program of this session (wip/given.py); Lean checks it. -/
import Derived.Test.YtofcicdomkaigaaPx0
import Derived.Test.YtofcicdomkaigaaPx2
import Derived.Test.YtofcicdomkaigaaPx3
import Derived.Test.YtofcicdomkaigaaPx6
namespace Go.Proofs.Ytofcicdomkaigaa.P
open Go.RowKit Go.Proofs.YtofcicdomkaigaaW.PrintWords Go.Proofs.YtofcicdomkaigaaW.PrintLast Go.Proofs.YtofcicdomkaigaaW.PrintMore
attribute [local go_sem] max2_int min2_int max_two min_two max_three min_three max_four min_four   -- for this text's walks alone
set_option linter.unusedVariables false
set_option linter.unusedSimpArgs false

/-! ### whirligiglaw19_DmaWhole: function 7 -/
mutual
def whirligiglaw19_DmaWhole.l0 : Nat → Int → Bool → Int → Bool → Int → Int → Int → Int → Option (Bool)
  | 0, _, _, _, _, _, _, _, _ => none
  | k + 1, x0, x3, x5, x206000, x206001, x206002, x206003, x206004 => if x5 ≤ 170 then ((dma_Step.f x206000 x206001 x206002 x206003 x206004).bind fun bt207 => (if x5 ≥ 3 then (whirligiglaw19_DmaWhole.j1 k x0 x3 x5 bt207.2.2.2.2.2.1 bt207.2.2.2.2.2.2.1 bt207.2.2.2.2.2.2.2 (bt207.2.2.2.2.2.2.2 != (decide (x5 ≤ 162))) bt207.1 bt207.2.1 bt207.2.2.1 bt207.2.2.2.1 bt207.2.2.2.2.1) else (whirligiglaw19_DmaWhole.j1 k x0 x3 x5 bt207.2.2.2.2.2.1 bt207.2.2.2.2.2.2.1 bt207.2.2.2.2.2.2.2 (bt207.2.2.2.2.2.2.2 != false) bt207.1 bt207.2.1 bt207.2.2.1 bt207.2.2.2.1 bt207.2.2.2.2.1))) else (if x3 = true then (if x206000 = true then (some false) else (if x206003 = 0 then ((dma_Read.f x206000 x206001 x206002 x206003 x206004).bind fun t206 => (some (t206 == x0))) else (some false))) else (some false))
def whirligiglaw19_DmaWhole.j1 : Nat → Int → Bool → Int → Int → Int → Bool → Bool → Bool → Int → Int → Int → Int → Option (Bool)
  | 0, _, _, _, _, _, _, _, _, _, _, _, _ => none
  | k + 1, x0, x3, x5, x7, x8, x9, x33, x206000, x206001, x206002, x206003, x206004 => if x33 = true then (some false) else (if x9 = true then (if (wrap64 (x8)) = (wrap64 (x5 - 3)) then ((dma_Source.f x0 x8).bind fun t216 => (if x7 = t216 then (if x7 ≥ 57344 then (some false) else (whirligiglaw19_DmaWhole.l0 k x0 x3 (wrap64 (x5 + 1)) x206000 x206001 x206002 x206003 x206004)) else (some false))) else (some false)) else (whirligiglaw19_DmaWhole.l0 k x0 x3 (wrap64 (x5 + 1)) x206000 x206001 x206002 x206003 x206004))
end
def whirligiglaw19_DmaWhole.f (k : Nat) (a0 : Int) : Option (Bool) := (whirligiglaw19_shown.f k).bind fun t199 => ((dma_Write.f false 0 0 0 0 a0).bind fun bt200 => (whirligiglaw19_DmaWhole.l0 k a0 t199 1 bt200.1 bt200.2.1 bt200.2.2.1 bt200.2.2.2.1 bt200.2.2.2.2))
theorem whirligiglaw19_DmaWhole.mono_l : ∀ k, (∀ y0 y1 y2 y3 y4 y5 y6 y7, LeO (whirligiglaw19_DmaWhole.l0 k y0 y1 y2 y3 y4 y5 y6 y7) (whirligiglaw19_DmaWhole.l0 (k + 1) y0 y1 y2 y3 y4 y5 y6 y7)) ∧ (∀ y0 y1 y2 y3 y4 y5 y6 y7 y8 y9 y10 y11, LeO (whirligiglaw19_DmaWhole.j1 k y0 y1 y2 y3 y4 y5 y6 y7 y8 y9 y10 y11) (whirligiglaw19_DmaWhole.j1 (k + 1) y0 y1 y2 y3 y4 y5 y6 y7 y8 y9 y10 y11))
  | 0 => ⟨fun _ _ _ _ _ _ _ _ r h => by simp [whirligiglaw19_DmaWhole.l0] at h, fun _ _ _ _ _ _ _ _ _ _ _ _ r h => by simp [whirligiglaw19_DmaWhole.j1] at h⟩
  | k + 1 => by
    obtain ⟨ih0, ih1⟩ := whirligiglaw19_DmaWhole.mono_l k
    refine ⟨?_, ?_⟩
    · intro y0 y1 y2 y3 y4 y5 y6 y7
      unfold whirligiglaw19_DmaWhole.l0
      repeat' first
      | (with_reducible exact ih0 _ _ _ _ _ _ _ _)
      | (with_reducible exact ih1 _ _ _ _ _ _ _ _ _ _ _ _)
      | (with_reducible exact whirligiglaw19_shown.mono _)
      | (with_reducible exact LeO.refl _)
      | (with_reducible exact LeO.none _)
      | (with_reducible refine LeO.ite ?_ ?_)
      | (with_reducible refine LeO.bind ?_ (fun _ => ?_))
      | exact ih0 _ _ _ _ _ _ _ _
      | exact ih1 _ _ _ _ _ _ _ _ _ _ _ _
      | exact whirligiglaw19_shown.mono _
      | exact LeO.none _
      | refine LeO.ite ?_ ?_
      | refine LeO.bind ?_ (fun _ => ?_)
    · intro y0 y1 y2 y3 y4 y5 y6 y7 y8 y9 y10 y11
      unfold whirligiglaw19_DmaWhole.j1
      repeat' first
      | (with_reducible exact ih0 _ _ _ _ _ _ _ _)
      | (with_reducible exact ih1 _ _ _ _ _ _ _ _ _ _ _ _)
      | (with_reducible exact whirligiglaw19_shown.mono _)
      | (with_reducible exact LeO.refl _)
      | (with_reducible exact LeO.none _)
      | (with_reducible refine LeO.ite ?_ ?_)
      | (with_reducible refine LeO.bind ?_ (fun _ => ?_))
      | exact ih0 _ _ _ _ _ _ _ _
      | exact ih1 _ _ _ _ _ _ _ _ _ _ _ _
      | exact whirligiglaw19_shown.mono _
      | exact LeO.none _
      | refine LeO.ite ?_ ?_
      | refine LeO.bind ?_ (fun _ => ?_)
theorem whirligiglaw19_DmaWhole.mono : ∀ a0 k, LeO (whirligiglaw19_DmaWhole.f k a0) (whirligiglaw19_DmaWhole.f (k + 1) a0) := by
  intro a0 k
  obtain ⟨ih0, ih1⟩ := whirligiglaw19_DmaWhole.mono_l k
  unfold whirligiglaw19_DmaWhole.f
  repeat' first
      | (with_reducible exact ih0 _ _ _ _ _ _ _ _)
      | (with_reducible exact ih1 _ _ _ _ _ _ _ _ _ _ _ _)
      | (with_reducible exact whirligiglaw19_shown.mono _)
      | (with_reducible exact LeO.refl _)
      | (with_reducible exact LeO.none _)
      | (with_reducible refine LeO.ite ?_ ?_)
      | (with_reducible refine LeO.bind ?_ (fun _ => ?_))
      | exact ih0 _ _ _ _ _ _ _ _
      | exact ih1 _ _ _ _ _ _ _ _ _ _ _ _
      | exact whirligiglaw19_shown.mono _
      | exact LeO.none _
      | refine LeO.ite ?_ ?_
      | refine LeO.bind ?_ (fun _ => ?_)
set_option maxHeartbeats 8000000 in
set_option maxRecDepth 100000 in
theorem whirligiglaw19_DmaWhole.calls (k : Nat) (a0 : Int) (r : Bool) (w : World) (h : whirligiglaw19_DmaWhole.f k a0 = some r) :
    Calls Try.prog 7 #[.int .u8 a0] w fun e w' => e = .returned (.bool r) ∧ Below w.heap.size w w' := by
  have hu27 := Try.underlying27
  have HB := Aside0.mk (Below.refl w.heap.size w)
  have H : ((whirligiglaw19_shown.f k).bind fun t199 => ((dma_Write.f false 0 0 0 0 a0).bind fun bt200 => (whirligiglaw19_DmaWhole.l0 k a0 t199 1 bt200.1 bt200.2.1 bt200.2.2.1 bt200.2.2.2.1 bt200.2.2.2.2))) = some r := h
  clear h
  replace H := Option.bind_eq_some_iff.mp H
  obtain ⟨t199, A20, H⟩ := H
  replace H : ((dma_Write.f false 0 0 0 0 a0).bind fun bt200 => (whirligiglaw19_DmaWhole.l0 k a0 t199 1 bt200.1 bt200.2.1 bt200.2.2.1 bt200.2.2.2.1 bt200.2.2.2.2)) = some r := H
  have A2 := Aside0.mk A20
  clear A20
  replace H := Option.bind_eq_some_iff.mp H
  obtain ⟨⟨t200, t201, t202, t203, t204⟩, A30, H⟩ := H
  replace H : (whirligiglaw19_DmaWhole.l0 k a0 t199 1 t200 t201 t202 t203 t204) = some r := H
  have A3 := Aside0.mk A30
  clear A30
  have H' := Aside0.mk H
  clear H
  go_enter Try.func7, Try.ntmps7
  go_wp2_with (first | ((with_reducible refine gate_callee (f := 8) rfl ?_); refine goesL_ (some 10) rfl rfl Try.func8 (by kernel_rfl) rfl #[] rfl (by (try simp only [List.map_toArray, List.map_cons, List.map_nil]); first | done | rfl | (simp only [List.length_drop, List.length_take]; rfl)) ?_; (with_reducible refine (whirligiglaw19_shown.calls k  t199 _ A2.out).mono ?_); rintro e w4 ⟨rfl, hb⟩; refine ⟨_, rfl, ?_⟩; have n0_ := Aside0.mk (below_step (by repeat (first | (with_reducible first | exact HB.out | apply below_alloc | apply pw_below_drewN | apply below_drew1) | exact HB.out)) hb); clear HB; have HB := n0_; clear n0_; (try clear hb); (try clear hb2); (try clear hk); (try clear hi)) | ((with_reducible refine gate_callee (f := 13) rfl ?_); refine goesL_ (some 13) rfl rfl Try.func13 (by kernel_rfl) rfl #[.agg #[.bool false, .int .u8 0, .int .u8 0, .int .u8 0, .int .u8 0], .int .u8 a0] rfl (by (try simp only [List.map_toArray, List.map_cons, List.map_nil]); first | done | rfl | (simp only [List.length_drop, List.length_take]; rfl)) ?_; (with_reducible refine (dma_Write.calls false 0 0 0 0 a0 t200 t201 t202 t203 t204 _ A3.out).mono ?_); rintro e w5 ⟨rfl, hb⟩; refine ⟨_, rfl, ?_⟩; have n0_ := Aside0.mk (below_step (by repeat (first | (with_reducible first | exact HB.out | apply below_alloc | apply pw_below_drewN | apply below_drew1) | exact HB.out)) hb); clear HB; have HB := n0_; clear n0_; (try clear hb); (try clear hb2); (try clear hk); (try clear hi)) | ((with_reducible refine gate_dst (N := 4) rfl ?_); refine box_event ?hg (N := 4) ?hd (cs := #[.bool false, .int .u8 0, .int .u8 0, .int .u8 0, .int .u8 0]) (t := 27) ?hr ?_; (case hd => rfl); (case hg => rfl); (case hr => first | (go_simp; done) | (go_simp; rfl)); intro gb205 hg w6 hbox hb; have n0_ := Aside0.mk (below_step (by repeat (first | (with_reducible first | exact HB.out | apply below_alloc | apply pw_below_drewN | apply below_drew1) | exact HB.out)) hb); have n1_ := Aside0.mk (hbox); have n2_ := Aside0.mk ((by rw [hg]; exact (below_size (by repeat (first | (with_reducible first | exact HB.out | apply below_alloc | apply pw_below_drewN | apply below_drew1) | exact HB.out))) : w.heap.size ≤ gb205)); have n3_ := Aside0.mk ((by rw [hg]; exact (below_size (by repeat (first | (with_reducible first | exact HB.out | apply below_alloc | apply pw_below_drewN | apply below_drew1) | exact HB.out))) : w.heap.size ≤ gb205)); clear HB; have HB := n0_; have BK205 := n1_; have GW205 := n2_; have GE205 := n3_; clear n0_ n1_ n2_ n3_; clear hb hbox hg; have hcz7_0 : w6.cell? ⟨gb205, 0, none⟩ = some (.bool false) := (blk_cell BK205.out 0).trans rfl; have hcz7_1 : w6.cell? ⟨gb205, 1, none⟩ = some (.int .u8 0) := (blk_cell BK205.out 1).trans rfl; have hcz7_2 : w6.cell? ⟨gb205, 2, none⟩ = some (.int .u8 0) := (blk_cell BK205.out 2).trans rfl; have hcz7_3 : w6.cell? ⟨gb205, 3, none⟩ = some (.int .u8 0) := (blk_cell BK205.out 3).trans rfl; have hcz7_4 : w6.cell? ⟨gb205, 4, none⟩ = some (.int .u8 0) := (blk_cell BK205.out 4).trans rfl; have hfz7_0 := blk_frozen BK205.out 0; have hfz7_1 := blk_frozen BK205.out 1; have hfz7_2 := blk_frozen BK205.out 2; have hfz7_3 := blk_frozen BK205.out 3; have hfz7_4 := blk_frozen BK205.out 4))
  go_loopg [5] k (fun kq v5 w' => ∃ (x5_1 : Int) (x206000_1 : Bool) (x206001_1 : Int) (x206002_1 : Int) (x206003_1 : Int) (x206004_1 : Int), v5 = .int .i64 x5_1 ∧ Aside0 (whirligiglaw19_DmaWhole.l0 kq a0 t199 x5_1 x206000_1 x206001_1 x206002_1 x206003_1 x206004_1 = some r) ∧ Aside0 (kq ≤ k) ∧ Aside0 (w'.heap[gb205]? = some (.cells #[.bool x206000_1, .int .u8 x206001_1, .int .u8 x206002_1, .int .u8 x206003_1, .int .u8 x206004_1] 27 (0, 0))) ∧ Aside0 (Below w.heap.size w w'))
  case atStart => exact ⟨(1), (t200), (t201), (t202), (t203), (t204), (by first | rfl | (simp; done) | (simp [*]; done)), H', ⟨Nat.le_refl _⟩, ⟨by (with_reducible repeat (first | refine blk_drewN ?_ _ | refine blk_drew ?_ | refine blk_alloc ?_ _)); refine blk_put (cs := #[.bool t200, .int .u8 t201, .int .u8 t202, .int .u8 t203, .int .u8 0]) ?_ 4 _ rfl; (with_reducible repeat (first | refine blk_drewN ?_ _ | refine blk_drew ?_ | refine blk_alloc ?_ _)); refine blk_put (cs := #[.bool t200, .int .u8 t201, .int .u8 t202, .int .u8 0, .int .u8 0]) ?_ 3 _ rfl; (with_reducible repeat (first | refine blk_drewN ?_ _ | refine blk_drew ?_ | refine blk_alloc ?_ _)); refine blk_put (cs := #[.bool t200, .int .u8 t201, .int .u8 0, .int .u8 0, .int .u8 0]) ?_ 2 _ rfl; (with_reducible repeat (first | refine blk_drewN ?_ _ | refine blk_drew ?_ | refine blk_alloc ?_ _)); refine blk_put (cs := #[.bool t200, .int .u8 0, .int .u8 0, .int .u8 0, .int .u8 0]) ?_ 1 _ rfl; (with_reducible repeat (first | refine blk_drewN ?_ _ | refine blk_drew ?_ | refine blk_alloc ?_ _)); refine blk_put (cs := #[.bool false, .int .u8 0, .int .u8 0, .int .u8 0, .int .u8 0]) ?_ 0 _ rfl; (with_reducible repeat (first | refine blk_drewN ?_ _ | refine blk_drew ?_ | refine blk_alloc ?_ _)); exact BK205.out⟩, ⟨by repeat (first | (with_reducible first | exact HB.out | apply below_alloc | apply pw_below_drewN | apply below_drew1 | refine below_set ?_ GE205.out) | exact HB.out)⟩⟩
  case round =>
    clear H'
    try clear c1
    try clear p2
    try clear c7
    try clear hcz7_0
    try clear hcz7_1
    try clear hcz7_2
    try clear hcz7_3
    try clear hcz7_4
    try clear hfz7_0
    try clear hfz7_1
    try clear hfz7_2
    try clear hfz7_3
    try clear hfz7_4
    obtain ⟨x5_1, x206000_1, x206001_1, x206002_1, x206003_1, x206004_1, rfl, HA, HK1, BK205, HB⟩ := hrel
    cases gk with
    | zero => exact absurd HA.out (by simp [whirligiglaw19_DmaWhole.l0])
    | succ k1 =>
      have H := HA.out
      clear HA
      simp only [whirligiglaw19_DmaWhole.l0] at H
      by_cases c8 : x5_1 ≤ 170
      · rw [if_pos c8] at H
        have c8b0 : decide (x5_1 ≤ 170) = true := decide_eq_true c8
        clear c8
        replace H := Option.bind_eq_some_iff.mp H
        obtain ⟨⟨t207, t208, t209, t210, t211, t212, t213, t214⟩, A90, H⟩ := H
        replace H : (if x5_1 ≥ 3 then (whirligiglaw19_DmaWhole.j1 k1 a0 t199 x5_1 t212 t213 t214 (t214 != (decide (x5_1 ≤ 162))) t207 t208 t209 t210 t211) else (whirligiglaw19_DmaWhole.j1 k1 a0 t199 x5_1 t212 t213 t214 (t214 != false) t207 t208 t209 t210 t211)) = some r := H
        have A9 := Aside0.mk A90
        clear A90
        have HC10 := Aside0.mk H
        clear H
        have hcz11_0 : wr.cell? ⟨gb205, 0, none⟩ = some (.bool x206000_1) := (blk_cell BK205.out 0).trans rfl
        have hcz11_1 : wr.cell? ⟨gb205, 1, none⟩ = some (.int .u8 x206001_1) := (blk_cell BK205.out 1).trans rfl
        have hcz11_2 : wr.cell? ⟨gb205, 2, none⟩ = some (.int .u8 x206002_1) := (blk_cell BK205.out 2).trans rfl
        have hcz11_3 : wr.cell? ⟨gb205, 3, none⟩ = some (.int .u8 x206003_1) := (blk_cell BK205.out 3).trans rfl
        have hcz11_4 : wr.cell? ⟨gb205, 4, none⟩ = some (.int .u8 x206004_1) := (blk_cell BK205.out 4).trans rfl
        have hfz11_0 := blk_frozen BK205.out 0
        have hfz11_1 := blk_frozen BK205.out 1
        have hfz11_2 := blk_frozen BK205.out 2
        have hfz11_3 := blk_frozen BK205.out 3
        have hfz11_4 := blk_frozen BK205.out 4
        go_upto_region 8 with (first | ((with_reducible refine gate_callee (f := 11) rfl ?_); refine goesL_ (some 20) rfl rfl Try.func11 (by kernel_rfl) rfl #[.agg #[.bool x206000_1, .int .u8 x206001_1, .int .u8 x206002_1, .int .u8 x206003_1, .int .u8 x206004_1]] rfl (by (try simp only [List.map_toArray, List.map_cons, List.map_nil]); first | done | rfl | (simp only [List.length_drop, List.length_take]; rfl)) ?_; (with_reducible refine (dma_Step.calls x206000_1 x206001_1 x206002_1 x206003_1 x206004_1 t207 t208 t209 t210 t211 t212 t213 t214 _ A9.out).mono ?_); rintro e w12 ⟨rfl, hb⟩; refine ⟨_, rfl, ?_⟩; have n0_ := Aside0.mk (blk_below (g := gb205) (o := .cells #[.bool x206000_1, .int .u8 x206001_1, .int .u8 x206002_1, .int .u8 x206003_1, .int .u8 x206004_1] 27 (0, 0)) (by (with_reducible repeat (first | refine blk_drewN ?_ _ | refine blk_drew ?_ | refine blk_alloc ?_ _)); exact BK205.out) hb); have n1_ := Aside0.mk (below_step (by repeat (first | (with_reducible first | exact HB.out | apply below_alloc | apply pw_below_drewN | apply below_drew1 | refine below_set ?_ GE205.out) | exact HB.out)) hb); clear BK205; clear HB; have BK205 := n0_; have HB := n1_; clear n0_ n1_; (try clear hb); (try clear hb2); (try clear hk); (try clear hi)) | ((with_reducible refine gate_dst (N := 6) rfl ?_); refine box_event ?hg (N := 6) ?hd (cs := #[.bool false, .int .u8 0, .int .u8 0, .int .u8 0, .int .u8 0]) (t := 27) ?hr ?_; (case hd => rfl); (case hg => rfl); (case hr => first | (go_simp; done) | (go_simp; rfl)); intro gb215 hg w13 hbox hb; have n0_ := Aside0.mk (blk_below (g := gb205) (o := .cells #[.bool x206000_1, .int .u8 x206001_1, .int .u8 x206002_1, .int .u8 x206003_1, .int .u8 x206004_1] 27 (0, 0)) (by (with_reducible repeat (first | refine blk_drewN ?_ _ | refine blk_drew ?_ | refine blk_alloc ?_ _)); exact BK205.out) hb); have n1_ := Aside0.mk (below_step (by repeat (first | (with_reducible first | exact HB.out | apply below_alloc | apply pw_below_drewN | apply below_drew1 | refine below_set ?_ GE205.out) | exact HB.out)) hb); have n2_ := Aside0.mk (hbox); have n3_ := Aside0.mk ((by rw [hg]; exact (below_size (by repeat (first | (with_reducible first | exact HB.out | apply below_alloc | apply pw_below_drewN | apply below_drew1 | refine below_set ?_ GE205.out) | exact HB.out))) : w.heap.size ≤ gb215)); have n4_ := Aside0.mk ((by rw [hg]; exact (below_size (by repeat (first | (with_reducible first | exact HB.out | apply below_alloc | apply pw_below_drewN | apply below_drew1 | refine below_set ?_ GE205.out) | exact HB.out))) : w.heap.size ≤ gb215)); have n5_ := Aside0.mk ((by rw [hg]; exact Nat.ne_of_lt (blk_lt (g := gb205) (o := .cells #[.bool x206000_1, .int .u8 x206001_1, .int .u8 x206002_1, .int .u8 x206003_1, .int .u8 x206004_1] 27 (0, 0)) (by (with_reducible repeat (first | refine blk_drewN ?_ _ | refine blk_drew ?_ | refine blk_alloc ?_ _)); exact BK205.out)) : gb205 ≠ gb215)); have n6_ := Aside0.mk ((by rw [hg]; exact Nat.ne_of_gt (blk_lt (g := gb205) (o := .cells #[.bool x206000_1, .int .u8 x206001_1, .int .u8 x206002_1, .int .u8 x206003_1, .int .u8 x206004_1] 27 (0, 0)) (by (with_reducible repeat (first | refine blk_drewN ?_ _ | refine blk_drew ?_ | refine blk_alloc ?_ _)); exact BK205.out)) : gb215 ≠ gb205)); clear BK205; clear HB; have BK205 := n0_; have HB := n1_; have BK215 := n2_; have GW215 := n3_; have GE215 := n4_; have NB205_215 := n5_; have NB215_205 := n6_; clear n0_ n1_ n2_ n3_ n4_ n5_ n6_; clear hb hbox hg; have hnb14 := NB215_205.out; have hnc14 := NB205_215.out; have hcz15_0 : w13.cell? ⟨gb215, 0, none⟩ = some (.bool false) := (blk_cell BK215.out 0).trans rfl; have hcz15_1 : w13.cell? ⟨gb215, 1, none⟩ = some (.int .u8 0) := (blk_cell BK215.out 1).trans rfl; have hcz15_2 : w13.cell? ⟨gb215, 2, none⟩ = some (.int .u8 0) := (blk_cell BK215.out 2).trans rfl; have hcz15_3 : w13.cell? ⟨gb215, 3, none⟩ = some (.int .u8 0) := (blk_cell BK215.out 3).trans rfl; have hcz15_4 : w13.cell? ⟨gb215, 4, none⟩ = some (.int .u8 0) := (blk_cell BK215.out 4).trans rfl; have hfz15_0 := blk_frozen BK215.out 0; have hfz15_1 := blk_frozen BK215.out 1; have hfz15_2 := blk_frozen BK215.out 2; have hfz15_3 := blk_frozen BK215.out 3; have hfz15_4 := blk_frozen BK215.out 4; have hcz16_0 : w13.cell? ⟨gb205, 0, none⟩ = some (.bool x206000_1) := (blk_cell BK205.out 0).trans rfl; have hcz16_1 : w13.cell? ⟨gb205, 1, none⟩ = some (.int .u8 x206001_1) := (blk_cell BK205.out 1).trans rfl; have hcz16_2 : w13.cell? ⟨gb205, 2, none⟩ = some (.int .u8 x206002_1) := (blk_cell BK205.out 2).trans rfl; have hcz16_3 : w13.cell? ⟨gb205, 3, none⟩ = some (.int .u8 x206003_1) := (blk_cell BK205.out 3).trans rfl; have hcz16_4 : w13.cell? ⟨gb205, 4, none⟩ = some (.int .u8 x206004_1) := (blk_cell BK205.out 4).trans rfl; have hfz16_0 := blk_frozen BK205.out 0; have hfz16_1 := blk_frozen BK205.out 1; have hfz16_2 := blk_frozen BK205.out 2; have hfz16_3 := blk_frozen BK205.out 3; have hfz16_4 := blk_frozen BK205.out 4))
        (try simp only [Act.put, List.setIfInBounds_toArray, List.set_cons_zero, List.set_cons_succ])
        go_cut [33] (fun v33 wc => ∃ (kq : Nat) (x33_9 : Bool), v33 = .bool x33_9 ∧ Aside0 (whirligiglaw19_DmaWhole.j1 kq a0 t199 x5_1 t212 t213 t214 x33_9 t207 t208 t209 t210 t211 = some r) ∧ Aside0 (kq ≤ k1) ∧ Aside0 (wc.heap[gb205]? = some (.cells #[.bool t207, .int .u8 t208, .int .u8 t209, .int .u8 t210, .int .u8 t211] 27 (0, 0))) ∧ Aside0 (wc.heap[gb215]? = some (.cells #[.bool t207, .int .u8 t208, .int .u8 t209, .int .u8 t210, .int .u8 t211] 27 (0, 0))) ∧ Aside0 (Below w.heap.size w wc))
        case first =>
          have H := HC10.out
          clear HC10
          by_cases c17 : x5_1 ≥ 3
          · rw [if_pos c17] at H
            have c17b0 : decide (3 ≤ x5_1) = true := decide_eq_true c17
            clear c17
            (first | rw [c17b0] | (simp only [i64_w, i32_w]; rw [c17b0]) | skip)
            have H' := Aside0.mk H
            clear H
            go_wp2
            go_meet
            case rel => exact ⟨_, ((t214 != (decide (x5_1 ≤ 162)))), (by first | rfl | (simp; done) | (simp [*]; done)), H', ⟨by have := HK1.out; first | omega | exact Nat.le_refl _⟩, ⟨by (with_reducible repeat (first | refine blk_drewN ?_ _ | refine blk_drew ?_ | refine blk_alloc ?_ _)); refine blk_put (cs := #[.bool t207, .int .u8 t208, .int .u8 t209, .int .u8 t210, .int .u8 x206004_1]) ?_ 4 _ rfl; (with_reducible repeat (first | refine blk_drewN ?_ _ | refine blk_drew ?_ | refine blk_alloc ?_ _)); refine blk_put (cs := #[.bool t207, .int .u8 t208, .int .u8 t209, .int .u8 x206003_1, .int .u8 x206004_1]) ?_ 3 _ rfl; (with_reducible repeat (first | refine blk_drewN ?_ _ | refine blk_drew ?_ | refine blk_alloc ?_ _)); refine blk_put (cs := #[.bool t207, .int .u8 t208, .int .u8 x206002_1, .int .u8 x206003_1, .int .u8 x206004_1]) ?_ 2 _ rfl; (with_reducible repeat (first | refine blk_drewN ?_ _ | refine blk_drew ?_ | refine blk_alloc ?_ _)); refine blk_put (cs := #[.bool t207, .int .u8 x206001_1, .int .u8 x206002_1, .int .u8 x206003_1, .int .u8 x206004_1]) ?_ 1 _ rfl; (with_reducible repeat (first | refine blk_drewN ?_ _ | refine blk_drew ?_ | refine blk_alloc ?_ _)); refine blk_put (cs := #[.bool x206000_1, .int .u8 x206001_1, .int .u8 x206002_1, .int .u8 x206003_1, .int .u8 x206004_1]) ?_ 0 _ rfl; (with_reducible repeat (first | refine blk_drewN ?_ _ | refine blk_drew ?_ | refine blk_alloc ?_ _)); refine blk_far ?_ NB205_215.out _; (with_reducible repeat (first | refine blk_drewN ?_ _ | refine blk_drew ?_ | refine blk_alloc ?_ _)); refine blk_far ?_ NB205_215.out _; (with_reducible repeat (first | refine blk_drewN ?_ _ | refine blk_drew ?_ | refine blk_alloc ?_ _)); refine blk_far ?_ NB205_215.out _; (with_reducible repeat (first | refine blk_drewN ?_ _ | refine blk_drew ?_ | refine blk_alloc ?_ _)); refine blk_far ?_ NB205_215.out _; (with_reducible repeat (first | refine blk_drewN ?_ _ | refine blk_drew ?_ | refine blk_alloc ?_ _)); refine blk_far ?_ NB205_215.out _; (with_reducible repeat (first | refine blk_drewN ?_ _ | refine blk_drew ?_ | refine blk_alloc ?_ _)); exact BK205.out⟩, ⟨by (with_reducible repeat (first | refine blk_drewN ?_ _ | refine blk_drew ?_ | refine blk_alloc ?_ _)); refine blk_far ?_ NB215_205.out _; (with_reducible repeat (first | refine blk_drewN ?_ _ | refine blk_drew ?_ | refine blk_alloc ?_ _)); refine blk_far ?_ NB215_205.out _; (with_reducible repeat (first | refine blk_drewN ?_ _ | refine blk_drew ?_ | refine blk_alloc ?_ _)); refine blk_far ?_ NB215_205.out _; (with_reducible repeat (first | refine blk_drewN ?_ _ | refine blk_drew ?_ | refine blk_alloc ?_ _)); refine blk_far ?_ NB215_205.out _; (with_reducible repeat (first | refine blk_drewN ?_ _ | refine blk_drew ?_ | refine blk_alloc ?_ _)); refine blk_far ?_ NB215_205.out _; (with_reducible repeat (first | refine blk_drewN ?_ _ | refine blk_drew ?_ | refine blk_alloc ?_ _)); refine blk_put (cs := #[.bool t207, .int .u8 t208, .int .u8 t209, .int .u8 t210, .int .u8 0]) ?_ 4 _ rfl; (with_reducible repeat (first | refine blk_drewN ?_ _ | refine blk_drew ?_ | refine blk_alloc ?_ _)); refine blk_put (cs := #[.bool t207, .int .u8 t208, .int .u8 t209, .int .u8 0, .int .u8 0]) ?_ 3 _ rfl; (with_reducible repeat (first | refine blk_drewN ?_ _ | refine blk_drew ?_ | refine blk_alloc ?_ _)); refine blk_put (cs := #[.bool t207, .int .u8 t208, .int .u8 0, .int .u8 0, .int .u8 0]) ?_ 2 _ rfl; (with_reducible repeat (first | refine blk_drewN ?_ _ | refine blk_drew ?_ | refine blk_alloc ?_ _)); refine blk_put (cs := #[.bool t207, .int .u8 0, .int .u8 0, .int .u8 0, .int .u8 0]) ?_ 1 _ rfl; (with_reducible repeat (first | refine blk_drewN ?_ _ | refine blk_drew ?_ | refine blk_alloc ?_ _)); refine blk_put (cs := #[.bool false, .int .u8 0, .int .u8 0, .int .u8 0, .int .u8 0]) ?_ 0 _ rfl; (with_reducible repeat (first | refine blk_drewN ?_ _ | refine blk_drew ?_ | refine blk_alloc ?_ _)); exact BK215.out⟩, ⟨by repeat (first | (with_reducible first | exact HB.out | apply below_alloc | apply pw_below_drewN | apply below_drew1 | refine below_set ?_ GE205.out | refine below_set ?_ GE215.out) | exact HB.out)⟩⟩
          · rw [if_neg c17] at H
            have c17b0 : decide (3 ≤ x5_1) = false := decide_eq_false c17
            clear c17
            (first | rw [c17b0] | (simp only [i64_w, i32_w]; rw [c17b0]) | skip)
            have H' := Aside0.mk H
            clear H
            go_wp2
            go_meet
            case rel => exact ⟨_, ((t214 != false)), (by first | rfl | (simp; done) | (simp [*]; done)), H', ⟨by have := HK1.out; first | omega | exact Nat.le_refl _⟩, ⟨by (with_reducible repeat (first | refine blk_drewN ?_ _ | refine blk_drew ?_ | refine blk_alloc ?_ _)); refine blk_put (cs := #[.bool t207, .int .u8 t208, .int .u8 t209, .int .u8 t210, .int .u8 x206004_1]) ?_ 4 _ rfl; (with_reducible repeat (first | refine blk_drewN ?_ _ | refine blk_drew ?_ | refine blk_alloc ?_ _)); refine blk_put (cs := #[.bool t207, .int .u8 t208, .int .u8 t209, .int .u8 x206003_1, .int .u8 x206004_1]) ?_ 3 _ rfl; (with_reducible repeat (first | refine blk_drewN ?_ _ | refine blk_drew ?_ | refine blk_alloc ?_ _)); refine blk_put (cs := #[.bool t207, .int .u8 t208, .int .u8 x206002_1, .int .u8 x206003_1, .int .u8 x206004_1]) ?_ 2 _ rfl; (with_reducible repeat (first | refine blk_drewN ?_ _ | refine blk_drew ?_ | refine blk_alloc ?_ _)); refine blk_put (cs := #[.bool t207, .int .u8 x206001_1, .int .u8 x206002_1, .int .u8 x206003_1, .int .u8 x206004_1]) ?_ 1 _ rfl; (with_reducible repeat (first | refine blk_drewN ?_ _ | refine blk_drew ?_ | refine blk_alloc ?_ _)); refine blk_put (cs := #[.bool x206000_1, .int .u8 x206001_1, .int .u8 x206002_1, .int .u8 x206003_1, .int .u8 x206004_1]) ?_ 0 _ rfl; (with_reducible repeat (first | refine blk_drewN ?_ _ | refine blk_drew ?_ | refine blk_alloc ?_ _)); refine blk_far ?_ NB205_215.out _; (with_reducible repeat (first | refine blk_drewN ?_ _ | refine blk_drew ?_ | refine blk_alloc ?_ _)); refine blk_far ?_ NB205_215.out _; (with_reducible repeat (first | refine blk_drewN ?_ _ | refine blk_drew ?_ | refine blk_alloc ?_ _)); refine blk_far ?_ NB205_215.out _; (with_reducible repeat (first | refine blk_drewN ?_ _ | refine blk_drew ?_ | refine blk_alloc ?_ _)); refine blk_far ?_ NB205_215.out _; (with_reducible repeat (first | refine blk_drewN ?_ _ | refine blk_drew ?_ | refine blk_alloc ?_ _)); refine blk_far ?_ NB205_215.out _; (with_reducible repeat (first | refine blk_drewN ?_ _ | refine blk_drew ?_ | refine blk_alloc ?_ _)); exact BK205.out⟩, ⟨by (with_reducible repeat (first | refine blk_drewN ?_ _ | refine blk_drew ?_ | refine blk_alloc ?_ _)); refine blk_far ?_ NB215_205.out _; (with_reducible repeat (first | refine blk_drewN ?_ _ | refine blk_drew ?_ | refine blk_alloc ?_ _)); refine blk_far ?_ NB215_205.out _; (with_reducible repeat (first | refine blk_drewN ?_ _ | refine blk_drew ?_ | refine blk_alloc ?_ _)); refine blk_far ?_ NB215_205.out _; (with_reducible repeat (first | refine blk_drewN ?_ _ | refine blk_drew ?_ | refine blk_alloc ?_ _)); refine blk_far ?_ NB215_205.out _; (with_reducible repeat (first | refine blk_drewN ?_ _ | refine blk_drew ?_ | refine blk_alloc ?_ _)); refine blk_far ?_ NB215_205.out _; (with_reducible repeat (first | refine blk_drewN ?_ _ | refine blk_drew ?_ | refine blk_alloc ?_ _)); refine blk_put (cs := #[.bool t207, .int .u8 t208, .int .u8 t209, .int .u8 t210, .int .u8 0]) ?_ 4 _ rfl; (with_reducible repeat (first | refine blk_drewN ?_ _ | refine blk_drew ?_ | refine blk_alloc ?_ _)); refine blk_put (cs := #[.bool t207, .int .u8 t208, .int .u8 t209, .int .u8 0, .int .u8 0]) ?_ 3 _ rfl; (with_reducible repeat (first | refine blk_drewN ?_ _ | refine blk_drew ?_ | refine blk_alloc ?_ _)); refine blk_put (cs := #[.bool t207, .int .u8 t208, .int .u8 0, .int .u8 0, .int .u8 0]) ?_ 2 _ rfl; (with_reducible repeat (first | refine blk_drewN ?_ _ | refine blk_drew ?_ | refine blk_alloc ?_ _)); refine blk_put (cs := #[.bool t207, .int .u8 0, .int .u8 0, .int .u8 0, .int .u8 0]) ?_ 1 _ rfl; (with_reducible repeat (first | refine blk_drewN ?_ _ | refine blk_drew ?_ | refine blk_alloc ?_ _)); refine blk_put (cs := #[.bool false, .int .u8 0, .int .u8 0, .int .u8 0, .int .u8 0]) ?_ 0 _ rfl; (with_reducible repeat (first | refine blk_drewN ?_ _ | refine blk_drew ?_ | refine blk_alloc ?_ _)); exact BK215.out⟩, ⟨by repeat (first | (with_reducible first | exact HB.out | apply below_alloc | apply pw_below_drewN | apply below_drew1 | refine below_set ?_ GE205.out | refine below_set ?_ GE215.out) | exact HB.out)⟩⟩
        case rest =>
          clear HC10
          try clear c1
          try clear p2
          try clear c7
          try clear c8
          try clear c8b0
          try clear c11
          try clear c13
          try clear c14
          try clear c17
          try clear c17b0
          try clear hcz11_0
          try clear hcz11_1
          try clear hcz11_2
          try clear hcz11_3
          try clear hcz11_4
          try clear hcz15_0
          try clear hcz15_1
          try clear hcz15_2
          try clear hcz15_3
          try clear hcz15_4
          try clear hcz16_0
          try clear hcz16_1
          try clear hcz16_2
          try clear hcz16_3
          try clear hcz16_4
          try clear hcz7_0
          try clear hcz7_1
          try clear hcz7_2
          try clear hcz7_3
          try clear hcz7_4
          try clear hfz11_0
          try clear hfz11_1
          try clear hfz11_2
          try clear hfz11_3
          try clear hfz11_4
          try clear hfz15_0
          try clear hfz15_1
          try clear hfz15_2
          try clear hfz15_3
          try clear hfz15_4
          try clear hfz16_0
          try clear hfz16_1
          try clear hfz16_2
          try clear hfz16_3
          try clear hfz16_4
          try clear hfz7_0
          try clear hfz7_1
          try clear hfz7_2
          try clear hfz7_3
          try clear hfz7_4
          try clear p2
          obtain ⟨kq, x33_9, rfl, HA, HJ9, BK205, BK215, HB⟩ := hcut
          cases kq with
          | zero => exact absurd HA.out (by simp [whirligiglaw19_DmaWhole.j1])
          | succ kj9 =>
            have H := HA.out
            clear HA
            simp only [whirligiglaw19_DmaWhole.j1] at H
            by_cases c18 : x33_9 = true
            · subst c18
              have H1 : (some false) = some r := by rw [if_pos rfl] at H; exact H
              clear H
              have H := H1
              clear H1
              obtain rfl := Option.some.inj H
              go_wp2
              go_ret
              exact ⟨by first | rfl | (simp [errW_none, errW_some] <;> rfl) | (simp [*, errW_none, errW_some] <;> rfl), by repeat (first | (with_reducible first | exact HB.out | apply below_alloc | apply pw_below_drewN | apply below_drew1 | refine below_set ?_ GE205.out | refine below_set ?_ GE215.out) | exact HB.out)⟩
            · replace c18 := Bool.eq_false_iff.mpr c18
              subst c18
              have H1 : (if t214 = true then (if (wrap64 (t213)) = (wrap64 (x5_1 - 3)) then ((dma_Source.f a0 t213).bind fun t216 => (if t212 = t216 then (if t212 ≥ 57344 then (some false) else (whirligiglaw19_DmaWhole.l0 kj9 a0 t199 (wrap64 (x5_1 + 1)) t207 t208 t209 t210 t211)) else (some false))) else (some false)) else (whirligiglaw19_DmaWhole.l0 kj9 a0 t199 (wrap64 (x5_1 + 1)) t207 t208 t209 t210 t211)) = some r := by rw [if_neg (show ¬ (false = true) by decide)] at H; exact H
              clear H
              have H := H1
              clear H1
              by_cases c19 : t214 = true
              · subst c19
                have H1 : (if (wrap64 (t213)) = (wrap64 (x5_1 - 3)) then ((dma_Source.f a0 t213).bind fun t216 => (if t212 = t216 then (if t212 ≥ 57344 then (some false) else (whirligiglaw19_DmaWhole.l0 kj9 a0 t199 (wrap64 (x5_1 + 1)) t207 t208 t209 t210 t211)) else (some false))) else (some false)) = some r := by rw [if_pos rfl] at H; exact H
                clear H
                have H := H1
                clear H1
                by_cases c20 : (wrap64 (t213)) = (wrap64 (x5_1 - 3))
                · rw [if_pos c20] at H
                  have c20b0 : ((wrap64 (t213)) == (wrap64 (x5_1 - 3))) = true := beq_iff_eq.mpr c20
                  have c20b1 : ((wrap64 (t213)) != (wrap64 (x5_1 - 3))) = false := bne_eq_false_iff_eq.mpr c20
                  clear c20
                  replace H := Option.bind_eq_some_iff.mp H
                  obtain ⟨t216, A210, H⟩ := H
                  replace H : (if t212 = t216 then (if t212 ≥ 57344 then (some false) else (whirligiglaw19_DmaWhole.l0 kj9 a0 t199 (wrap64 (x5_1 + 1)) t207 t208 t209 t210 t211)) else (some false)) = some r := H
                  have A21 := Aside0.mk A210
                  clear A210
                  by_cases c22 : t212 = t216
                  · rw [if_pos c22] at H
                    have c22b0 : (t212 == t216) = true := beq_iff_eq.mpr c22
                    have c22b1 : (t212 != t216) = false := bne_eq_false_iff_eq.mpr c22
                    clear c22
                    by_cases c23 : t212 ≥ 57344
                    · rw [if_pos c23] at H
                      have c23b0 : decide (57344 ≤ t212) = true := decide_eq_true c23
                      clear c23
                      obtain rfl := Option.some.inj H
                      go_wp2_with (first | (go_at_call 9; (with_reducible refine (dma_Source.calls a0 t213 t216 _ A21.out).mono ?_); rintro e w' ⟨rfl, ⟨nd, rfl⟩⟩))
                      go_ret
                      exact ⟨by first | rfl | (simp [errW_none, errW_some] <;> rfl) | (simp [*, errW_none, errW_some] <;> rfl), by repeat (first | (with_reducible first | exact HB.out | apply below_alloc | apply pw_below_drewN | apply below_drew1 | refine below_set ?_ GE205.out | refine below_set ?_ GE215.out) | exact HB.out)⟩
                    · rw [if_neg c23] at H
                      have c23b0 : decide (57344 ≤ t212) = false := decide_eq_false c23
                      clear c23
                      have H' := Aside0.mk H
                      clear H
                      go_wp2_with (first | (go_at_call 9; (with_reducible refine (dma_Source.calls a0 t213 t216 _ A21.out).mono ?_); rintro e w' ⟨rfl, ⟨nd, rfl⟩⟩))
                      go_roundg kj9
                      case measure => have := HK1.out; have := HJ9.out; omega
                      case rel => exact ⟨(wrap64 (x5_1 + 1)), (t207), (t208), (t209), (t210), (t211), (by first | rfl | (simp; done) | (simp [*]; done)), H', ⟨by have := HK1.out; have := HJ9.out; omega⟩, ⟨by (with_reducible repeat (first | refine blk_drewN ?_ _ | refine blk_drew ?_ | refine blk_alloc ?_ _)); exact BK205.out⟩, ⟨by repeat (first | (with_reducible first | exact HB.out | apply below_alloc | apply pw_below_drewN | apply below_drew1 | refine below_set ?_ GE205.out | refine below_set ?_ GE215.out) | exact HB.out)⟩⟩
                  · rw [if_neg c22] at H
                    have c22b0 : (t212 == t216) = false := beq_eq_false_iff_ne.mpr c22
                    have c22b1 : (t212 != t216) = true := bne_iff_ne.mpr c22
                    obtain rfl := Option.some.inj H
                    go_wp2_with (first | (go_at_call 9; (with_reducible refine (dma_Source.calls a0 t213 t216 _ A21.out).mono ?_); rintro e w' ⟨rfl, ⟨nd, rfl⟩⟩))
                    go_ret
                    exact ⟨by first | rfl | (simp [errW_none, errW_some] <;> rfl) | (simp [*, errW_none, errW_some] <;> rfl), by repeat (first | (with_reducible first | exact HB.out | apply below_alloc | apply pw_below_drewN | apply below_drew1 | refine below_set ?_ GE205.out | refine below_set ?_ GE215.out) | exact HB.out)⟩
                · rw [if_neg c20] at H
                  have c20b0 : ((wrap64 (t213)) == (wrap64 (x5_1 - 3))) = false := beq_eq_false_iff_ne.mpr c20
                  have c20b1 : ((wrap64 (t213)) != (wrap64 (x5_1 - 3))) = true := bne_iff_ne.mpr c20
                  obtain rfl := Option.some.inj H
                  go_wp2
                  go_ret
                  exact ⟨by first | rfl | (simp [errW_none, errW_some] <;> rfl) | (simp [*, errW_none, errW_some] <;> rfl), by repeat (first | (with_reducible first | exact HB.out | apply below_alloc | apply pw_below_drewN | apply below_drew1 | refine below_set ?_ GE205.out | refine below_set ?_ GE215.out) | exact HB.out)⟩
              · replace c19 := Bool.eq_false_iff.mpr c19
                subst c19
                have H1 : (whirligiglaw19_DmaWhole.l0 kj9 a0 t199 (wrap64 (x5_1 + 1)) t207 t208 t209 t210 t211) = some r := by rw [if_neg (show ¬ (false = true) by decide)] at H; exact H
                clear H
                have H := H1
                clear H1
                have H' := Aside0.mk H
                clear H
                go_wp2
                go_roundg kj9
                case measure => have := HK1.out; have := HJ9.out; omega
                case rel => exact ⟨(wrap64 (x5_1 + 1)), (t207), (t208), (t209), (t210), (t211), (by first | rfl | (simp; done) | (simp [*]; done)), H', ⟨by have := HK1.out; have := HJ9.out; omega⟩, ⟨by (with_reducible repeat (first | refine blk_drewN ?_ _ | refine blk_drew ?_ | refine blk_alloc ?_ _)); exact BK205.out⟩, ⟨by repeat (first | (with_reducible first | exact HB.out | apply below_alloc | apply pw_below_drewN | apply below_drew1 | refine below_set ?_ GE205.out | refine below_set ?_ GE215.out) | exact HB.out)⟩⟩
      · rw [if_neg c8] at H
        have c8b0 : decide (x5_1 ≤ 170) = false := decide_eq_false c8
        clear c8
        by_cases c24 : t199 = true
        · subst c24
          have H1 : (if x206000_1 = true then (some false) else (if x206003_1 = 0 then ((dma_Read.f x206000_1 x206001_1 x206002_1 x206003_1 x206004_1).bind fun t206 => (some (t206 == a0))) else (some false))) = some r := by rw [if_pos rfl] at H; exact H
          clear H
          have H := H1
          clear H1
          by_cases c25 : x206000_1 = true
          · subst c25
            have H1 : (some false) = some r := by rw [if_pos rfl] at H; exact H
            clear H
            have H := H1
            clear H1
            obtain rfl := Option.some.inj H
            have hcz26_0 : wr.cell? ⟨gb205, 0, none⟩ = some (.bool true) := (blk_cell BK205.out 0).trans rfl
            have hcz26_1 : wr.cell? ⟨gb205, 1, none⟩ = some (.int .u8 x206001_1) := (blk_cell BK205.out 1).trans rfl
            have hcz26_2 : wr.cell? ⟨gb205, 2, none⟩ = some (.int .u8 x206002_1) := (blk_cell BK205.out 2).trans rfl
            have hcz26_3 : wr.cell? ⟨gb205, 3, none⟩ = some (.int .u8 x206003_1) := (blk_cell BK205.out 3).trans rfl
            have hcz26_4 : wr.cell? ⟨gb205, 4, none⟩ = some (.int .u8 x206004_1) := (blk_cell BK205.out 4).trans rfl
            have hfz26_0 := blk_frozen BK205.out 0
            have hfz26_1 := blk_frozen BK205.out 1
            have hfz26_2 := blk_frozen BK205.out 2
            have hfz26_3 := blk_frozen BK205.out 3
            have hfz26_4 := blk_frozen BK205.out 4
            go_wp2
            go_ret
            exact ⟨by first | rfl | (simp [errW_none, errW_some] <;> rfl) | (simp [*, errW_none, errW_some] <;> rfl), by repeat (first | (with_reducible first | exact HB.out | apply below_alloc | apply pw_below_drewN | apply below_drew1 | refine below_set ?_ GE205.out) | exact HB.out)⟩
          · replace c25 := Bool.eq_false_iff.mpr c25
            subst c25
            have H1 : (if x206003_1 = 0 then ((dma_Read.f false x206001_1 x206002_1 x206003_1 x206004_1).bind fun t206 => (some (t206 == a0))) else (some false)) = some r := by rw [if_neg (show ¬ (false = true) by decide)] at H; exact H
            clear H
            have H := H1
            clear H1
            by_cases c27 : x206003_1 = 0
            · rw [if_pos c27] at H
              have c27b0 : (x206003_1 == 0) = true := beq_iff_eq.mpr c27
              have c27b1 : (x206003_1 != 0) = false := bne_eq_false_iff_eq.mpr c27
              clear c27
              replace H := Option.bind_eq_some_iff.mp H
              obtain ⟨t206, A280, H⟩ := H
              replace H : (some (t206 == a0)) = some r := H
              have A28 := Aside0.mk A280
              clear A280
              obtain rfl := Option.some.inj H
              have hcz29_0 : wr.cell? ⟨gb205, 0, none⟩ = some (.bool false) := (blk_cell BK205.out 0).trans rfl
              have hcz29_1 : wr.cell? ⟨gb205, 1, none⟩ = some (.int .u8 x206001_1) := (blk_cell BK205.out 1).trans rfl
              have hcz29_2 : wr.cell? ⟨gb205, 2, none⟩ = some (.int .u8 x206002_1) := (blk_cell BK205.out 2).trans rfl
              have hcz29_3 : wr.cell? ⟨gb205, 3, none⟩ = some (.int .u8 x206003_1) := (blk_cell BK205.out 3).trans rfl
              have hcz29_4 : wr.cell? ⟨gb205, 4, none⟩ = some (.int .u8 x206004_1) := (blk_cell BK205.out 4).trans rfl
              have hfz29_0 := blk_frozen BK205.out 0
              have hfz29_1 := blk_frozen BK205.out 1
              have hfz29_2 := blk_frozen BK205.out 2
              have hfz29_3 := blk_frozen BK205.out 3
              have hfz29_4 := blk_frozen BK205.out 4
              go_wp2_with (first | (go_at_call 15; (with_reducible refine (dma_Read.calls false x206001_1 x206002_1 x206003_1 x206004_1 t206 _ A28.out).mono ?_); rintro e w30 ⟨rfl, hb⟩; have n0_ := Aside0.mk (blk_below (g := gb205) (o := .cells #[.bool false, .int .u8 x206001_1, .int .u8 x206002_1, .int .u8 x206003_1, .int .u8 x206004_1] 27 (0, 0)) (by (with_reducible repeat (first | refine blk_drewN ?_ _ | refine blk_drew ?_ | refine blk_alloc ?_ _)); exact BK205.out) hb); have n1_ := Aside0.mk (below_step (by repeat (first | (with_reducible first | exact HB.out | apply below_alloc | apply pw_below_drewN | apply below_drew1 | refine below_set ?_ GE205.out) | exact HB.out)) hb); clear BK205; clear HB; have BK205 := n0_; have HB := n1_; clear n0_ n1_; (try clear hb); (try clear hb2); (try clear hk); (try clear hi)))
              go_ret
              exact ⟨by first | rfl | (simp [errW_none, errW_some] <;> rfl) | (simp [*, errW_none, errW_some] <;> rfl), by repeat (first | (with_reducible first | exact HB.out | apply below_alloc | apply pw_below_drewN | apply below_drew1 | refine below_set ?_ GE205.out) | exact HB.out)⟩
            · rw [if_neg c27] at H
              have c27b0 : (x206003_1 == 0) = false := beq_eq_false_iff_ne.mpr c27
              have c27b1 : (x206003_1 != 0) = true := bne_iff_ne.mpr c27
              obtain rfl := Option.some.inj H
              have hcz31_0 : wr.cell? ⟨gb205, 0, none⟩ = some (.bool false) := (blk_cell BK205.out 0).trans rfl
              have hcz31_1 : wr.cell? ⟨gb205, 1, none⟩ = some (.int .u8 x206001_1) := (blk_cell BK205.out 1).trans rfl
              have hcz31_2 : wr.cell? ⟨gb205, 2, none⟩ = some (.int .u8 x206002_1) := (blk_cell BK205.out 2).trans rfl
              have hcz31_3 : wr.cell? ⟨gb205, 3, none⟩ = some (.int .u8 x206003_1) := (blk_cell BK205.out 3).trans rfl
              have hcz31_4 : wr.cell? ⟨gb205, 4, none⟩ = some (.int .u8 x206004_1) := (blk_cell BK205.out 4).trans rfl
              have hfz31_0 := blk_frozen BK205.out 0
              have hfz31_1 := blk_frozen BK205.out 1
              have hfz31_2 := blk_frozen BK205.out 2
              have hfz31_3 := blk_frozen BK205.out 3
              have hfz31_4 := blk_frozen BK205.out 4
              go_wp2
              go_ret
              exact ⟨by first | rfl | (simp [errW_none, errW_some] <;> rfl) | (simp [*, errW_none, errW_some] <;> rfl), by repeat (first | (with_reducible first | exact HB.out | apply below_alloc | apply pw_below_drewN | apply below_drew1 | refine below_set ?_ GE205.out) | exact HB.out)⟩
        · replace c24 := Bool.eq_false_iff.mpr c24
          subst c24
          have H1 : (some false) = some r := by rw [if_neg (show ¬ (false = true) by decide)] at H; exact H
          clear H
          have H := H1
          clear H1
          obtain rfl := Option.some.inj H
          go_wp2
          go_ret
          exact ⟨by first | rfl | (simp [errW_none, errW_some] <;> rfl) | (simp [*, errW_none, errW_some] <;> rfl), by repeat (first | (with_reducible first | exact HB.out | apply below_alloc | apply pw_below_drewN | apply below_drew1 | refine below_set ?_ GE205.out) | exact HB.out)⟩

/-- THE ONE PURE STATEMENT of whirligiglaw19_DmaWhole: yours. -/
def whirligiglaw19_DmaWhole.Pure : Prop := ∀ (a0 : Int), (Lit.int .u8 a0).wf = true → ∃ k, whirligiglaw19_DmaWhole.f k a0 = some true
theorem whirligiglaw19_DmaWhole.walk (P : whirligiglaw19_DmaWhole.Pure) (a0 : Int) (w : World) (w0 : (Lit.int .u8 a0).wf = true) :
    Calls Try.prog 7 #[.int .u8 a0] w fun e w' => e = .returned (.bool true) ∧ Below w.heap.size w w' := by
  obtain ⟨k, h⟩ := P a0 w0
  refine (whirligiglaw19_DmaWhole.calls k a0 true w h).mono ?_
  rintro e w' ⟨rfl, hd⟩
  exact ⟨rfl, hd⟩

end Go.Proofs.Ytofcicdomkaigaa.P
