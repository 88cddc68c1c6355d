/- Contracts of Go functions of this seat: each Lean function here is what the Go function of its name answers, in every memory; no condition but the equations that each theorem states. Written by a program of this session (wip/given.py); Lean checks it. -/
import Derived.Test.YtofcicdomkaigaaPx0
import Derived.Test.YtofcicdomkaigaaPx2
import Derived.Test.YtofcicdomkaigaaPx3
namespace Go.Proofs.Ytofcicdomkaigaa.P
open Go.RowKit Go.Proofs.YtofcicdomkaigaaW.PrintWords Go.Proofs.YtofcicdomkaigaaW.PrintLast Go.Proofs.YtofcicdomkaigaaW.PrintMore
attribute [local go_sem] max2_int min2_int max_two min_two max_three min_three max_four min_four   -- for this text's walks alone
set_option linter.unusedVariables false
set_option linter.unusedSimpArgs false

/-! ### whirligiglaw19_DmaAgain: function 5 -/
mutual
def whirligiglaw19_DmaAgain.l0 : Nat → Int → Int → Bool → Int → Int → Bool → Int → Int → Int → Int → Option (Bool)
  | 0, _, _, _, _, _, _, _, _, _, _ => none
  | k + 1, x0, x1, x7, x9, x10, x157000, x157001, x157002, x157003, x157004 => if x10 < x9 then ((dma_Step.f x157000 x157001 x157002 x157003 x157004).bind fun bt157 => (whirligiglaw19_DmaAgain.l0 k x0 x1 x7 x9 (wrap64 (x10 + 1)) bt157.1 bt157.2.1 bt157.2.2.1 bt157.2.2.2.1 bt157.2.2.2.2.1)) else ((dma_Write.f x157000 x157001 x157002 x157003 x157004 x1).bind fun bt165 => (whirligiglaw19_DmaAgain.l1 k x0 x1 x7 x9 0 bt165.1 bt165.2.1 bt165.2.2.1 bt165.2.2.2.1 bt165.2.2.2.2))
def whirligiglaw19_DmaAgain.l1 : Nat → Int → Int → Bool → Int → Int → Bool → Int → Int → Int → Int → Option (Bool)
  | 0, _, _, _, _, _, _, _, _, _, _ => none
  | k + 1, x0, x1, x7, x9, x11, x157000, x157001, x157002, x157003, x157004 => if x11 < 162 then ((dma_Step.f x157000 x157001 x157002 x157003 x157004).bind fun bt170 => (if x11 < 2 then (if x9 > 2 then (if bt170.2.2.2.2.2.2.2 = true then ((dma_Source.f x0 bt170.2.2.2.2.2.2.1).bind fun t179 => (if bt170.2.2.2.2.2.1 = t179 then (if (wrap64 (bt170.2.2.2.2.2.2.1)) = (wrap64 ((wrap64 (x9 - 2)) + x11)) then (if x9 = 1 then (whirligiglaw19_DmaAgain.j2 k x0 x1 x7 x9 x11 bt170.2.2.2.2.2.2.2 bt170.1 bt170.2.1 bt170.2.2.1 bt170.2.2.2.1 bt170.2.2.2.2.1) else (whirligiglaw19_DmaAgain.j2 k x0 x1 x7 x9 x11 false bt170.1 bt170.2.1 bt170.2.2.1 bt170.2.2.2.1 bt170.2.2.2.2.1)) else (whirligiglaw19_DmaAgain.j2 k x0 x1 x7 x9 x11 true bt170.1 bt170.2.1 bt170.2.2.1 bt170.2.2.2.1 bt170.2.2.2.2.1)) else (whirligiglaw19_DmaAgain.j2 k x0 x1 x7 x9 x11 true bt170.1 bt170.2.1 bt170.2.2.1 bt170.2.2.2.1 bt170.2.2.2.2.1))) else (whirligiglaw19_DmaAgain.j2 k x0 x1 x7 x9 x11 true bt170.1 bt170.2.1 bt170.2.2.1 bt170.2.2.2.1 bt170.2.2.2.2.1)) else (if x9 = 1 then (whirligiglaw19_DmaAgain.j2 k x0 x1 x7 x9 x11 bt170.2.2.2.2.2.2.2 bt170.1 bt170.2.1 bt170.2.2.1 bt170.2.2.2.1 bt170.2.2.2.2.1) else (whirligiglaw19_DmaAgain.j2 k x0 x1 x7 x9 x11 false bt170.1 bt170.2.1 bt170.2.2.1 bt170.2.2.2.1 bt170.2.2.2.2.1))) else (if bt170.2.2.2.2.2.2.2 = true then (if (wrap64 (bt170.2.2.2.2.2.2.1)) = (wrap64 (x11 - 2)) then ((dma_Source.f x1 bt170.2.2.2.2.2.2.1).bind fun t180 => (if bt170.2.2.2.2.2.1 = t180 then (whirligiglaw19_DmaAgain.l1 k x0 x1 x7 x9 (wrap64 (x11 + 1)) bt170.1 bt170.2.1 bt170.2.2.1 bt170.2.2.2.1 bt170.2.2.2.2.1) else (some false))) else (some false)) else (some false)))) else (if x7 = true then (some (!x157000)) else (some false))
def whirligiglaw19_DmaAgain.j2 : Nat → Int → Int → Bool → Int → Int → Bool → Bool → Int → Int → Int → Int → Option (Bool)
  | 0, _, _, _, _, _, _, _, _, _, _, _ => none
  | k + 1, x0, x1, x7, x9, x11, x81, x157000, x157001, x157002, x157003, x157004 => if x81 = true then (some false) else (whirligiglaw19_DmaAgain.l1 k x0 x1 x7 x9 (wrap64 (x11 + 1)) x157000 x157001 x157002 x157003 x157004)
end
def whirligiglaw19_DmaAgain.f (k : Nat) (a0 : Int) (a1 : Int) (a2 : Int) : Option (Bool) := (whirligiglaw19_shown.f k).bind fun t150 => ((dma_Write.f false 0 0 0 0 a0).bind fun bt151 => (whirligiglaw19_DmaAgain.l0 k a0 a1 t150 (wrap64 (1 + (Int.tmod (wrap64 (a2)) 150))) 0 bt151.1 bt151.2.1 bt151.2.2.1 bt151.2.2.2.1 bt151.2.2.2.2))
theorem whirligiglaw19_DmaAgain.mono_l : ∀ k, (∀ y0 y1 y2 y3 y4 y5 y6 y7 y8 y9, LeO (whirligiglaw19_DmaAgain.l0 k y0 y1 y2 y3 y4 y5 y6 y7 y8 y9) (whirligiglaw19_DmaAgain.l0 (k + 1) y0 y1 y2 y3 y4 y5 y6 y7 y8 y9)) ∧ (∀ y0 y1 y2 y3 y4 y5 y6 y7 y8 y9, LeO (whirligiglaw19_DmaAgain.l1 k y0 y1 y2 y3 y4 y5 y6 y7 y8 y9) (whirligiglaw19_DmaAgain.l1 (k + 1) y0 y1 y2 y3 y4 y5 y6 y7 y8 y9)) ∧ (∀ y0 y1 y2 y3 y4 y5 y6 y7 y8 y9 y10, LeO (whirligiglaw19_DmaAgain.j2 k y0 y1 y2 y3 y4 y5 y6 y7 y8 y9 y10) (whirligiglaw19_DmaAgain.j2 (k + 1) y0 y1 y2 y3 y4 y5 y6 y7 y8 y9 y10))
  | 0 => ⟨fun _ _ _ _ _ _ _ _ _ _ r h => by simp [whirligiglaw19_DmaAgain.l0] at h, fun _ _ _ _ _ _ _ _ _ _ r h => by simp [whirligiglaw19_DmaAgain.l1] at h, fun _ _ _ _ _ _ _ _ _ _ _ r h => by simp [whirligiglaw19_DmaAgain.j2] at h⟩
  | k + 1 => by
    obtain ⟨ih0, ih1, ih2⟩ := whirligiglaw19_DmaAgain.mono_l k
    refine ⟨?_, ?_, ?_⟩
    · intro y0 y1 y2 y3 y4 y5 y6 y7 y8 y9
      unfold whirligiglaw19_DmaAgain.l0
      repeat' first
      | (with_reducible exact ih0 _ _ _ _ _ _ _ _ _ _)
      | (with_reducible exact ih1 _ _ _ _ _ _ _ _ _ _)
      | (with_reducible exact ih2 _ _ _ _ _ _ _ _ _ _ _)
      | (with_reducible exact whirligiglaw19_shown.mono _)
      | (with_reducible exact LeO.refl _)
      | (with_reducible exact LeO.none _)
      | (with_reducible refine LeO.ite ?_ ?_)
      | (with_reducible refine LeO.bind ?_ (fun _ => ?_))
      | exact ih0 _ _ _ _ _ _ _ _ _ _
      | exact ih1 _ _ _ _ _ _ _ _ _ _
      | exact ih2 _ _ _ _ _ _ _ _ _ _ _
      | exact whirligiglaw19_shown.mono _
      | exact LeO.none _
      | refine LeO.ite ?_ ?_
      | refine LeO.bind ?_ (fun _ => ?_)
    · intro y0 y1 y2 y3 y4 y5 y6 y7 y8 y9
      unfold whirligiglaw19_DmaAgain.l1
      repeat' first
      | (with_reducible exact ih0 _ _ _ _ _ _ _ _ _ _)
      | (with_reducible exact ih1 _ _ _ _ _ _ _ _ _ _)
      | (with_reducible exact ih2 _ _ _ _ _ _ _ _ _ _ _)
      | (with_reducible exact whirligiglaw19_shown.mono _)
      | (with_reducible exact LeO.refl _)
      | (with_reducible exact LeO.none _)
      | (with_reducible refine LeO.ite ?_ ?_)
      | (with_reducible refine LeO.bind ?_ (fun _ => ?_))
      | exact ih0 _ _ _ _ _ _ _ _ _ _
      | exact ih1 _ _ _ _ _ _ _ _ _ _
      | exact ih2 _ _ _ _ _ _ _ _ _ _ _
      | exact whirligiglaw19_shown.mono _
      | exact LeO.none _
      | refine LeO.ite ?_ ?_
      | refine LeO.bind ?_ (fun _ => ?_)
    · intro y0 y1 y2 y3 y4 y5 y6 y7 y8 y9 y10
      unfold whirligiglaw19_DmaAgain.j2
      repeat' first
      | (with_reducible exact ih0 _ _ _ _ _ _ _ _ _ _)
      | (with_reducible exact ih1 _ _ _ _ _ _ _ _ _ _)
      | (with_reducible exact ih2 _ _ _ _ _ _ _ _ _ _ _)
      | (with_reducible exact whirligiglaw19_shown.mono _)
      | (with_reducible exact LeO.refl _)
      | (with_reducible exact LeO.none _)
      | (with_reducible refine LeO.ite ?_ ?_)
      | (with_reducible refine LeO.bind ?_ (fun _ => ?_))
      | exact ih0 _ _ _ _ _ _ _ _ _ _
      | exact ih1 _ _ _ _ _ _ _ _ _ _
      | exact ih2 _ _ _ _ _ _ _ _ _ _ _
      | exact whirligiglaw19_shown.mono _
      | exact LeO.none _
      | refine LeO.ite ?_ ?_
      | refine LeO.bind ?_ (fun _ => ?_)
theorem whirligiglaw19_DmaAgain.mono : ∀ a0 a1 a2 k, LeO (whirligiglaw19_DmaAgain.f k a0 a1 a2) (whirligiglaw19_DmaAgain.f (k + 1) a0 a1 a2) := by
  intro a0 a1 a2 k
  obtain ⟨ih0, ih1, ih2⟩ := whirligiglaw19_DmaAgain.mono_l k
  unfold whirligiglaw19_DmaAgain.f
  repeat' first
      | (with_reducible exact ih0 _ _ _ _ _ _ _ _ _ _)
      | (with_reducible exact ih1 _ _ _ _ _ _ _ _ _ _)
      | (with_reducible exact ih2 _ _ _ _ _ _ _ _ _ _ _)
      | (with_reducible exact whirligiglaw19_shown.mono _)
      | (with_reducible exact LeO.refl _)
      | (with_reducible exact LeO.none _)
      | (with_reducible refine LeO.ite ?_ ?_)
      | (with_reducible refine LeO.bind ?_ (fun _ => ?_))
      | exact ih0 _ _ _ _ _ _ _ _ _ _
      | exact ih1 _ _ _ _ _ _ _ _ _ _
      | exact ih2 _ _ _ _ _ _ _ _ _ _ _
      | exact whirligiglaw19_shown.mono _
      | exact LeO.none _
      | refine LeO.ite ?_ ?_
      | refine LeO.bind ?_ (fun _ => ?_)
set_option maxHeartbeats 8000000 in
set_option maxRecDepth 100000 in
theorem whirligiglaw19_DmaAgain.calls (k : Nat) (a0 : Int) (a1 : Int) (a2 : Int) (r : Bool) (w : World) (h : whirligiglaw19_DmaAgain.f k a0 a1 a2 = some r) :
    Calls Try.prog 5 #[.int .u8 a0, .int .u8 a1, .int .u8 a2] w fun e w' => e = .returned (.bool r) ∧ Below w.heap.size w w' := by
  have hu27 := Try.underlying27
  have HB := Aside0.mk (Below.refl w.heap.size w)
  have H : ((whirligiglaw19_shown.f k).bind fun t150 => ((dma_Write.f false 0 0 0 0 a0).bind fun bt151 => (whirligiglaw19_DmaAgain.l0 k a0 a1 t150 (wrap64 (1 + (Int.tmod (wrap64 (a2)) 150))) 0 bt151.1 bt151.2.1 bt151.2.2.1 bt151.2.2.2.1 bt151.2.2.2.2))) = some r := h
  clear h
  replace H := Option.bind_eq_some_iff.mp H
  obtain ⟨t150, A40, H⟩ := H
  replace H : ((dma_Write.f false 0 0 0 0 a0).bind fun bt151 => (whirligiglaw19_DmaAgain.l0 k a0 a1 t150 (wrap64 (1 + (Int.tmod (wrap64 (a2)) 150))) 0 bt151.1 bt151.2.1 bt151.2.2.1 bt151.2.2.2.1 bt151.2.2.2.2)) = some r := H
  have A4 := Aside0.mk A40
  clear A40
  replace H := Option.bind_eq_some_iff.mp H
  obtain ⟨⟨t151, t152, t153, t154, t155⟩, A50, H⟩ := H
  replace H : (whirligiglaw19_DmaAgain.l0 k a0 a1 t150 (wrap64 (1 + (Int.tmod (wrap64 (a2)) 150))) 0 t151 t152 t153 t154 t155) = some r := H
  have A5 := Aside0.mk A50
  clear A50
  have H' := Aside0.mk H
  clear H
  go_enter Try.func5, Try.ntmps5
  go_wp2_with (first | ((with_reducible refine gate_callee (f := 8) rfl ?_); refine goesL_ (some 16) rfl rfl Try.func8 (by kernel_rfl) rfl #[] rfl (by (try simp only [List.map_toArray, List.map_cons, List.map_nil]); first | done | rfl | (simp only [List.length_drop, List.length_take]; rfl)) ?_; (with_reducible refine (whirligiglaw19_shown.calls k  t150 _ A4.out).mono ?_); rintro e w6 ⟨rfl, hb⟩; refine ⟨_, rfl, ?_⟩; have n0_ := Aside0.mk (below_step (by repeat (first | (with_reducible first | exact HB.out | apply below_alloc | apply pw_below_drewN | apply below_drew1) | exact HB.out)) hb); clear HB; have HB := n0_; clear n0_; (try clear hb); (try clear hb2); (try clear hk); (try clear hi)) | ((with_reducible refine gate_callee (f := 13) rfl ?_); refine goesL_ (some 19) rfl rfl Try.func13 (by kernel_rfl) rfl #[.agg #[.bool false, .int .u8 0, .int .u8 0, .int .u8 0, .int .u8 0], .int .u8 a0] rfl (by (try simp only [List.map_toArray, List.map_cons, List.map_nil]); first | done | rfl | (simp only [List.length_drop, List.length_take]; rfl)) ?_; (with_reducible refine (dma_Write.calls false 0 0 0 0 a0 t151 t152 t153 t154 t155 _ A5.out).mono ?_); rintro e w7 ⟨rfl, hb⟩; refine ⟨_, rfl, ?_⟩; have n0_ := Aside0.mk (below_step (by repeat (first | (with_reducible first | exact HB.out | apply below_alloc | apply pw_below_drewN | apply below_drew1) | exact HB.out)) hb); clear HB; have HB := n0_; clear n0_; (try clear hb); (try clear hb2); (try clear hk); (try clear hi)) | ((with_reducible refine gate_dst (N := 8) rfl ?_); refine box_event ?hg (N := 8) ?hd (cs := #[.bool false, .int .u8 0, .int .u8 0, .int .u8 0, .int .u8 0]) (t := 27) ?hr ?_; (case hd => rfl); (case hg => rfl); (case hr => first | (go_simp; done) | (go_simp; rfl)); intro gb156 hg w8 hbox hb; have n0_ := Aside0.mk (below_step (by repeat (first | (with_reducible first | exact HB.out | apply below_alloc | apply pw_below_drewN | apply below_drew1) | exact HB.out)) hb); have n1_ := Aside0.mk (hbox); have n2_ := Aside0.mk ((by rw [hg]; exact (below_size (by repeat (first | (with_reducible first | exact HB.out | apply below_alloc | apply pw_below_drewN | apply below_drew1) | exact HB.out))) : w.heap.size ≤ gb156)); have n3_ := Aside0.mk ((by rw [hg]; exact (below_size (by repeat (first | (with_reducible first | exact HB.out | apply below_alloc | apply pw_below_drewN | apply below_drew1) | exact HB.out))) : w.heap.size ≤ gb156)); clear HB; have HB := n0_; have BK156 := n1_; have GW156 := n2_; have GE156 := n3_; clear n0_ n1_ n2_ n3_; clear hb hbox hg; have hcz9_0 : w8.cell? ⟨gb156, 0, none⟩ = some (.bool false) := (blk_cell BK156.out 0).trans rfl; have hcz9_1 : w8.cell? ⟨gb156, 1, none⟩ = some (.int .u8 0) := (blk_cell BK156.out 1).trans rfl; have hcz9_2 : w8.cell? ⟨gb156, 2, none⟩ = some (.int .u8 0) := (blk_cell BK156.out 2).trans rfl; have hcz9_3 : w8.cell? ⟨gb156, 3, none⟩ = some (.int .u8 0) := (blk_cell BK156.out 3).trans rfl; have hcz9_4 : w8.cell? ⟨gb156, 4, none⟩ = some (.int .u8 0) := (blk_cell BK156.out 4).trans rfl; have hfz9_0 := blk_frozen BK156.out 0; have hfz9_1 := blk_frozen BK156.out 1; have hfz9_2 := blk_frozen BK156.out 2; have hfz9_3 := blk_frozen BK156.out 3; have hfz9_4 := blk_frozen BK156.out 4))
  go_loopg [10] k (fun kq v10 w' => ∃ (x10_1 : Int) (x157000_1 : Bool) (x157001_1 : Int) (x157002_1 : Int) (x157003_1 : Int) (x157004_1 : Int), v10 = .int .i64 x10_1 ∧ Aside0 (whirligiglaw19_DmaAgain.l0 kq a0 a1 t150 (wrap64 (1 + (Int.tmod (wrap64 (a2)) 150))) x10_1 x157000_1 x157001_1 x157002_1 x157003_1 x157004_1 = some r) ∧ Aside0 (kq ≤ k) ∧ Aside0 (w'.heap[gb156]? = some (.cells #[.bool x157000_1, .int .u8 x157001_1, .int .u8 x157002_1, .int .u8 x157003_1, .int .u8 x157004_1] 27 (0, 0))) ∧ Aside0 (Below w.heap.size w w'))
  case atStart => exact ⟨(0), (t151), (t152), (t153), (t154), (t155), (by first | rfl | (simp; done) | (simp [*]; done)), H', ⟨Nat.le_refl _⟩, ⟨by (with_reducible repeat (first | refine blk_drewN ?_ _ | refine blk_drew ?_ | refine blk_alloc ?_ _)); refine blk_put (cs := #[.bool t151, .int .u8 t152, .int .u8 t153, .int .u8 t154, .int .u8 0]) ?_ 4 _ rfl; (with_reducible repeat (first | refine blk_drewN ?_ _ | refine blk_drew ?_ | refine blk_alloc ?_ _)); refine blk_put (cs := #[.bool t151, .int .u8 t152, .int .u8 t153, .int .u8 0, .int .u8 0]) ?_ 3 _ rfl; (with_reducible repeat (first | refine blk_drewN ?_ _ | refine blk_drew ?_ | refine blk_alloc ?_ _)); refine blk_put (cs := #[.bool t151, .int .u8 t152, .int .u8 0, .int .u8 0, .int .u8 0]) ?_ 2 _ rfl; (with_reducible repeat (first | refine blk_drewN ?_ _ | refine blk_drew ?_ | refine blk_alloc ?_ _)); refine blk_put (cs := #[.bool t151, .int .u8 0, .int .u8 0, .int .u8 0, .int .u8 0]) ?_ 1 _ rfl; (with_reducible repeat (first | refine blk_drewN ?_ _ | refine blk_drew ?_ | refine blk_alloc ?_ _)); refine blk_put (cs := #[.bool false, .int .u8 0, .int .u8 0, .int .u8 0, .int .u8 0]) ?_ 0 _ rfl; (with_reducible repeat (first | refine blk_drewN ?_ _ | refine blk_drew ?_ | refine blk_alloc ?_ _)); exact BK156.out⟩, ⟨by repeat (first | (with_reducible first | exact HB.out | apply below_alloc | apply pw_below_drewN | apply below_drew1 | refine below_set ?_ GE156.out) | exact HB.out)⟩⟩
  case round =>
    clear H'
    try clear c1
    try clear p2
    try clear c5
    try clear p6
    try clear c8
    try clear hcz9_0
    try clear hcz9_1
    try clear hcz9_2
    try clear hcz9_3
    try clear hcz9_4
    try clear hfz9_0
    try clear hfz9_1
    try clear hfz9_2
    try clear hfz9_3
    try clear hfz9_4
    obtain ⟨x10_1, x157000_1, x157001_1, x157002_1, x157003_1, x157004_1, rfl, HA, HK1, BK156, HB⟩ := hrel
    cases gk with
    | zero => exact absurd HA.out (by simp [whirligiglaw19_DmaAgain.l0])
    | succ k1 =>
      have H := HA.out
      clear HA
      simp only [whirligiglaw19_DmaAgain.l0] at H
      by_cases c10 : x10_1 < (wrap64 (1 + (Int.tmod (wrap64 (a2)) 150)))
      · rw [if_pos c10] at H
        have c10b0 : decide (x10_1 < (wrap64 (1 + (Int.tmod (wrap64 (a2)) 150)))) = true := decide_eq_true c10
        clear c10
        replace H := Option.bind_eq_some_iff.mp H
        obtain ⟨⟨t157, t158, t159, t160, t161, t162, t163, t164⟩, A110, H⟩ := H
        replace H : (whirligiglaw19_DmaAgain.l0 k1 a0 a1 t150 (wrap64 (1 + (Int.tmod (wrap64 (a2)) 150))) (wrap64 (x10_1 + 1)) t157 t158 t159 t160 t161) = some r := H
        have A11 := Aside0.mk A110
        clear A110
        have H' := Aside0.mk H
        clear H
        have hcz12_0 : wr.cell? ⟨gb156, 0, none⟩ = some (.bool x157000_1) := (blk_cell BK156.out 0).trans rfl
        have hcz12_1 : wr.cell? ⟨gb156, 1, none⟩ = some (.int .u8 x157001_1) := (blk_cell BK156.out 1).trans rfl
        have hcz12_2 : wr.cell? ⟨gb156, 2, none⟩ = some (.int .u8 x157002_1) := (blk_cell BK156.out 2).trans rfl
        have hcz12_3 : wr.cell? ⟨gb156, 3, none⟩ = some (.int .u8 x157003_1) := (blk_cell BK156.out 3).trans rfl
        have hcz12_4 : wr.cell? ⟨gb156, 4, none⟩ = some (.int .u8 x157004_1) := (blk_cell BK156.out 4).trans rfl
        have hfz12_0 := blk_frozen BK156.out 0
        have hfz12_1 := blk_frozen BK156.out 1
        have hfz12_2 := blk_frozen BK156.out 2
        have hfz12_3 := blk_frozen BK156.out 3
        have hfz12_4 := blk_frozen BK156.out 4
        go_wp2_with (first | ((with_reducible refine gate_callee (f := 11) rfl ?_); refine goesL_ (some 31) rfl rfl Try.func11 (by kernel_rfl) rfl #[.agg #[.bool x157000_1, .int .u8 x157001_1, .int .u8 x157002_1, .int .u8 x157003_1, .int .u8 x157004_1]] rfl (by (try simp only [List.map_toArray, List.map_cons, List.map_nil]); first | done | rfl | (simp only [List.length_drop, List.length_take]; rfl)) ?_; (with_reducible refine (dma_Step.calls x157000_1 x157001_1 x157002_1 x157003_1 x157004_1 t157 t158 t159 t160 t161 t162 t163 t164 _ A11.out).mono ?_); rintro e w13 ⟨rfl, hb⟩; refine ⟨_, rfl, ?_⟩; have n0_ := Aside0.mk (blk_below (g := gb156) (o := .cells #[.bool x157000_1, .int .u8 x157001_1, .int .u8 x157002_1, .int .u8 x157003_1, .int .u8 x157004_1] 27 (0, 0)) (by (with_reducible repeat (first | refine blk_drewN ?_ _ | refine blk_drew ?_ | refine blk_alloc ?_ _)); exact BK156.out) hb); have n1_ := Aside0.mk (below_step (by repeat (first | (with_reducible first | exact HB.out | apply below_alloc | apply pw_below_drewN | apply below_drew1 | refine below_set ?_ GE156.out) | exact HB.out)) hb); clear BK156; clear HB; have BK156 := n0_; have HB := n1_; clear n0_ n1_; (try clear hb); (try clear hb2); (try clear hk); (try clear hi); have hcz14_0 : w13.cell? ⟨gb156, 0, none⟩ = some (.bool x157000_1) := (blk_cell BK156.out 0).trans rfl; have hcz14_1 : w13.cell? ⟨gb156, 1, none⟩ = some (.int .u8 x157001_1) := (blk_cell BK156.out 1).trans rfl; have hcz14_2 : w13.cell? ⟨gb156, 2, none⟩ = some (.int .u8 x157002_1) := (blk_cell BK156.out 2).trans rfl; have hcz14_3 : w13.cell? ⟨gb156, 3, none⟩ = some (.int .u8 x157003_1) := (blk_cell BK156.out 3).trans rfl; have hcz14_4 : w13.cell? ⟨gb156, 4, none⟩ = some (.int .u8 x157004_1) := (blk_cell BK156.out 4).trans rfl; have hfz14_0 := blk_frozen BK156.out 0; have hfz14_1 := blk_frozen BK156.out 1; have hfz14_2 := blk_frozen BK156.out 2; have hfz14_3 := blk_frozen BK156.out 3; have hfz14_4 := blk_frozen BK156.out 4))
        go_roundg k1
        case measure => have := HK1.out; omega
        case rel => exact ⟨(wrap64 (x10_1 + 1)), (t157), (t158), (t159), (t160), (t161), (by first | rfl | (simp; done) | (simp [*]; done)), H', ⟨by have := HK1.out; omega⟩, ⟨by (with_reducible repeat (first | refine blk_drewN ?_ _ | refine blk_drew ?_ | refine blk_alloc ?_ _)); refine blk_put (cs := #[.bool t157, .int .u8 t158, .int .u8 t159, .int .u8 t160, .int .u8 x157004_1]) ?_ 4 _ rfl; (with_reducible repeat (first | refine blk_drewN ?_ _ | refine blk_drew ?_ | refine blk_alloc ?_ _)); refine blk_put (cs := #[.bool t157, .int .u8 t158, .int .u8 t159, .int .u8 x157003_1, .int .u8 x157004_1]) ?_ 3 _ rfl; (with_reducible repeat (first | refine blk_drewN ?_ _ | refine blk_drew ?_ | refine blk_alloc ?_ _)); refine blk_put (cs := #[.bool t157, .int .u8 t158, .int .u8 x157002_1, .int .u8 x157003_1, .int .u8 x157004_1]) ?_ 2 _ rfl; (with_reducible repeat (first | refine blk_drewN ?_ _ | refine blk_drew ?_ | refine blk_alloc ?_ _)); refine blk_put (cs := #[.bool t157, .int .u8 x157001_1, .int .u8 x157002_1, .int .u8 x157003_1, .int .u8 x157004_1]) ?_ 1 _ rfl; (with_reducible repeat (first | refine blk_drewN ?_ _ | refine blk_drew ?_ | refine blk_alloc ?_ _)); refine blk_put (cs := #[.bool x157000_1, .int .u8 x157001_1, .int .u8 x157002_1, .int .u8 x157003_1, .int .u8 x157004_1]) ?_ 0 _ rfl; (with_reducible repeat (first | refine blk_drewN ?_ _ | refine blk_drew ?_ | refine blk_alloc ?_ _)); exact BK156.out⟩, ⟨by repeat (first | (with_reducible first | exact HB.out | apply below_alloc | apply pw_below_drewN | apply below_drew1 | refine below_set ?_ GE156.out) | exact HB.out)⟩⟩
      · rw [if_neg c10] at H
        have c10b0 : decide (x10_1 < (wrap64 (1 + (Int.tmod (wrap64 (a2)) 150)))) = false := decide_eq_false c10
        clear c10
        replace H := Option.bind_eq_some_iff.mp H
        obtain ⟨⟨t165, t166, t167, t168, t169⟩, A150, H⟩ := H
        replace H : (whirligiglaw19_DmaAgain.l1 k1 a0 a1 t150 (wrap64 (1 + (Int.tmod (wrap64 (a2)) 150))) 0 t165 t166 t167 t168 t169) = some r := H
        have A15 := Aside0.mk A150
        clear A150
        have H' := Aside0.mk H
        clear H
        have hcz16_0 : wr.cell? ⟨gb156, 0, none⟩ = some (.bool x157000_1) := (blk_cell BK156.out 0).trans rfl
        have hcz16_1 : wr.cell? ⟨gb156, 1, none⟩ = some (.int .u8 x157001_1) := (blk_cell BK156.out 1).trans rfl
        have hcz16_2 : wr.cell? ⟨gb156, 2, none⟩ = some (.int .u8 x157002_1) := (blk_cell BK156.out 2).trans rfl
        have hcz16_3 : wr.cell? ⟨gb156, 3, none⟩ = some (.int .u8 x157003_1) := (blk_cell BK156.out 3).trans rfl
        have hcz16_4 : wr.cell? ⟨gb156, 4, none⟩ = some (.int .u8 x157004_1) := (blk_cell BK156.out 4).trans rfl
        have hfz16_0 := blk_frozen BK156.out 0
        have hfz16_1 := blk_frozen BK156.out 1
        have hfz16_2 := blk_frozen BK156.out 2
        have hfz16_3 := blk_frozen BK156.out 3
        have hfz16_4 := blk_frozen BK156.out 4
        go_wp2_with (first | ((with_reducible refine gate_callee (f := 13) rfl ?_); refine goesL_ (some 38) rfl rfl Try.func13 (by kernel_rfl) rfl #[.agg #[.bool x157000_1, .int .u8 x157001_1, .int .u8 x157002_1, .int .u8 x157003_1, .int .u8 x157004_1], .int .u8 a1] rfl (by (try simp only [List.map_toArray, List.map_cons, List.map_nil]); first | done | rfl | (simp only [List.length_drop, List.length_take]; rfl)) ?_; (with_reducible refine (dma_Write.calls x157000_1 x157001_1 x157002_1 x157003_1 x157004_1 a1 t165 t166 t167 t168 t169 _ A15.out).mono ?_); rintro e w17 ⟨rfl, hb⟩; refine ⟨_, rfl, ?_⟩; have n0_ := Aside0.mk (blk_below (g := gb156) (o := .cells #[.bool x157000_1, .int .u8 x157001_1, .int .u8 x157002_1, .int .u8 x157003_1, .int .u8 x157004_1] 27 (0, 0)) (by (with_reducible repeat (first | refine blk_drewN ?_ _ | refine blk_drew ?_ | refine blk_alloc ?_ _)); exact BK156.out) hb); have n1_ := Aside0.mk (below_step (by repeat (first | (with_reducible first | exact HB.out | apply below_alloc | apply pw_below_drewN | apply below_drew1 | refine below_set ?_ GE156.out) | exact HB.out)) hb); clear BK156; clear HB; have BK156 := n0_; have HB := n1_; clear n0_ n1_; (try clear hb); (try clear hb2); (try clear hk); (try clear hi); have hcz18_0 : w17.cell? ⟨gb156, 0, none⟩ = some (.bool x157000_1) := (blk_cell BK156.out 0).trans rfl; have hcz18_1 : w17.cell? ⟨gb156, 1, none⟩ = some (.int .u8 x157001_1) := (blk_cell BK156.out 1).trans rfl; have hcz18_2 : w17.cell? ⟨gb156, 2, none⟩ = some (.int .u8 x157002_1) := (blk_cell BK156.out 2).trans rfl; have hcz18_3 : w17.cell? ⟨gb156, 3, none⟩ = some (.int .u8 x157003_1) := (blk_cell BK156.out 3).trans rfl; have hcz18_4 : w17.cell? ⟨gb156, 4, none⟩ = some (.int .u8 x157004_1) := (blk_cell BK156.out 4).trans rfl; have hfz18_0 := blk_frozen BK156.out 0; have hfz18_1 := blk_frozen BK156.out 1; have hfz18_2 := blk_frozen BK156.out 2; have hfz18_3 := blk_frozen BK156.out 3; have hfz18_4 := blk_frozen BK156.out 4))
        go_loopg [11] k1 (fun kq v11 w' => ∃ (x11_2 : Int) (x157000_2 : Bool) (x157001_2 : Int) (x157002_2 : Int) (x157003_2 : Int) (x157004_2 : Int), v11 = .int .i64 x11_2 ∧ Aside0 (whirligiglaw19_DmaAgain.l1 kq a0 a1 t150 (wrap64 (1 + (Int.tmod (wrap64 (a2)) 150))) x11_2 x157000_2 x157001_2 x157002_2 x157003_2 x157004_2 = some r) ∧ Aside0 (kq ≤ k1) ∧ Aside0 (w'.heap[gb156]? = some (.cells #[.bool x157000_2, .int .u8 x157001_2, .int .u8 x157002_2, .int .u8 x157003_2, .int .u8 x157004_2] 27 (0, 0))) ∧ Aside0 (Below w.heap.size w w'))
        case atStart => exact ⟨(0), (t165), (t166), (t167), (t168), (t169), (by first | rfl | (simp; done) | (simp [*]; done)), H', ⟨Nat.le_refl _⟩, ⟨by (with_reducible repeat (first | refine blk_drewN ?_ _ | refine blk_drew ?_ | refine blk_alloc ?_ _)); refine blk_put (cs := #[.bool t165, .int .u8 t166, .int .u8 t167, .int .u8 t168, .int .u8 x157004_1]) ?_ 4 _ rfl; (with_reducible repeat (first | refine blk_drewN ?_ _ | refine blk_drew ?_ | refine blk_alloc ?_ _)); refine blk_put (cs := #[.bool t165, .int .u8 t166, .int .u8 t167, .int .u8 x157003_1, .int .u8 x157004_1]) ?_ 3 _ rfl; (with_reducible repeat (first | refine blk_drewN ?_ _ | refine blk_drew ?_ | refine blk_alloc ?_ _)); refine blk_put (cs := #[.bool t165, .int .u8 t166, .int .u8 x157002_1, .int .u8 x157003_1, .int .u8 x157004_1]) ?_ 2 _ rfl; (with_reducible repeat (first | refine blk_drewN ?_ _ | refine blk_drew ?_ | refine blk_alloc ?_ _)); refine blk_put (cs := #[.bool t165, .int .u8 x157001_1, .int .u8 x157002_1, .int .u8 x157003_1, .int .u8 x157004_1]) ?_ 1 _ rfl; (with_reducible repeat (first | refine blk_drewN ?_ _ | refine blk_drew ?_ | refine blk_alloc ?_ _)); refine blk_put (cs := #[.bool x157000_1, .int .u8 x157001_1, .int .u8 x157002_1, .int .u8 x157003_1, .int .u8 x157004_1]) ?_ 0 _ rfl; (with_reducible repeat (first | refine blk_drewN ?_ _ | refine blk_drew ?_ | refine blk_alloc ?_ _)); exact BK156.out⟩, ⟨by repeat (first | (with_reducible first | exact HB.out | apply below_alloc | apply pw_below_drewN | apply below_drew1 | refine below_set ?_ GE156.out) | exact HB.out)⟩⟩
        case round =>
          clear H'
          try clear c1
          try clear p2
          try clear c5
          try clear p6
          try clear c8
          try clear c10
          try clear c10b0
          try clear c11
          try clear c13
          try clear hcz12_0
          try clear hcz12_1
          try clear hcz12_2
          try clear hcz12_3
          try clear hcz12_4
          try clear hcz14_0
          try clear hcz14_1
          try clear hcz14_2
          try clear hcz14_3
          try clear hcz14_4
          try clear hcz16_0
          try clear hcz16_1
          try clear hcz16_2
          try clear hcz16_3
          try clear hcz16_4
          try clear hcz18_0
          try clear hcz18_1
          try clear hcz18_2
          try clear hcz18_3
          try clear hcz18_4
          try clear hcz9_0
          try clear hcz9_1
          try clear hcz9_2
          try clear hcz9_3
          try clear hcz9_4
          try clear hfz12_0
          try clear hfz12_1
          try clear hfz12_2
          try clear hfz12_3
          try clear hfz12_4
          try clear hfz14_0
          try clear hfz14_1
          try clear hfz14_2
          try clear hfz14_3
          try clear hfz14_4
          try clear hfz16_0
          try clear hfz16_1
          try clear hfz16_2
          try clear hfz16_3
          try clear hfz16_4
          try clear hfz18_0
          try clear hfz18_1
          try clear hfz18_2
          try clear hfz18_3
          try clear hfz18_4
          try clear hfz9_0
          try clear hfz9_1
          try clear hfz9_2
          try clear hfz9_3
          try clear hfz9_4
          try clear p2
          try clear p6
          obtain ⟨x11_2, x157000_2, x157001_2, x157002_2, x157003_2, x157004_2, rfl, HA, HK2, BK156, HB⟩ := hrel
          cases gk with
          | zero => exact absurd HA.out (by simp [whirligiglaw19_DmaAgain.l1])
          | succ k2 =>
            have H := HA.out
            clear HA
            simp only [whirligiglaw19_DmaAgain.l1] at H
            by_cases c19 : x11_2 < 162
            · rw [if_pos c19] at H
              have c19b0 : decide (x11_2 < 162) = true := decide_eq_true c19
              clear c19
              replace H := Option.bind_eq_some_iff.mp H
              obtain ⟨⟨t170, t171, t172, t173, t174, t175, t176, t177⟩, A200, H⟩ := H
              replace H : (if x11_2 < 2 then (if (wrap64 (1 + (Int.tmod (wrap64 (a2)) 150))) > 2 then (if t177 = true then ((dma_Source.f a0 t176).bind fun t179 => (if t175 = t179 then (if (wrap64 (t176)) = (wrap64 ((wrap64 ((wrap64 (1 + (Int.tmod (wrap64 (a2)) 150))) - 2)) + x11_2)) then (if (wrap64 (1 + (Int.tmod (wrap64 (a2)) 150))) = 1 then (whirligiglaw19_DmaAgain.j2 k2 a0 a1 t150 (wrap64 (1 + (Int.tmod (wrap64 (a2)) 150))) x11_2 t177 t170 t171 t172 t173 t174) else (whirligiglaw19_DmaAgain.j2 k2 a0 a1 t150 (wrap64 (1 + (Int.tmod (wrap64 (a2)) 150))) x11_2 false t170 t171 t172 t173 t174)) else (whirligiglaw19_DmaAgain.j2 k2 a0 a1 t150 (wrap64 (1 + (Int.tmod (wrap64 (a2)) 150))) x11_2 true t170 t171 t172 t173 t174)) else (whirligiglaw19_DmaAgain.j2 k2 a0 a1 t150 (wrap64 (1 + (Int.tmod (wrap64 (a2)) 150))) x11_2 true t170 t171 t172 t173 t174))) else (whirligiglaw19_DmaAgain.j2 k2 a0 a1 t150 (wrap64 (1 + (Int.tmod (wrap64 (a2)) 150))) x11_2 true t170 t171 t172 t173 t174)) else (if (wrap64 (1 + (Int.tmod (wrap64 (a2)) 150))) = 1 then (whirligiglaw19_DmaAgain.j2 k2 a0 a1 t150 (wrap64 (1 + (Int.tmod (wrap64 (a2)) 150))) x11_2 t177 t170 t171 t172 t173 t174) else (whirligiglaw19_DmaAgain.j2 k2 a0 a1 t150 (wrap64 (1 + (Int.tmod (wrap64 (a2)) 150))) x11_2 false t170 t171 t172 t173 t174))) else (if t177 = true then (if (wrap64 (t176)) = (wrap64 (x11_2 - 2)) then ((dma_Source.f a1 t176).bind fun t180 => (if t175 = t180 then (whirligiglaw19_DmaAgain.l1 k2 a0 a1 t150 (wrap64 (1 + (Int.tmod (wrap64 (a2)) 150))) (wrap64 (x11_2 + 1)) t170 t171 t172 t173 t174) else (some false))) else (some false)) else (some false))) = some r := H
              have A20 := Aside0.mk A200
              clear A200
              by_cases c21 : x11_2 < 2
              · rw [if_pos c21] at H
                have c21b0 : decide (x11_2 < 2) = true := decide_eq_true c21
                clear c21
                have HC22 := Aside0.mk H
                clear H
                have hcz23_0 : wr.cell? ⟨gb156, 0, none⟩ = some (.bool x157000_2) := (blk_cell BK156.out 0).trans rfl
                have hcz23_1 : wr.cell? ⟨gb156, 1, none⟩ = some (.int .u8 x157001_2) := (blk_cell BK156.out 1).trans rfl
                have hcz23_2 : wr.cell? ⟨gb156, 2, none⟩ = some (.int .u8 x157002_2) := (blk_cell BK156.out 2).trans rfl
                have hcz23_3 : wr.cell? ⟨gb156, 3, none⟩ = some (.int .u8 x157003_2) := (blk_cell BK156.out 3).trans rfl
                have hcz23_4 : wr.cell? ⟨gb156, 4, none⟩ = some (.int .u8 x157004_2) := (blk_cell BK156.out 4).trans rfl
                have hfz23_0 := blk_frozen BK156.out 0
                have hfz23_1 := blk_frozen BK156.out 1
                have hfz23_2 := blk_frozen BK156.out 2
                have hfz23_3 := blk_frozen BK156.out 3
                have hfz23_4 := blk_frozen BK156.out 4
                go_upto_region 15 with (first | ((with_reducible refine gate_callee (f := 11) rfl ?_); refine goesL_ (some 45) rfl rfl Try.func11 (by kernel_rfl) rfl #[.agg #[.bool x157000_2, .int .u8 x157001_2, .int .u8 x157002_2, .int .u8 x157003_2, .int .u8 x157004_2]] rfl (by (try simp only [List.map_toArray, List.map_cons, List.map_nil]); first | done | rfl | (simp only [List.length_drop, List.length_take]; rfl)) ?_; (with_reducible refine (dma_Step.calls x157000_2 x157001_2 x157002_2 x157003_2 x157004_2 t170 t171 t172 t173 t174 t175 t176 t177 _ A20.out).mono ?_); rintro e w24 ⟨rfl, hb⟩; refine ⟨_, rfl, ?_⟩; have n0_ := Aside0.mk (blk_below (g := gb156) (o := .cells #[.bool x157000_2, .int .u8 x157001_2, .int .u8 x157002_2, .int .u8 x157003_2, .int .u8 x157004_2] 27 (0, 0)) (by (with_reducible repeat (first | refine blk_drewN ?_ _ | refine blk_drew ?_ | refine blk_alloc ?_ _)); exact BK156.out) hb); have n1_ := Aside0.mk (below_step (by repeat (first | (with_reducible first | exact HB.out | apply below_alloc | apply pw_below_drewN | apply below_drew1 | refine below_set ?_ GE156.out) | exact HB.out)) hb); clear BK156; clear HB; have BK156 := n0_; have HB := n1_; clear n0_ n1_; (try clear hb); (try clear hb2); (try clear hk); (try clear hi)) | ((with_reducible refine gate_dst (N := 12) rfl ?_); refine box_event ?hg (N := 12) ?hd (cs := #[.bool false, .int .u8 0, .int .u8 0, .int .u8 0, .int .u8 0]) (t := 27) ?hr ?_; (case hd => rfl); (case hg => rfl); (case hr => first | (go_simp; done) | (go_simp; rfl)); intro gb178 hg w25 hbox hb; have n0_ := Aside0.mk (blk_below (g := gb156) (o := .cells #[.bool x157000_2, .int .u8 x157001_2, .int .u8 x157002_2, .int .u8 x157003_2, .int .u8 x157004_2] 27 (0, 0)) (by (with_reducible repeat (first | refine blk_drewN ?_ _ | refine blk_drew ?_ | refine blk_alloc ?_ _)); exact BK156.out) hb); have n1_ := Aside0.mk (below_step (by repeat (first | (with_reducible first | exact HB.out | apply below_alloc | apply pw_below_drewN | apply below_drew1 | refine below_set ?_ GE156.out) | exact HB.out)) hb); have n2_ := Aside0.mk (hbox); have n3_ := Aside0.mk ((by rw [hg]; exact (below_size (by repeat (first | (with_reducible first | exact HB.out | apply below_alloc | apply pw_below_drewN | apply below_drew1 | refine below_set ?_ GE156.out) | exact HB.out))) : w.heap.size ≤ gb178)); have n4_ := Aside0.mk ((by rw [hg]; exact (below_size (by repeat (first | (with_reducible first | exact HB.out | apply below_alloc | apply pw_below_drewN | apply below_drew1 | refine below_set ?_ GE156.out) | exact HB.out))) : w.heap.size ≤ gb178)); have n5_ := Aside0.mk ((by rw [hg]; exact Nat.ne_of_lt (blk_lt (g := gb156) (o := .cells #[.bool x157000_2, .int .u8 x157001_2, .int .u8 x157002_2, .int .u8 x157003_2, .int .u8 x157004_2] 27 (0, 0)) (by (with_reducible repeat (first | refine blk_drewN ?_ _ | refine blk_drew ?_ | refine blk_alloc ?_ _)); exact BK156.out)) : gb156 ≠ gb178)); have n6_ := Aside0.mk ((by rw [hg]; exact Nat.ne_of_gt (blk_lt (g := gb156) (o := .cells #[.bool x157000_2, .int .u8 x157001_2, .int .u8 x157002_2, .int .u8 x157003_2, .int .u8 x157004_2] 27 (0, 0)) (by (with_reducible repeat (first | refine blk_drewN ?_ _ | refine blk_drew ?_ | refine blk_alloc ?_ _)); exact BK156.out)) : gb178 ≠ gb156)); clear BK156; clear HB; have BK156 := n0_; have HB := n1_; have BK178 := n2_; have GW178 := n3_; have GE178 := n4_; have NB156_178 := n5_; have NB178_156 := n6_; clear n0_ n1_ n2_ n3_ n4_ n5_ n6_; clear hb hbox hg; have hnb26 := NB178_156.out; have hnc26 := NB156_178.out; have hcz27_0 : w25.cell? ⟨gb178, 0, none⟩ = some (.bool false) := (blk_cell BK178.out 0).trans rfl; have hcz27_1 : w25.cell? ⟨gb178, 1, none⟩ = some (.int .u8 0) := (blk_cell BK178.out 1).trans rfl; have hcz27_2 : w25.cell? ⟨gb178, 2, none⟩ = some (.int .u8 0) := (blk_cell BK178.out 2).trans rfl; have hcz27_3 : w25.cell? ⟨gb178, 3, none⟩ = some (.int .u8 0) := (blk_cell BK178.out 3).trans rfl; have hcz27_4 : w25.cell? ⟨gb178, 4, none⟩ = some (.int .u8 0) := (blk_cell BK178.out 4).trans rfl; have hfz27_0 := blk_frozen BK178.out 0; have hfz27_1 := blk_frozen BK178.out 1; have hfz27_2 := blk_frozen BK178.out 2; have hfz27_3 := blk_frozen BK178.out 3; have hfz27_4 := blk_frozen BK178.out 4; have hcz28_0 : w25.cell? ⟨gb156, 0, none⟩ = some (.bool x157000_2) := (blk_cell BK156.out 0).trans rfl; have hcz28_1 : w25.cell? ⟨gb156, 1, none⟩ = some (.int .u8 x157001_2) := (blk_cell BK156.out 1).trans rfl; have hcz28_2 : w25.cell? ⟨gb156, 2, none⟩ = some (.int .u8 x157002_2) := (blk_cell BK156.out 2).trans rfl; have hcz28_3 : w25.cell? ⟨gb156, 3, none⟩ = some (.int .u8 x157003_2) := (blk_cell BK156.out 3).trans rfl; have hcz28_4 : w25.cell? ⟨gb156, 4, none⟩ = some (.int .u8 x157004_2) := (blk_cell BK156.out 4).trans rfl; have hfz28_0 := blk_frozen BK156.out 0; have hfz28_1 := blk_frozen BK156.out 1; have hfz28_2 := blk_frozen BK156.out 2; have hfz28_3 := blk_frozen BK156.out 3; have hfz28_4 := blk_frozen BK156.out 4))
                (try simp only [Act.put, List.setIfInBounds_toArray, List.set_cons_zero, List.set_cons_succ])
                go_cut [81] (fun v81 wc => ∃ (kq : Nat) (x81_21 : Bool), v81 = .bool x81_21 ∧ Aside0 (whirligiglaw19_DmaAgain.j2 kq a0 a1 t150 (wrap64 (1 + (Int.tmod (wrap64 (a2)) 150))) x11_2 x81_21 t170 t171 t172 t173 t174 = some r) ∧ Aside0 (kq ≤ k2) ∧ Aside0 (wc.heap[gb156]? = some (.cells #[.bool t170, .int .u8 t171, .int .u8 t172, .int .u8 t173, .int .u8 t174] 27 (0, 0))) ∧ Aside0 (wc.heap[gb178]? = some (.cells #[.bool t170, .int .u8 t171, .int .u8 t172, .int .u8 t173, .int .u8 t174] 27 (0, 0))) ∧ Aside0 (Below w.heap.size w wc))
                case first =>
                  have H := HC22.out
                  clear HC22
                  by_cases c29 : (wrap64 (1 + (Int.tmod (wrap64 (a2)) 150))) > 2
                  · rw [if_pos c29] at H
                    have c29b0 : decide (2 < (wrap64 (1 + (Int.tmod (wrap64 (a2)) 150)))) = true := decide_eq_true c29
                    clear c29
                    (first | rw [c29b0] | (simp only [i64_w, i32_w]; rw [c29b0]) | skip)
                    by_cases c30 : t177 = true
                    · subst c30
                      have H1 : ((dma_Source.f a0 t176).bind fun t179 => (if t175 = t179 then (if (wrap64 (t176)) = (wrap64 ((wrap64 ((wrap64 (1 + (Int.tmod (wrap64 (a2)) 150))) - 2)) + x11_2)) then (if (wrap64 (1 + (Int.tmod (wrap64 (a2)) 150))) = 1 then (whirligiglaw19_DmaAgain.j2 k2 a0 a1 t150 (wrap64 (1 + (Int.tmod (wrap64 (a2)) 150))) x11_2 true t170 t171 t172 t173 t174) else (whirligiglaw19_DmaAgain.j2 k2 a0 a1 t150 (wrap64 (1 + (Int.tmod (wrap64 (a2)) 150))) x11_2 false t170 t171 t172 t173 t174)) else (whirligiglaw19_DmaAgain.j2 k2 a0 a1 t150 (wrap64 (1 + (Int.tmod (wrap64 (a2)) 150))) x11_2 true t170 t171 t172 t173 t174)) else (whirligiglaw19_DmaAgain.j2 k2 a0 a1 t150 (wrap64 (1 + (Int.tmod (wrap64 (a2)) 150))) x11_2 true t170 t171 t172 t173 t174))) = some r := by rw [if_pos rfl] at H; exact H
                      clear H
                      have H := H1
                      clear H1
                      replace H := Option.bind_eq_some_iff.mp H
                      obtain ⟨t179, A310, H⟩ := H
                      replace H : (if t175 = t179 then (if (wrap64 (t176)) = (wrap64 ((wrap64 ((wrap64 (1 + (Int.tmod (wrap64 (a2)) 150))) - 2)) + x11_2)) then (if (wrap64 (1 + (Int.tmod (wrap64 (a2)) 150))) = 1 then (whirligiglaw19_DmaAgain.j2 k2 a0 a1 t150 (wrap64 (1 + (Int.tmod (wrap64 (a2)) 150))) x11_2 true t170 t171 t172 t173 t174) else (whirligiglaw19_DmaAgain.j2 k2 a0 a1 t150 (wrap64 (1 + (Int.tmod (wrap64 (a2)) 150))) x11_2 false t170 t171 t172 t173 t174)) else (whirligiglaw19_DmaAgain.j2 k2 a0 a1 t150 (wrap64 (1 + (Int.tmod (wrap64 (a2)) 150))) x11_2 true t170 t171 t172 t173 t174)) else (whirligiglaw19_DmaAgain.j2 k2 a0 a1 t150 (wrap64 (1 + (Int.tmod (wrap64 (a2)) 150))) x11_2 true t170 t171 t172 t173 t174)) = some r := H
                      have A31 := Aside0.mk A310
                      clear A310
                      by_cases c32 : t175 = t179
                      · rw [if_pos c32] at H
                        have c32b0 : (t175 == t179) = true := beq_iff_eq.mpr c32
                        have c32b1 : (t175 != t179) = false := bne_eq_false_iff_eq.mpr c32
                        clear c32
                        by_cases c33 : (wrap64 (t176)) = (wrap64 ((wrap64 ((wrap64 (1 + (Int.tmod (wrap64 (a2)) 150))) - 2)) + x11_2))
                        · rw [if_pos c33] at H
                          have c33b0 : ((wrap64 (t176)) == (wrap64 ((wrap64 ((wrap64 (1 + (Int.tmod (wrap64 (a2)) 150))) - 2)) + x11_2))) = true := beq_iff_eq.mpr c33
                          have c33b1 : ((wrap64 (t176)) != (wrap64 ((wrap64 ((wrap64 (1 + (Int.tmod (wrap64 (a2)) 150))) - 2)) + x11_2))) = false := bne_eq_false_iff_eq.mpr c33
                          clear c33
                          by_cases c34 : (wrap64 (1 + (Int.tmod (wrap64 (a2)) 150))) = 1
                          · rw [if_pos c34] at H
                            have c34b0 : ((wrap64 (1 + (Int.tmod (wrap64 (a2)) 150))) == 1) = true := beq_iff_eq.mpr c34
                            have c34b1 : ((wrap64 (1 + (Int.tmod (wrap64 (a2)) 150))) != 1) = false := bne_eq_false_iff_eq.mpr c34
                            clear c34
                            have H' := Aside0.mk H
                            clear H
                            go_wp2_with (first | (go_at_call 9; (with_reducible refine (dma_Source.calls a0 t176 t179 _ A31.out).mono ?_); rintro e w' ⟨rfl, ⟨nd, rfl⟩⟩))
                            go_meet
                            case rel => exact ⟨_, (true), (by first | rfl | (simp; done) | (simp [*]; done)), H', ⟨by have := HK1.out; have := HK2.out; first | omega | exact Nat.le_refl _⟩, ⟨by (with_reducible repeat (first | refine blk_drewN ?_ _ | refine blk_drew ?_ | refine blk_alloc ?_ _)); refine blk_put (cs := #[.bool t170, .int .u8 t171, .int .u8 t172, .int .u8 t173, .int .u8 x157004_2]) ?_ 4 _ rfl; (with_reducible repeat (first | refine blk_drewN ?_ _ | refine blk_drew ?_ | refine blk_alloc ?_ _)); refine blk_put (cs := #[.bool t170, .int .u8 t171, .int .u8 t172, .int .u8 x157003_2, .int .u8 x157004_2]) ?_ 3 _ rfl; (with_reducible repeat (first | refine blk_drewN ?_ _ | refine blk_drew ?_ | refine blk_alloc ?_ _)); refine blk_put (cs := #[.bool t170, .int .u8 t171, .int .u8 x157002_2, .int .u8 x157003_2, .int .u8 x157004_2]) ?_ 2 _ rfl; (with_reducible repeat (first | refine blk_drewN ?_ _ | refine blk_drew ?_ | refine blk_alloc ?_ _)); refine blk_put (cs := #[.bool t170, .int .u8 x157001_2, .int .u8 x157002_2, .int .u8 x157003_2, .int .u8 x157004_2]) ?_ 1 _ rfl; (with_reducible repeat (first | refine blk_drewN ?_ _ | refine blk_drew ?_ | refine blk_alloc ?_ _)); refine blk_put (cs := #[.bool x157000_2, .int .u8 x157001_2, .int .u8 x157002_2, .int .u8 x157003_2, .int .u8 x157004_2]) ?_ 0 _ rfl; (with_reducible repeat (first | refine blk_drewN ?_ _ | refine blk_drew ?_ | refine blk_alloc ?_ _)); refine blk_far ?_ NB156_178.out _; (with_reducible repeat (first | refine blk_drewN ?_ _ | refine blk_drew ?_ | refine blk_alloc ?_ _)); refine blk_far ?_ NB156_178.out _; (with_reducible repeat (first | refine blk_drewN ?_ _ | refine blk_drew ?_ | refine blk_alloc ?_ _)); refine blk_far ?_ NB156_178.out _; (with_reducible repeat (first | refine blk_drewN ?_ _ | refine blk_drew ?_ | refine blk_alloc ?_ _)); refine blk_far ?_ NB156_178.out _; (with_reducible repeat (first | refine blk_drewN ?_ _ | refine blk_drew ?_ | refine blk_alloc ?_ _)); refine blk_far ?_ NB156_178.out _; (with_reducible repeat (first | refine blk_drewN ?_ _ | refine blk_drew ?_ | refine blk_alloc ?_ _)); exact BK156.out⟩, ⟨by (with_reducible repeat (first | refine blk_drewN ?_ _ | refine blk_drew ?_ | refine blk_alloc ?_ _)); refine blk_far ?_ NB178_156.out _; (with_reducible repeat (first | refine blk_drewN ?_ _ | refine blk_drew ?_ | refine blk_alloc ?_ _)); refine blk_far ?_ NB178_156.out _; (with_reducible repeat (first | refine blk_drewN ?_ _ | refine blk_drew ?_ | refine blk_alloc ?_ _)); refine blk_far ?_ NB178_156.out _; (with_reducible repeat (first | refine blk_drewN ?_ _ | refine blk_drew ?_ | refine blk_alloc ?_ _)); refine blk_far ?_ NB178_156.out _; (with_reducible repeat (first | refine blk_drewN ?_ _ | refine blk_drew ?_ | refine blk_alloc ?_ _)); refine blk_far ?_ NB178_156.out _; (with_reducible repeat (first | refine blk_drewN ?_ _ | refine blk_drew ?_ | refine blk_alloc ?_ _)); refine blk_put (cs := #[.bool t170, .int .u8 t171, .int .u8 t172, .int .u8 t173, .int .u8 0]) ?_ 4 _ rfl; (with_reducible repeat (first | refine blk_drewN ?_ _ | refine blk_drew ?_ | refine blk_alloc ?_ _)); refine blk_put (cs := #[.bool t170, .int .u8 t171, .int .u8 t172, .int .u8 0, .int .u8 0]) ?_ 3 _ rfl; (with_reducible repeat (first | refine blk_drewN ?_ _ | refine blk_drew ?_ | refine blk_alloc ?_ _)); refine blk_put (cs := #[.bool t170, .int .u8 t171, .int .u8 0, .int .u8 0, .int .u8 0]) ?_ 2 _ rfl; (with_reducible repeat (first | refine blk_drewN ?_ _ | refine blk_drew ?_ | refine blk_alloc ?_ _)); refine blk_put (cs := #[.bool t170, .int .u8 0, .int .u8 0, .int .u8 0, .int .u8 0]) ?_ 1 _ rfl; (with_reducible repeat (first | refine blk_drewN ?_ _ | refine blk_drew ?_ | refine blk_alloc ?_ _)); refine blk_put (cs := #[.bool false, .int .u8 0, .int .u8 0, .int .u8 0, .int .u8 0]) ?_ 0 _ rfl; (with_reducible repeat (first | refine blk_drewN ?_ _ | refine blk_drew ?_ | refine blk_alloc ?_ _)); exact BK178.out⟩, ⟨by repeat (first | (with_reducible first | exact HB.out | apply below_alloc | apply pw_below_drewN | apply below_drew1 | refine below_set ?_ GE156.out | refine below_set ?_ GE178.out) | exact HB.out)⟩⟩
                          · rw [if_neg c34] at H
                            have c34b0 : ((wrap64 (1 + (Int.tmod (wrap64 (a2)) 150))) == 1) = false := beq_eq_false_iff_ne.mpr c34
                            have c34b1 : ((wrap64 (1 + (Int.tmod (wrap64 (a2)) 150))) != 1) = true := bne_iff_ne.mpr c34
                            have H' := Aside0.mk H
                            clear H
                            go_wp2_with (first | (go_at_call 9; (with_reducible refine (dma_Source.calls a0 t176 t179 _ A31.out).mono ?_); rintro e w' ⟨rfl, ⟨nd, rfl⟩⟩))
                            go_meet
                            case rel => exact ⟨_, (false), (by first | rfl | (simp; done) | (simp [*]; done)), H', ⟨by have := HK1.out; have := HK2.out; first | omega | exact Nat.le_refl _⟩, ⟨by (with_reducible repeat (first | refine blk_drewN ?_ _ | refine blk_drew ?_ | refine blk_alloc ?_ _)); refine blk_put (cs := #[.bool t170, .int .u8 t171, .int .u8 t172, .int .u8 t173, .int .u8 x157004_2]) ?_ 4 _ rfl; (with_reducible repeat (first | refine blk_drewN ?_ _ | refine blk_drew ?_ | refine blk_alloc ?_ _)); refine blk_put (cs := #[.bool t170, .int .u8 t171, .int .u8 t172, .int .u8 x157003_2, .int .u8 x157004_2]) ?_ 3 _ rfl; (with_reducible repeat (first | refine blk_drewN ?_ _ | refine blk_drew ?_ | refine blk_alloc ?_ _)); refine blk_put (cs := #[.bool t170, .int .u8 t171, .int .u8 x157002_2, .int .u8 x157003_2, .int .u8 x157004_2]) ?_ 2 _ rfl; (with_reducible repeat (first | refine blk_drewN ?_ _ | refine blk_drew ?_ | refine blk_alloc ?_ _)); refine blk_put (cs := #[.bool t170, .int .u8 x157001_2, .int .u8 x157002_2, .int .u8 x157003_2, .int .u8 x157004_2]) ?_ 1 _ rfl; (with_reducible repeat (first | refine blk_drewN ?_ _ | refine blk_drew ?_ | refine blk_alloc ?_ _)); refine blk_put (cs := #[.bool x157000_2, .int .u8 x157001_2, .int .u8 x157002_2, .int .u8 x157003_2, .int .u8 x157004_2]) ?_ 0 _ rfl; (with_reducible repeat (first | refine blk_drewN ?_ _ | refine blk_drew ?_ | refine blk_alloc ?_ _)); refine blk_far ?_ NB156_178.out _; (with_reducible repeat (first | refine blk_drewN ?_ _ | refine blk_drew ?_ | refine blk_alloc ?_ _)); refine blk_far ?_ NB156_178.out _; (with_reducible repeat (first | refine blk_drewN ?_ _ | refine blk_drew ?_ | refine blk_alloc ?_ _)); refine blk_far ?_ NB156_178.out _; (with_reducible repeat (first | refine blk_drewN ?_ _ | refine blk_drew ?_ | refine blk_alloc ?_ _)); refine blk_far ?_ NB156_178.out _; (with_reducible repeat (first | refine blk_drewN ?_ _ | refine blk_drew ?_ | refine blk_alloc ?_ _)); refine blk_far ?_ NB156_178.out _; (with_reducible repeat (first | refine blk_drewN ?_ _ | refine blk_drew ?_ | refine blk_alloc ?_ _)); exact BK156.out⟩, ⟨by (with_reducible repeat (first | refine blk_drewN ?_ _ | refine blk_drew ?_ | refine blk_alloc ?_ _)); refine blk_far ?_ NB178_156.out _; (with_reducible repeat (first | refine blk_drewN ?_ _ | refine blk_drew ?_ | refine blk_alloc ?_ _)); refine blk_far ?_ NB178_156.out _; (with_reducible repeat (first | refine blk_drewN ?_ _ | refine blk_drew ?_ | refine blk_alloc ?_ _)); refine blk_far ?_ NB178_156.out _; (with_reducible repeat (first | refine blk_drewN ?_ _ | refine blk_drew ?_ | refine blk_alloc ?_ _)); refine blk_far ?_ NB178_156.out _; (with_reducible repeat (first | refine blk_drewN ?_ _ | refine blk_drew ?_ | refine blk_alloc ?_ _)); refine blk_far ?_ NB178_156.out _; (with_reducible repeat (first | refine blk_drewN ?_ _ | refine blk_drew ?_ | refine blk_alloc ?_ _)); refine blk_put (cs := #[.bool t170, .int .u8 t171, .int .u8 t172, .int .u8 t173, .int .u8 0]) ?_ 4 _ rfl; (with_reducible repeat (first | refine blk_drewN ?_ _ | refine blk_drew ?_ | refine blk_alloc ?_ _)); refine blk_put (cs := #[.bool t170, .int .u8 t171, .int .u8 t172, .int .u8 0, .int .u8 0]) ?_ 3 _ rfl; (with_reducible repeat (first | refine blk_drewN ?_ _ | refine blk_drew ?_ | refine blk_alloc ?_ _)); refine blk_put (cs := #[.bool t170, .int .u8 t171, .int .u8 0, .int .u8 0, .int .u8 0]) ?_ 2 _ rfl; (with_reducible repeat (first | refine blk_drewN ?_ _ | refine blk_drew ?_ | refine blk_alloc ?_ _)); refine blk_put (cs := #[.bool t170, .int .u8 0, .int .u8 0, .int .u8 0, .int .u8 0]) ?_ 1 _ rfl; (with_reducible repeat (first | refine blk_drewN ?_ _ | refine blk_drew ?_ | refine blk_alloc ?_ _)); refine blk_put (cs := #[.bool false, .int .u8 0, .int .u8 0, .int .u8 0, .int .u8 0]) ?_ 0 _ rfl; (with_reducible repeat (first | refine blk_drewN ?_ _ | refine blk_drew ?_ | refine blk_alloc ?_ _)); exact BK178.out⟩, ⟨by repeat (first | (with_reducible first | exact HB.out | apply below_alloc | apply pw_below_drewN | apply below_drew1 | refine below_set ?_ GE156.out | refine below_set ?_ GE178.out) | exact HB.out)⟩⟩
                        · rw [if_neg c33] at H
                          have c33b0 : ((wrap64 (t176)) == (wrap64 ((wrap64 ((wrap64 (1 + (Int.tmod (wrap64 (a2)) 150))) - 2)) + x11_2))) = false := beq_eq_false_iff_ne.mpr c33
                          have c33b1 : ((wrap64 (t176)) != (wrap64 ((wrap64 ((wrap64 (1 + (Int.tmod (wrap64 (a2)) 150))) - 2)) + x11_2))) = true := bne_iff_ne.mpr c33
                          have H' := Aside0.mk H
                          clear H
                          go_wp2_with (first | (go_at_call 9; (with_reducible refine (dma_Source.calls a0 t176 t179 _ A31.out).mono ?_); rintro e w' ⟨rfl, ⟨nd, rfl⟩⟩))
                          go_meet
                          case rel => exact ⟨_, (true), (by first | rfl | (simp; done) | (simp [*]; done)), H', ⟨by have := HK1.out; have := HK2.out; first | omega | exact Nat.le_refl _⟩, ⟨by (with_reducible repeat (first | refine blk_drewN ?_ _ | refine blk_drew ?_ | refine blk_alloc ?_ _)); refine blk_put (cs := #[.bool t170, .int .u8 t171, .int .u8 t172, .int .u8 t173, .int .u8 x157004_2]) ?_ 4 _ rfl; (with_reducible repeat (first | refine blk_drewN ?_ _ | refine blk_drew ?_ | refine blk_alloc ?_ _)); refine blk_put (cs := #[.bool t170, .int .u8 t171, .int .u8 t172, .int .u8 x157003_2, .int .u8 x157004_2]) ?_ 3 _ rfl; (with_reducible repeat (first | refine blk_drewN ?_ _ | refine blk_drew ?_ | refine blk_alloc ?_ _)); refine blk_put (cs := #[.bool t170, .int .u8 t171, .int .u8 x157002_2, .int .u8 x157003_2, .int .u8 x157004_2]) ?_ 2 _ rfl; (with_reducible repeat (first | refine blk_drewN ?_ _ | refine blk_drew ?_ | refine blk_alloc ?_ _)); refine blk_put (cs := #[.bool t170, .int .u8 x157001_2, .int .u8 x157002_2, .int .u8 x157003_2, .int .u8 x157004_2]) ?_ 1 _ rfl; (with_reducible repeat (first | refine blk_drewN ?_ _ | refine blk_drew ?_ | refine blk_alloc ?_ _)); refine blk_put (cs := #[.bool x157000_2, .int .u8 x157001_2, .int .u8 x157002_2, .int .u8 x157003_2, .int .u8 x157004_2]) ?_ 0 _ rfl; (with_reducible repeat (first | refine blk_drewN ?_ _ | refine blk_drew ?_ | refine blk_alloc ?_ _)); refine blk_far ?_ NB156_178.out _; (with_reducible repeat (first | refine blk_drewN ?_ _ | refine blk_drew ?_ | refine blk_alloc ?_ _)); refine blk_far ?_ NB156_178.out _; (with_reducible repeat (first | refine blk_drewN ?_ _ | refine blk_drew ?_ | refine blk_alloc ?_ _)); refine blk_far ?_ NB156_178.out _; (with_reducible repeat (first | refine blk_drewN ?_ _ | refine blk_drew ?_ | refine blk_alloc ?_ _)); refine blk_far ?_ NB156_178.out _; (with_reducible repeat (first | refine blk_drewN ?_ _ | refine blk_drew ?_ | refine blk_alloc ?_ _)); refine blk_far ?_ NB156_178.out _; (with_reducible repeat (first | refine blk_drewN ?_ _ | refine blk_drew ?_ | refine blk_alloc ?_ _)); exact BK156.out⟩, ⟨by (with_reducible repeat (first | refine blk_drewN ?_ _ | refine blk_drew ?_ | refine blk_alloc ?_ _)); refine blk_far ?_ NB178_156.out _; (with_reducible repeat (first | refine blk_drewN ?_ _ | refine blk_drew ?_ | refine blk_alloc ?_ _)); refine blk_far ?_ NB178_156.out _; (with_reducible repeat (first | refine blk_drewN ?_ _ | refine blk_drew ?_ | refine blk_alloc ?_ _)); refine blk_far ?_ NB178_156.out _; (with_reducible repeat (first | refine blk_drewN ?_ _ | refine blk_drew ?_ | refine blk_alloc ?_ _)); refine blk_far ?_ NB178_156.out _; (with_reducible repeat (first | refine blk_drewN ?_ _ | refine blk_drew ?_ | refine blk_alloc ?_ _)); refine blk_far ?_ NB178_156.out _; (with_reducible repeat (first | refine blk_drewN ?_ _ | refine blk_drew ?_ | refine blk_alloc ?_ _)); refine blk_put (cs := #[.bool t170, .int .u8 t171, .int .u8 t172, .int .u8 t173, .int .u8 0]) ?_ 4 _ rfl; (with_reducible repeat (first | refine blk_drewN ?_ _ | refine blk_drew ?_ | refine blk_alloc ?_ _)); refine blk_put (cs := #[.bool t170, .int .u8 t171, .int .u8 t172, .int .u8 0, .int .u8 0]) ?_ 3 _ rfl; (with_reducible repeat (first | refine blk_drewN ?_ _ | refine blk_drew ?_ | refine blk_alloc ?_ _)); refine blk_put (cs := #[.bool t170, .int .u8 t171, .int .u8 0, .int .u8 0, .int .u8 0]) ?_ 2 _ rfl; (with_reducible repeat (first | refine blk_drewN ?_ _ | refine blk_drew ?_ | refine blk_alloc ?_ _)); refine blk_put (cs := #[.bool t170, .int .u8 0, .int .u8 0, .int .u8 0, .int .u8 0]) ?_ 1 _ rfl; (with_reducible repeat (first | refine blk_drewN ?_ _ | refine blk_drew ?_ | refine blk_alloc ?_ _)); refine blk_put (cs := #[.bool false, .int .u8 0, .int .u8 0, .int .u8 0, .int .u8 0]) ?_ 0 _ rfl; (with_reducible repeat (first | refine blk_drewN ?_ _ | refine blk_drew ?_ | refine blk_alloc ?_ _)); exact BK178.out⟩, ⟨by repeat (first | (with_reducible first | exact HB.out | apply below_alloc | apply pw_below_drewN | apply below_drew1 | refine below_set ?_ GE156.out | refine below_set ?_ GE178.out) | exact HB.out)⟩⟩
                      · rw [if_neg c32] at H
                        have c32b0 : (t175 == t179) = false := beq_eq_false_iff_ne.mpr c32
                        have c32b1 : (t175 != t179) = true := bne_iff_ne.mpr c32
                        have H' := Aside0.mk H
                        clear H
                        go_wp2_with (first | (go_at_call 9; (with_reducible refine (dma_Source.calls a0 t176 t179 _ A31.out).mono ?_); rintro e w' ⟨rfl, ⟨nd, rfl⟩⟩))
                        go_meet
                        case rel => exact ⟨_, (true), (by first | rfl | (simp; done) | (simp [*]; done)), H', ⟨by have := HK1.out; have := HK2.out; first | omega | exact Nat.le_refl _⟩, ⟨by (with_reducible repeat (first | refine blk_drewN ?_ _ | refine blk_drew ?_ | refine blk_alloc ?_ _)); refine blk_put (cs := #[.bool t170, .int .u8 t171, .int .u8 t172, .int .u8 t173, .int .u8 x157004_2]) ?_ 4 _ rfl; (with_reducible repeat (first | refine blk_drewN ?_ _ | refine blk_drew ?_ | refine blk_alloc ?_ _)); refine blk_put (cs := #[.bool t170, .int .u8 t171, .int .u8 t172, .int .u8 x157003_2, .int .u8 x157004_2]) ?_ 3 _ rfl; (with_reducible repeat (first | refine blk_drewN ?_ _ | refine blk_drew ?_ | refine blk_alloc ?_ _)); refine blk_put (cs := #[.bool t170, .int .u8 t171, .int .u8 x157002_2, .int .u8 x157003_2, .int .u8 x157004_2]) ?_ 2 _ rfl; (with_reducible repeat (first | refine blk_drewN ?_ _ | refine blk_drew ?_ | refine blk_alloc ?_ _)); refine blk_put (cs := #[.bool t170, .int .u8 x157001_2, .int .u8 x157002_2, .int .u8 x157003_2, .int .u8 x157004_2]) ?_ 1 _ rfl; (with_reducible repeat (first | refine blk_drewN ?_ _ | refine blk_drew ?_ | refine blk_alloc ?_ _)); refine blk_put (cs := #[.bool x157000_2, .int .u8 x157001_2, .int .u8 x157002_2, .int .u8 x157003_2, .int .u8 x157004_2]) ?_ 0 _ rfl; (with_reducible repeat (first | refine blk_drewN ?_ _ | refine blk_drew ?_ | refine blk_alloc ?_ _)); refine blk_far ?_ NB156_178.out _; (with_reducible repeat (first | refine blk_drewN ?_ _ | refine blk_drew ?_ | refine blk_alloc ?_ _)); refine blk_far ?_ NB156_178.out _; (with_reducible repeat (first | refine blk_drewN ?_ _ | refine blk_drew ?_ | refine blk_alloc ?_ _)); refine blk_far ?_ NB156_178.out _; (with_reducible repeat (first | refine blk_drewN ?_ _ | refine blk_drew ?_ | refine blk_alloc ?_ _)); refine blk_far ?_ NB156_178.out _; (with_reducible repeat (first | refine blk_drewN ?_ _ | refine blk_drew ?_ | refine blk_alloc ?_ _)); refine blk_far ?_ NB156_178.out _; (with_reducible repeat (first | refine blk_drewN ?_ _ | refine blk_drew ?_ | refine blk_alloc ?_ _)); exact BK156.out⟩, ⟨by (with_reducible repeat (first | refine blk_drewN ?_ _ | refine blk_drew ?_ | refine blk_alloc ?_ _)); refine blk_far ?_ NB178_156.out _; (with_reducible repeat (first | refine blk_drewN ?_ _ | refine blk_drew ?_ | refine blk_alloc ?_ _)); refine blk_far ?_ NB178_156.out _; (with_reducible repeat (first | refine blk_drewN ?_ _ | refine blk_drew ?_ | refine blk_alloc ?_ _)); refine blk_far ?_ NB178_156.out _; (with_reducible repeat (first | refine blk_drewN ?_ _ | refine blk_drew ?_ | refine blk_alloc ?_ _)); refine blk_far ?_ NB178_156.out _; (with_reducible repeat (first | refine blk_drewN ?_ _ | refine blk_drew ?_ | refine blk_alloc ?_ _)); refine blk_far ?_ NB178_156.out _; (with_reducible repeat (first | refine blk_drewN ?_ _ | refine blk_drew ?_ | refine blk_alloc ?_ _)); refine blk_put (cs := #[.bool t170, .int .u8 t171, .int .u8 t172, .int .u8 t173, .int .u8 0]) ?_ 4 _ rfl; (with_reducible repeat (first | refine blk_drewN ?_ _ | refine blk_drew ?_ | refine blk_alloc ?_ _)); refine blk_put (cs := #[.bool t170, .int .u8 t171, .int .u8 t172, .int .u8 0, .int .u8 0]) ?_ 3 _ rfl; (with_reducible repeat (first | refine blk_drewN ?_ _ | refine blk_drew ?_ | refine blk_alloc ?_ _)); refine blk_put (cs := #[.bool t170, .int .u8 t171, .int .u8 0, .int .u8 0, .int .u8 0]) ?_ 2 _ rfl; (with_reducible repeat (first | refine blk_drewN ?_ _ | refine blk_drew ?_ | refine blk_alloc ?_ _)); refine blk_put (cs := #[.bool t170, .int .u8 0, .int .u8 0, .int .u8 0, .int .u8 0]) ?_ 1 _ rfl; (with_reducible repeat (first | refine blk_drewN ?_ _ | refine blk_drew ?_ | refine blk_alloc ?_ _)); refine blk_put (cs := #[.bool false, .int .u8 0, .int .u8 0, .int .u8 0, .int .u8 0]) ?_ 0 _ rfl; (with_reducible repeat (first | refine blk_drewN ?_ _ | refine blk_drew ?_ | refine blk_alloc ?_ _)); exact BK178.out⟩, ⟨by repeat (first | (with_reducible first | exact HB.out | apply below_alloc | apply pw_below_drewN | apply below_drew1 | refine below_set ?_ GE156.out | refine below_set ?_ GE178.out) | exact HB.out)⟩⟩
                    · replace c30 := Bool.eq_false_iff.mpr c30
                      subst c30
                      have H1 : (whirligiglaw19_DmaAgain.j2 k2 a0 a1 t150 (wrap64 (1 + (Int.tmod (wrap64 (a2)) 150))) x11_2 true t170 t171 t172 t173 t174) = some r := by rw [if_neg (show ¬ (false = true) by decide)] at H; exact H
                      clear H
                      have H := H1
                      clear H1
                      have H' := Aside0.mk H
                      clear H
                      go_wp2
                      go_meet
                      case rel => exact ⟨_, (true), (by first | rfl | (simp; done) | (simp [*]; done)), H', ⟨by have := HK1.out; have := HK2.out; first | omega | exact Nat.le_refl _⟩, ⟨by (with_reducible repeat (first | refine blk_drewN ?_ _ | refine blk_drew ?_ | refine blk_alloc ?_ _)); refine blk_put (cs := #[.bool t170, .int .u8 t171, .int .u8 t172, .int .u8 t173, .int .u8 x157004_2]) ?_ 4 _ rfl; (with_reducible repeat (first | refine blk_drewN ?_ _ | refine blk_drew ?_ | refine blk_alloc ?_ _)); refine blk_put (cs := #[.bool t170, .int .u8 t171, .int .u8 t172, .int .u8 x157003_2, .int .u8 x157004_2]) ?_ 3 _ rfl; (with_reducible repeat (first | refine blk_drewN ?_ _ | refine blk_drew ?_ | refine blk_alloc ?_ _)); refine blk_put (cs := #[.bool t170, .int .u8 t171, .int .u8 x157002_2, .int .u8 x157003_2, .int .u8 x157004_2]) ?_ 2 _ rfl; (with_reducible repeat (first | refine blk_drewN ?_ _ | refine blk_drew ?_ | refine blk_alloc ?_ _)); refine blk_put (cs := #[.bool t170, .int .u8 x157001_2, .int .u8 x157002_2, .int .u8 x157003_2, .int .u8 x157004_2]) ?_ 1 _ rfl; (with_reducible repeat (first | refine blk_drewN ?_ _ | refine blk_drew ?_ | refine blk_alloc ?_ _)); refine blk_put (cs := #[.bool x157000_2, .int .u8 x157001_2, .int .u8 x157002_2, .int .u8 x157003_2, .int .u8 x157004_2]) ?_ 0 _ rfl; (with_reducible repeat (first | refine blk_drewN ?_ _ | refine blk_drew ?_ | refine blk_alloc ?_ _)); refine blk_far ?_ NB156_178.out _; (with_reducible repeat (first | refine blk_drewN ?_ _ | refine blk_drew ?_ | refine blk_alloc ?_ _)); refine blk_far ?_ NB156_178.out _; (with_reducible repeat (first | refine blk_drewN ?_ _ | refine blk_drew ?_ | refine blk_alloc ?_ _)); refine blk_far ?_ NB156_178.out _; (with_reducible repeat (first | refine blk_drewN ?_ _ | refine blk_drew ?_ | refine blk_alloc ?_ _)); refine blk_far ?_ NB156_178.out _; (with_reducible repeat (first | refine blk_drewN ?_ _ | refine blk_drew ?_ | refine blk_alloc ?_ _)); refine blk_far ?_ NB156_178.out _; (with_reducible repeat (first | refine blk_drewN ?_ _ | refine blk_drew ?_ | refine blk_alloc ?_ _)); exact BK156.out⟩, ⟨by (with_reducible repeat (first | refine blk_drewN ?_ _ | refine blk_drew ?_ | refine blk_alloc ?_ _)); refine blk_far ?_ NB178_156.out _; (with_reducible repeat (first | refine blk_drewN ?_ _ | refine blk_drew ?_ | refine blk_alloc ?_ _)); refine blk_far ?_ NB178_156.out _; (with_reducible repeat (first | refine blk_drewN ?_ _ | refine blk_drew ?_ | refine blk_alloc ?_ _)); refine blk_far ?_ NB178_156.out _; (with_reducible repeat (first | refine blk_drewN ?_ _ | refine blk_drew ?_ | refine blk_alloc ?_ _)); refine blk_far ?_ NB178_156.out _; (with_reducible repeat (first | refine blk_drewN ?_ _ | refine blk_drew ?_ | refine blk_alloc ?_ _)); refine blk_far ?_ NB178_156.out _; (with_reducible repeat (first | refine blk_drewN ?_ _ | refine blk_drew ?_ | refine blk_alloc ?_ _)); refine blk_put (cs := #[.bool t170, .int .u8 t171, .int .u8 t172, .int .u8 t173, .int .u8 0]) ?_ 4 _ rfl; (with_reducible repeat (first | refine blk_drewN ?_ _ | refine blk_drew ?_ | refine blk_alloc ?_ _)); refine blk_put (cs := #[.bool t170, .int .u8 t171, .int .u8 t172, .int .u8 0, .int .u8 0]) ?_ 3 _ rfl; (with_reducible repeat (first | refine blk_drewN ?_ _ | refine blk_drew ?_ | refine blk_alloc ?_ _)); refine blk_put (cs := #[.bool t170, .int .u8 t171, .int .u8 0, .int .u8 0, .int .u8 0]) ?_ 2 _ rfl; (with_reducible repeat (first | refine blk_drewN ?_ _ | refine blk_drew ?_ | refine blk_alloc ?_ _)); refine blk_put (cs := #[.bool t170, .int .u8 0, .int .u8 0, .int .u8 0, .int .u8 0]) ?_ 1 _ rfl; (with_reducible repeat (first | refine blk_drewN ?_ _ | refine blk_drew ?_ | refine blk_alloc ?_ _)); refine blk_put (cs := #[.bool false, .int .u8 0, .int .u8 0, .int .u8 0, .int .u8 0]) ?_ 0 _ rfl; (with_reducible repeat (first | refine blk_drewN ?_ _ | refine blk_drew ?_ | refine blk_alloc ?_ _)); exact BK178.out⟩, ⟨by repeat (first | (with_reducible first | exact HB.out | apply below_alloc | apply pw_below_drewN | apply below_drew1 | refine below_set ?_ GE156.out | refine below_set ?_ GE178.out) | exact HB.out)⟩⟩
                  · rw [if_neg c29] at H
                    have c29b0 : decide (2 < (wrap64 (1 + (Int.tmod (wrap64 (a2)) 150)))) = false := decide_eq_false c29
                    clear c29
                    (first | rw [c29b0] | (simp only [i64_w, i32_w]; rw [c29b0]) | skip)
                    by_cases c35 : (wrap64 (1 + (Int.tmod (wrap64 (a2)) 150))) = 1
                    · rw [if_pos c35] at H
                      have c35b0 : ((wrap64 (1 + (Int.tmod (wrap64 (a2)) 150))) == 1) = true := beq_iff_eq.mpr c35
                      have c35b1 : ((wrap64 (1 + (Int.tmod (wrap64 (a2)) 150))) != 1) = false := bne_eq_false_iff_eq.mpr c35
                      clear c35
                      have H' := Aside0.mk H
                      clear H
                      go_wp2
                      go_meet
                      case rel => exact ⟨_, (t177), (by first | rfl | (simp; done) | (simp [*]; done)), H', ⟨by have := HK1.out; have := HK2.out; first | omega | exact Nat.le_refl _⟩, ⟨by (with_reducible repeat (first | refine blk_drewN ?_ _ | refine blk_drew ?_ | refine blk_alloc ?_ _)); refine blk_put (cs := #[.bool t170, .int .u8 t171, .int .u8 t172, .int .u8 t173, .int .u8 x157004_2]) ?_ 4 _ rfl; (with_reducible repeat (first | refine blk_drewN ?_ _ | refine blk_drew ?_ | refine blk_alloc ?_ _)); refine blk_put (cs := #[.bool t170, .int .u8 t171, .int .u8 t172, .int .u8 x157003_2, .int .u8 x157004_2]) ?_ 3 _ rfl; (with_reducible repeat (first | refine blk_drewN ?_ _ | refine blk_drew ?_ | refine blk_alloc ?_ _)); refine blk_put (cs := #[.bool t170, .int .u8 t171, .int .u8 x157002_2, .int .u8 x157003_2, .int .u8 x157004_2]) ?_ 2 _ rfl; (with_reducible repeat (first | refine blk_drewN ?_ _ | refine blk_drew ?_ | refine blk_alloc ?_ _)); refine blk_put (cs := #[.bool t170, .int .u8 x157001_2, .int .u8 x157002_2, .int .u8 x157003_2, .int .u8 x157004_2]) ?_ 1 _ rfl; (with_reducible repeat (first | refine blk_drewN ?_ _ | refine blk_drew ?_ | refine blk_alloc ?_ _)); refine blk_put (cs := #[.bool x157000_2, .int .u8 x157001_2, .int .u8 x157002_2, .int .u8 x157003_2, .int .u8 x157004_2]) ?_ 0 _ rfl; (with_reducible repeat (first | refine blk_drewN ?_ _ | refine blk_drew ?_ | refine blk_alloc ?_ _)); refine blk_far ?_ NB156_178.out _; (with_reducible repeat (first | refine blk_drewN ?_ _ | refine blk_drew ?_ | refine blk_alloc ?_ _)); refine blk_far ?_ NB156_178.out _; (with_reducible repeat (first | refine blk_drewN ?_ _ | refine blk_drew ?_ | refine blk_alloc ?_ _)); refine blk_far ?_ NB156_178.out _; (with_reducible repeat (first | refine blk_drewN ?_ _ | refine blk_drew ?_ | refine blk_alloc ?_ _)); refine blk_far ?_ NB156_178.out _; (with_reducible repeat (first | refine blk_drewN ?_ _ | refine blk_drew ?_ | refine blk_alloc ?_ _)); refine blk_far ?_ NB156_178.out _; (with_reducible repeat (first | refine blk_drewN ?_ _ | refine blk_drew ?_ | refine blk_alloc ?_ _)); exact BK156.out⟩, ⟨by (with_reducible repeat (first | refine blk_drewN ?_ _ | refine blk_drew ?_ | refine blk_alloc ?_ _)); refine blk_far ?_ NB178_156.out _; (with_reducible repeat (first | refine blk_drewN ?_ _ | refine blk_drew ?_ | refine blk_alloc ?_ _)); refine blk_far ?_ NB178_156.out _; (with_reducible repeat (first | refine blk_drewN ?_ _ | refine blk_drew ?_ | refine blk_alloc ?_ _)); refine blk_far ?_ NB178_156.out _; (with_reducible repeat (first | refine blk_drewN ?_ _ | refine blk_drew ?_ | refine blk_alloc ?_ _)); refine blk_far ?_ NB178_156.out _; (with_reducible repeat (first | refine blk_drewN ?_ _ | refine blk_drew ?_ | refine blk_alloc ?_ _)); refine blk_far ?_ NB178_156.out _; (with_reducible repeat (first | refine blk_drewN ?_ _ | refine blk_drew ?_ | refine blk_alloc ?_ _)); refine blk_put (cs := #[.bool t170, .int .u8 t171, .int .u8 t172, .int .u8 t173, .int .u8 0]) ?_ 4 _ rfl; (with_reducible repeat (first | refine blk_drewN ?_ _ | refine blk_drew ?_ | refine blk_alloc ?_ _)); refine blk_put (cs := #[.bool t170, .int .u8 t171, .int .u8 t172, .int .u8 0, .int .u8 0]) ?_ 3 _ rfl; (with_reducible repeat (first | refine blk_drewN ?_ _ | refine blk_drew ?_ | refine blk_alloc ?_ _)); refine blk_put (cs := #[.bool t170, .int .u8 t171, .int .u8 0, .int .u8 0, .int .u8 0]) ?_ 2 _ rfl; (with_reducible repeat (first | refine blk_drewN ?_ _ | refine blk_drew ?_ | refine blk_alloc ?_ _)); refine blk_put (cs := #[.bool t170, .int .u8 0, .int .u8 0, .int .u8 0, .int .u8 0]) ?_ 1 _ rfl; (with_reducible repeat (first | refine blk_drewN ?_ _ | refine blk_drew ?_ | refine blk_alloc ?_ _)); refine blk_put (cs := #[.bool false, .int .u8 0, .int .u8 0, .int .u8 0, .int .u8 0]) ?_ 0 _ rfl; (with_reducible repeat (first | refine blk_drewN ?_ _ | refine blk_drew ?_ | refine blk_alloc ?_ _)); exact BK178.out⟩, ⟨by repeat (first | (with_reducible first | exact HB.out | apply below_alloc | apply pw_below_drewN | apply below_drew1 | refine below_set ?_ GE156.out | refine below_set ?_ GE178.out) | exact HB.out)⟩⟩
                    · rw [if_neg c35] at H
                      have c35b0 : ((wrap64 (1 + (Int.tmod (wrap64 (a2)) 150))) == 1) = false := beq_eq_false_iff_ne.mpr c35
                      have c35b1 : ((wrap64 (1 + (Int.tmod (wrap64 (a2)) 150))) != 1) = true := bne_iff_ne.mpr c35
                      have H' := Aside0.mk H
                      clear H
                      go_wp2
                      go_meet
                      case rel => exact ⟨_, (false), (by first | rfl | (simp; done) | (simp [*]; done)), H', ⟨by have := HK1.out; have := HK2.out; first | omega | exact Nat.le_refl _⟩, ⟨by (with_reducible repeat (first | refine blk_drewN ?_ _ | refine blk_drew ?_ | refine blk_alloc ?_ _)); refine blk_put (cs := #[.bool t170, .int .u8 t171, .int .u8 t172, .int .u8 t173, .int .u8 x157004_2]) ?_ 4 _ rfl; (with_reducible repeat (first | refine blk_drewN ?_ _ | refine blk_drew ?_ | refine blk_alloc ?_ _)); refine blk_put (cs := #[.bool t170, .int .u8 t171, .int .u8 t172, .int .u8 x157003_2, .int .u8 x157004_2]) ?_ 3 _ rfl; (with_reducible repeat (first | refine blk_drewN ?_ _ | refine blk_drew ?_ | refine blk_alloc ?_ _)); refine blk_put (cs := #[.bool t170, .int .u8 t171, .int .u8 x157002_2, .int .u8 x157003_2, .int .u8 x157004_2]) ?_ 2 _ rfl; (with_reducible repeat (first | refine blk_drewN ?_ _ | refine blk_drew ?_ | refine blk_alloc ?_ _)); refine blk_put (cs := #[.bool t170, .int .u8 x157001_2, .int .u8 x157002_2, .int .u8 x157003_2, .int .u8 x157004_2]) ?_ 1 _ rfl; (with_reducible repeat (first | refine blk_drewN ?_ _ | refine blk_drew ?_ | refine blk_alloc ?_ _)); refine blk_put (cs := #[.bool x157000_2, .int .u8 x157001_2, .int .u8 x157002_2, .int .u8 x157003_2, .int .u8 x157004_2]) ?_ 0 _ rfl; (with_reducible repeat (first | refine blk_drewN ?_ _ | refine blk_drew ?_ | refine blk_alloc ?_ _)); refine blk_far ?_ NB156_178.out _; (with_reducible repeat (first | refine blk_drewN ?_ _ | refine blk_drew ?_ | refine blk_alloc ?_ _)); refine blk_far ?_ NB156_178.out _; (with_reducible repeat (first | refine blk_drewN ?_ _ | refine blk_drew ?_ | refine blk_alloc ?_ _)); refine blk_far ?_ NB156_178.out _; (with_reducible repeat (first | refine blk_drewN ?_ _ | refine blk_drew ?_ | refine blk_alloc ?_ _)); refine blk_far ?_ NB156_178.out _; (with_reducible repeat (first | refine blk_drewN ?_ _ | refine blk_drew ?_ | refine blk_alloc ?_ _)); refine blk_far ?_ NB156_178.out _; (with_reducible repeat (first | refine blk_drewN ?_ _ | refine blk_drew ?_ | refine blk_alloc ?_ _)); exact BK156.out⟩, ⟨by (with_reducible repeat (first | refine blk_drewN ?_ _ | refine blk_drew ?_ | refine blk_alloc ?_ _)); refine blk_far ?_ NB178_156.out _; (with_reducible repeat (first | refine blk_drewN ?_ _ | refine blk_drew ?_ | refine blk_alloc ?_ _)); refine blk_far ?_ NB178_156.out _; (with_reducible repeat (first | refine blk_drewN ?_ _ | refine blk_drew ?_ | refine blk_alloc ?_ _)); refine blk_far ?_ NB178_156.out _; (with_reducible repeat (first | refine blk_drewN ?_ _ | refine blk_drew ?_ | refine blk_alloc ?_ _)); refine blk_far ?_ NB178_156.out _; (with_reducible repeat (first | refine blk_drewN ?_ _ | refine blk_drew ?_ | refine blk_alloc ?_ _)); refine blk_far ?_ NB178_156.out _; (with_reducible repeat (first | refine blk_drewN ?_ _ | refine blk_drew ?_ | refine blk_alloc ?_ _)); refine blk_put (cs := #[.bool t170, .int .u8 t171, .int .u8 t172, .int .u8 t173, .int .u8 0]) ?_ 4 _ rfl; (with_reducible repeat (first | refine blk_drewN ?_ _ | refine blk_drew ?_ | refine blk_alloc ?_ _)); refine blk_put (cs := #[.bool t170, .int .u8 t171, .int .u8 t172, .int .u8 0, .int .u8 0]) ?_ 3 _ rfl; (with_reducible repeat (first | refine blk_drewN ?_ _ | refine blk_drew ?_ | refine blk_alloc ?_ _)); refine blk_put (cs := #[.bool t170, .int .u8 t171, .int .u8 0, .int .u8 0, .int .u8 0]) ?_ 2 _ rfl; (with_reducible repeat (first | refine blk_drewN ?_ _ | refine blk_drew ?_ | refine blk_alloc ?_ _)); refine blk_put (cs := #[.bool t170, .int .u8 0, .int .u8 0, .int .u8 0, .int .u8 0]) ?_ 1 _ rfl; (with_reducible repeat (first | refine blk_drewN ?_ _ | refine blk_drew ?_ | refine blk_alloc ?_ _)); refine blk_put (cs := #[.bool false, .int .u8 0, .int .u8 0, .int .u8 0, .int .u8 0]) ?_ 0 _ rfl; (with_reducible repeat (first | refine blk_drewN ?_ _ | refine blk_drew ?_ | refine blk_alloc ?_ _)); exact BK178.out⟩, ⟨by repeat (first | (with_reducible first | exact HB.out | apply below_alloc | apply pw_below_drewN | apply below_drew1 | refine below_set ?_ GE156.out | refine below_set ?_ GE178.out) | exact HB.out)⟩⟩
                case rest =>
                  clear HC22
                  try clear c1
                  try clear c2
                  try clear p2
                  try clear c3
                  try clear c5
                  try clear p6
                  try clear c8
                  try clear c10
                  try clear c10b0
                  try clear c11
                  try clear c13
                  try clear c19
                  try clear c19b0
                  try clear c21
                  try clear c21b0
                  try clear c26
                  try clear c29
                  try clear c29b0
                  try clear c30
                  try clear c32
                  try clear c32b0
                  try clear c32b1
                  try clear c33
                  try clear c33b0
                  try clear c33b1
                  try clear c34
                  try clear c34b0
                  try clear c34b1
                  try clear c35
                  try clear c35b0
                  try clear c35b1
                  try clear hcz12_0
                  try clear hcz12_1
                  try clear hcz12_2
                  try clear hcz12_3
                  try clear hcz12_4
                  try clear hcz14_0
                  try clear hcz14_1
                  try clear hcz14_2
                  try clear hcz14_3
                  try clear hcz14_4
                  try clear hcz16_0
                  try clear hcz16_1
                  try clear hcz16_2
                  try clear hcz16_3
                  try clear hcz16_4
                  try clear hcz18_0
                  try clear hcz18_1
                  try clear hcz18_2
                  try clear hcz18_3
                  try clear hcz18_4
                  try clear hcz23_0
                  try clear hcz23_1
                  try clear hcz23_2
                  try clear hcz23_3
                  try clear hcz23_4
                  try clear hcz27_0
                  try clear hcz27_1
                  try clear hcz27_2
                  try clear hcz27_3
                  try clear hcz27_4
                  try clear hcz28_0
                  try clear hcz28_1
                  try clear hcz28_2
                  try clear hcz28_3
                  try clear hcz28_4
                  try clear hcz9_0
                  try clear hcz9_1
                  try clear hcz9_2
                  try clear hcz9_3
                  try clear hcz9_4
                  try clear hfz12_0
                  try clear hfz12_1
                  try clear hfz12_2
                  try clear hfz12_3
                  try clear hfz12_4
                  try clear hfz14_0
                  try clear hfz14_1
                  try clear hfz14_2
                  try clear hfz14_3
                  try clear hfz14_4
                  try clear hfz16_0
                  try clear hfz16_1
                  try clear hfz16_2
                  try clear hfz16_3
                  try clear hfz16_4
                  try clear hfz18_0
                  try clear hfz18_1
                  try clear hfz18_2
                  try clear hfz18_3
                  try clear hfz18_4
                  try clear hfz23_0
                  try clear hfz23_1
                  try clear hfz23_2
                  try clear hfz23_3
                  try clear hfz23_4
                  try clear hfz27_0
                  try clear hfz27_1
                  try clear hfz27_2
                  try clear hfz27_3
                  try clear hfz27_4
                  try clear hfz28_0
                  try clear hfz28_1
                  try clear hfz28_2
                  try clear hfz28_3
                  try clear hfz28_4
                  try clear hfz9_0
                  try clear hfz9_1
                  try clear hfz9_2
                  try clear hfz9_3
                  try clear hfz9_4
                  try clear p2
                  try clear p6
                  obtain ⟨kq, x81_21, rfl, HA, HJ21, BK156, BK178, HB⟩ := hcut
                  cases kq with
                  | zero => exact absurd HA.out (by simp [whirligiglaw19_DmaAgain.j2])
                  | succ kj21 =>
                    have H := HA.out
                    clear HA
                    simp only [whirligiglaw19_DmaAgain.j2] at H
                    by_cases c36 : x81_21 = true
                    · subst c36
                      have H1 : (some false) = some r := by rw [if_pos rfl] at H; exact H
                      clear H
                      have H := H1
                      clear H1
                      obtain rfl := Option.some.inj H
                      go_wp2
                      go_ret
                      exact ⟨by first | rfl | (simp [errW_none, errW_some] <;> rfl) | (simp [*, errW_none, errW_some] <;> rfl), by repeat (first | (with_reducible first | exact HB.out | apply below_alloc | apply pw_below_drewN | apply below_drew1 | refine below_set ?_ GE156.out | refine below_set ?_ GE178.out) | exact HB.out)⟩
                    · replace c36 := Bool.eq_false_iff.mpr c36
                      subst c36
                      have H1 : (whirligiglaw19_DmaAgain.l1 kj21 a0 a1 t150 (wrap64 (1 + (Int.tmod (wrap64 (a2)) 150))) (wrap64 (x11_2 + 1)) t170 t171 t172 t173 t174) = some r := by rw [if_neg (show ¬ (false = true) by decide)] at H; exact H
                      clear H
                      have H := H1
                      clear H1
                      have H' := Aside0.mk H
                      clear H
                      go_wp2
                      go_roundg kj21
                      case measure => have := HK1.out; have := HK2.out; have := HJ21.out; omega
                      case rel => exact ⟨(wrap64 (x11_2 + 1)), (t170), (t171), (t172), (t173), (t174), (by first | rfl | (simp; done) | (simp [*]; done)), H', ⟨by have := HK1.out; have := HK2.out; have := HJ21.out; omega⟩, ⟨by (with_reducible repeat (first | refine blk_drewN ?_ _ | refine blk_drew ?_ | refine blk_alloc ?_ _)); exact BK156.out⟩, ⟨by repeat (first | (with_reducible first | exact HB.out | apply below_alloc | apply pw_below_drewN | apply below_drew1 | refine below_set ?_ GE156.out | refine below_set ?_ GE178.out) | exact HB.out)⟩⟩
              · rw [if_neg c21] at H
                have c21b0 : decide (x11_2 < 2) = false := decide_eq_false c21
                clear c21
                by_cases c37 : t177 = true
                · subst c37
                  have H1 : (if (wrap64 (t176)) = (wrap64 (x11_2 - 2)) then ((dma_Source.f a1 t176).bind fun t180 => (if t175 = t180 then (whirligiglaw19_DmaAgain.l1 k2 a0 a1 t150 (wrap64 (1 + (Int.tmod (wrap64 (a2)) 150))) (wrap64 (x11_2 + 1)) t170 t171 t172 t173 t174) else (some false))) else (some false)) = some r := by rw [if_pos rfl] at H; exact H
                  clear H
                  have H := H1
                  clear H1
                  by_cases c38 : (wrap64 (t176)) = (wrap64 (x11_2 - 2))
                  · rw [if_pos c38] at H
                    have c38b0 : ((wrap64 (t176)) == (wrap64 (x11_2 - 2))) = true := beq_iff_eq.mpr c38
                    have c38b1 : ((wrap64 (t176)) != (wrap64 (x11_2 - 2))) = false := bne_eq_false_iff_eq.mpr c38
                    clear c38
                    replace H := Option.bind_eq_some_iff.mp H
                    obtain ⟨t180, A390, H⟩ := H
                    replace H : (if t175 = t180 then (whirligiglaw19_DmaAgain.l1 k2 a0 a1 t150 (wrap64 (1 + (Int.tmod (wrap64 (a2)) 150))) (wrap64 (x11_2 + 1)) t170 t171 t172 t173 t174) else (some false)) = some r := H
                    have A39 := Aside0.mk A390
                    clear A390
                    by_cases c40 : t175 = t180
                    · rw [if_pos c40] at H
                      have c40b0 : (t175 == t180) = true := beq_iff_eq.mpr c40
                      have c40b1 : (t175 != t180) = false := bne_eq_false_iff_eq.mpr c40
                      clear c40
                      have H' := Aside0.mk H
                      clear H
                      have hcz41_0 : wr.cell? ⟨gb156, 0, none⟩ = some (.bool x157000_2) := (blk_cell BK156.out 0).trans rfl
                      have hcz41_1 : wr.cell? ⟨gb156, 1, none⟩ = some (.int .u8 x157001_2) := (blk_cell BK156.out 1).trans rfl
                      have hcz41_2 : wr.cell? ⟨gb156, 2, none⟩ = some (.int .u8 x157002_2) := (blk_cell BK156.out 2).trans rfl
                      have hcz41_3 : wr.cell? ⟨gb156, 3, none⟩ = some (.int .u8 x157003_2) := (blk_cell BK156.out 3).trans rfl
                      have hcz41_4 : wr.cell? ⟨gb156, 4, none⟩ = some (.int .u8 x157004_2) := (blk_cell BK156.out 4).trans rfl
                      have hfz41_0 := blk_frozen BK156.out 0
                      have hfz41_1 := blk_frozen BK156.out 1
                      have hfz41_2 := blk_frozen BK156.out 2
                      have hfz41_3 := blk_frozen BK156.out 3
                      have hfz41_4 := blk_frozen BK156.out 4
                      go_wp2_with (first | ((with_reducible refine gate_callee (f := 11) rfl ?_); refine goesL_ (some 45) rfl rfl Try.func11 (by kernel_rfl) rfl #[.agg #[.bool x157000_2, .int .u8 x157001_2, .int .u8 x157002_2, .int .u8 x157003_2, .int .u8 x157004_2]] rfl (by (try simp only [List.map_toArray, List.map_cons, List.map_nil]); first | done | rfl | (simp only [List.length_drop, List.length_take]; rfl)) ?_; (with_reducible refine (dma_Step.calls x157000_2 x157001_2 x157002_2 x157003_2 x157004_2 t170 t171 t172 t173 t174 t175 t176 true _ A20.out).mono ?_); rintro e w42 ⟨rfl, hb⟩; refine ⟨_, rfl, ?_⟩; have n0_ := Aside0.mk (blk_below (g := gb156) (o := .cells #[.bool x157000_2, .int .u8 x157001_2, .int .u8 x157002_2, .int .u8 x157003_2, .int .u8 x157004_2] 27 (0, 0)) (by (with_reducible repeat (first | refine blk_drewN ?_ _ | refine blk_drew ?_ | refine blk_alloc ?_ _)); exact BK156.out) hb); have n1_ := Aside0.mk (below_step (by repeat (first | (with_reducible first | exact HB.out | apply below_alloc | apply pw_below_drewN | apply below_drew1 | refine below_set ?_ GE156.out) | exact HB.out)) hb); clear BK156; clear HB; have BK156 := n0_; have HB := n1_; clear n0_ n1_; (try clear hb); (try clear hb2); (try clear hk); (try clear hi)) | ((with_reducible refine gate_dst (N := 12) rfl ?_); refine box_event ?hg (N := 12) ?hd (cs := #[.bool false, .int .u8 0, .int .u8 0, .int .u8 0, .int .u8 0]) (t := 27) ?hr ?_; (case hd => rfl); (case hg => rfl); (case hr => first | (go_simp; done) | (go_simp; rfl)); intro gb178 hg w43 hbox hb; have n0_ := Aside0.mk (blk_below (g := gb156) (o := .cells #[.bool x157000_2, .int .u8 x157001_2, .int .u8 x157002_2, .int .u8 x157003_2, .int .u8 x157004_2] 27 (0, 0)) (by (with_reducible repeat (first | refine blk_drewN ?_ _ | refine blk_drew ?_ | refine blk_alloc ?_ _)); exact BK156.out) hb); have n1_ := Aside0.mk (below_step (by repeat (first | (with_reducible first | exact HB.out | apply below_alloc | apply pw_below_drewN | apply below_drew1 | refine below_set ?_ GE156.out) | exact HB.out)) hb); have n2_ := Aside0.mk (hbox); have n3_ := Aside0.mk ((by rw [hg]; exact (below_size (by repeat (first | (with_reducible first | exact HB.out | apply below_alloc | apply pw_below_drewN | apply below_drew1 | refine below_set ?_ GE156.out) | exact HB.out))) : w.heap.size ≤ gb178)); have n4_ := Aside0.mk ((by rw [hg]; exact (below_size (by repeat (first | (with_reducible first | exact HB.out | apply below_alloc | apply pw_below_drewN | apply below_drew1 | refine below_set ?_ GE156.out) | exact HB.out))) : w.heap.size ≤ gb178)); have n5_ := Aside0.mk ((by rw [hg]; exact Nat.ne_of_lt (blk_lt (g := gb156) (o := .cells #[.bool x157000_2, .int .u8 x157001_2, .int .u8 x157002_2, .int .u8 x157003_2, .int .u8 x157004_2] 27 (0, 0)) (by (with_reducible repeat (first | refine blk_drewN ?_ _ | refine blk_drew ?_ | refine blk_alloc ?_ _)); exact BK156.out)) : gb156 ≠ gb178)); have n6_ := Aside0.mk ((by rw [hg]; exact Nat.ne_of_gt (blk_lt (g := gb156) (o := .cells #[.bool x157000_2, .int .u8 x157001_2, .int .u8 x157002_2, .int .u8 x157003_2, .int .u8 x157004_2] 27 (0, 0)) (by (with_reducible repeat (first | refine blk_drewN ?_ _ | refine blk_drew ?_ | refine blk_alloc ?_ _)); exact BK156.out)) : gb178 ≠ gb156)); clear BK156; clear HB; have BK156 := n0_; have HB := n1_; have BK178 := n2_; have GW178 := n3_; have GE178 := n4_; have NB156_178 := n5_; have NB178_156 := n6_; clear n0_ n1_ n2_ n3_ n4_ n5_ n6_; clear hb hbox hg; have hnb44 := NB178_156.out; have hnc44 := NB156_178.out; have hcz45_0 : w43.cell? ⟨gb178, 0, none⟩ = some (.bool false) := (blk_cell BK178.out 0).trans rfl; have hcz45_1 : w43.cell? ⟨gb178, 1, none⟩ = some (.int .u8 0) := (blk_cell BK178.out 1).trans rfl; have hcz45_2 : w43.cell? ⟨gb178, 2, none⟩ = some (.int .u8 0) := (blk_cell BK178.out 2).trans rfl; have hcz45_3 : w43.cell? ⟨gb178, 3, none⟩ = some (.int .u8 0) := (blk_cell BK178.out 3).trans rfl; have hcz45_4 : w43.cell? ⟨gb178, 4, none⟩ = some (.int .u8 0) := (blk_cell BK178.out 4).trans rfl; have hfz45_0 := blk_frozen BK178.out 0; have hfz45_1 := blk_frozen BK178.out 1; have hfz45_2 := blk_frozen BK178.out 2; have hfz45_3 := blk_frozen BK178.out 3; have hfz45_4 := blk_frozen BK178.out 4; have hcz46_0 : w43.cell? ⟨gb156, 0, none⟩ = some (.bool x157000_2) := (blk_cell BK156.out 0).trans rfl; have hcz46_1 : w43.cell? ⟨gb156, 1, none⟩ = some (.int .u8 x157001_2) := (blk_cell BK156.out 1).trans rfl; have hcz46_2 : w43.cell? ⟨gb156, 2, none⟩ = some (.int .u8 x157002_2) := (blk_cell BK156.out 2).trans rfl; have hcz46_3 : w43.cell? ⟨gb156, 3, none⟩ = some (.int .u8 x157003_2) := (blk_cell BK156.out 3).trans rfl; have hcz46_4 : w43.cell? ⟨gb156, 4, none⟩ = some (.int .u8 x157004_2) := (blk_cell BK156.out 4).trans rfl; have hfz46_0 := blk_frozen BK156.out 0; have hfz46_1 := blk_frozen BK156.out 1; have hfz46_2 := blk_frozen BK156.out 2; have hfz46_3 := blk_frozen BK156.out 3; have hfz46_4 := blk_frozen BK156.out 4) | (go_at_call 9; (with_reducible refine (dma_Source.calls a1 t176 t180 _ A39.out).mono ?_); rintro e w' ⟨rfl, ⟨nd, rfl⟩⟩))
                      go_roundg k2
                      case measure => have := HK1.out; have := HK2.out; omega
                      case rel => exact ⟨(wrap64 (x11_2 + 1)), (t170), (t171), (t172), (t173), (t174), (by first | rfl | (simp; done) | (simp [*]; done)), H', ⟨by have := HK1.out; have := HK2.out; omega⟩, ⟨by (with_reducible repeat (first | refine blk_drewN ?_ _ | refine blk_drew ?_ | refine blk_alloc ?_ _)); refine blk_put (cs := #[.bool t170, .int .u8 t171, .int .u8 t172, .int .u8 t173, .int .u8 x157004_2]) ?_ 4 _ rfl; (with_reducible repeat (first | refine blk_drewN ?_ _ | refine blk_drew ?_ | refine blk_alloc ?_ _)); refine blk_put (cs := #[.bool t170, .int .u8 t171, .int .u8 t172, .int .u8 x157003_2, .int .u8 x157004_2]) ?_ 3 _ rfl; (with_reducible repeat (first | refine blk_drewN ?_ _ | refine blk_drew ?_ | refine blk_alloc ?_ _)); refine blk_put (cs := #[.bool t170, .int .u8 t171, .int .u8 x157002_2, .int .u8 x157003_2, .int .u8 x157004_2]) ?_ 2 _ rfl; (with_reducible repeat (first | refine blk_drewN ?_ _ | refine blk_drew ?_ | refine blk_alloc ?_ _)); refine blk_put (cs := #[.bool t170, .int .u8 x157001_2, .int .u8 x157002_2, .int .u8 x157003_2, .int .u8 x157004_2]) ?_ 1 _ rfl; (with_reducible repeat (first | refine blk_drewN ?_ _ | refine blk_drew ?_ | refine blk_alloc ?_ _)); refine blk_put (cs := #[.bool x157000_2, .int .u8 x157001_2, .int .u8 x157002_2, .int .u8 x157003_2, .int .u8 x157004_2]) ?_ 0 _ rfl; (with_reducible repeat (first | refine blk_drewN ?_ _ | refine blk_drew ?_ | refine blk_alloc ?_ _)); refine blk_far ?_ NB156_178.out _; (with_reducible repeat (first | refine blk_drewN ?_ _ | refine blk_drew ?_ | refine blk_alloc ?_ _)); refine blk_far ?_ NB156_178.out _; (with_reducible repeat (first | refine blk_drewN ?_ _ | refine blk_drew ?_ | refine blk_alloc ?_ _)); refine blk_far ?_ NB156_178.out _; (with_reducible repeat (first | refine blk_drewN ?_ _ | refine blk_drew ?_ | refine blk_alloc ?_ _)); refine blk_far ?_ NB156_178.out _; (with_reducible repeat (first | refine blk_drewN ?_ _ | refine blk_drew ?_ | refine blk_alloc ?_ _)); refine blk_far ?_ NB156_178.out _; (with_reducible repeat (first | refine blk_drewN ?_ _ | refine blk_drew ?_ | refine blk_alloc ?_ _)); exact BK156.out⟩, ⟨by repeat (first | (with_reducible first | exact HB.out | apply below_alloc | apply pw_below_drewN | apply below_drew1 | refine below_set ?_ GE156.out | refine below_set ?_ GE178.out) | exact HB.out)⟩⟩
                    · rw [if_neg c40] at H
                      have c40b0 : (t175 == t180) = false := beq_eq_false_iff_ne.mpr c40
                      have c40b1 : (t175 != t180) = true := bne_iff_ne.mpr c40
                      obtain rfl := Option.some.inj H
                      have hcz47_0 : wr.cell? ⟨gb156, 0, none⟩ = some (.bool x157000_2) := (blk_cell BK156.out 0).trans rfl
                      have hcz47_1 : wr.cell? ⟨gb156, 1, none⟩ = some (.int .u8 x157001_2) := (blk_cell BK156.out 1).trans rfl
                      have hcz47_2 : wr.cell? ⟨gb156, 2, none⟩ = some (.int .u8 x157002_2) := (blk_cell BK156.out 2).trans rfl
                      have hcz47_3 : wr.cell? ⟨gb156, 3, none⟩ = some (.int .u8 x157003_2) := (blk_cell BK156.out 3).trans rfl
                      have hcz47_4 : wr.cell? ⟨gb156, 4, none⟩ = some (.int .u8 x157004_2) := (blk_cell BK156.out 4).trans rfl
                      have hfz47_0 := blk_frozen BK156.out 0
                      have hfz47_1 := blk_frozen BK156.out 1
                      have hfz47_2 := blk_frozen BK156.out 2
                      have hfz47_3 := blk_frozen BK156.out 3
                      have hfz47_4 := blk_frozen BK156.out 4
                      go_wp2_with (first | ((with_reducible refine gate_callee (f := 11) rfl ?_); refine goesL_ (some 45) rfl rfl Try.func11 (by kernel_rfl) rfl #[.agg #[.bool x157000_2, .int .u8 x157001_2, .int .u8 x157002_2, .int .u8 x157003_2, .int .u8 x157004_2]] rfl (by (try simp only [List.map_toArray, List.map_cons, List.map_nil]); first | done | rfl | (simp only [List.length_drop, List.length_take]; rfl)) ?_; (with_reducible refine (dma_Step.calls x157000_2 x157001_2 x157002_2 x157003_2 x157004_2 t170 t171 t172 t173 t174 t175 t176 true _ A20.out).mono ?_); rintro e w48 ⟨rfl, hb⟩; refine ⟨_, rfl, ?_⟩; have n0_ := Aside0.mk (blk_below (g := gb156) (o := .cells #[.bool x157000_2, .int .u8 x157001_2, .int .u8 x157002_2, .int .u8 x157003_2, .int .u8 x157004_2] 27 (0, 0)) (by (with_reducible repeat (first | refine blk_drewN ?_ _ | refine blk_drew ?_ | refine blk_alloc ?_ _)); exact BK156.out) hb); have n1_ := Aside0.mk (below_step (by repeat (first | (with_reducible first | exact HB.out | apply below_alloc | apply pw_below_drewN | apply below_drew1 | refine below_set ?_ GE156.out) | exact HB.out)) hb); clear BK156; clear HB; have BK156 := n0_; have HB := n1_; clear n0_ n1_; (try clear hb); (try clear hb2); (try clear hk); (try clear hi)) | ((with_reducible refine gate_dst (N := 12) rfl ?_); refine box_event ?hg (N := 12) ?hd (cs := #[.bool false, .int .u8 0, .int .u8 0, .int .u8 0, .int .u8 0]) (t := 27) ?hr ?_; (case hd => rfl); (case hg => rfl); (case hr => first | (go_simp; done) | (go_simp; rfl)); intro gb178 hg w49 hbox hb; have n0_ := Aside0.mk (blk_below (g := gb156) (o := .cells #[.bool x157000_2, .int .u8 x157001_2, .int .u8 x157002_2, .int .u8 x157003_2, .int .u8 x157004_2] 27 (0, 0)) (by (with_reducible repeat (first | refine blk_drewN ?_ _ | refine blk_drew ?_ | refine blk_alloc ?_ _)); exact BK156.out) hb); have n1_ := Aside0.mk (below_step (by repeat (first | (with_reducible first | exact HB.out | apply below_alloc | apply pw_below_drewN | apply below_drew1 | refine below_set ?_ GE156.out) | exact HB.out)) hb); have n2_ := Aside0.mk (hbox); have n3_ := Aside0.mk ((by rw [hg]; exact (below_size (by repeat (first | (with_reducible first | exact HB.out | apply below_alloc | apply pw_below_drewN | apply below_drew1 | refine below_set ?_ GE156.out) | exact HB.out))) : w.heap.size ≤ gb178)); have n4_ := Aside0.mk ((by rw [hg]; exact (below_size (by repeat (first | (with_reducible first | exact HB.out | apply below_alloc | apply pw_below_drewN | apply below_drew1 | refine below_set ?_ GE156.out) | exact HB.out))) : w.heap.size ≤ gb178)); have n5_ := Aside0.mk ((by rw [hg]; exact Nat.ne_of_lt (blk_lt (g := gb156) (o := .cells #[.bool x157000_2, .int .u8 x157001_2, .int .u8 x157002_2, .int .u8 x157003_2, .int .u8 x157004_2] 27 (0, 0)) (by (with_reducible repeat (first | refine blk_drewN ?_ _ | refine blk_drew ?_ | refine blk_alloc ?_ _)); exact BK156.out)) : gb156 ≠ gb178)); have n6_ := Aside0.mk ((by rw [hg]; exact Nat.ne_of_gt (blk_lt (g := gb156) (o := .cells #[.bool x157000_2, .int .u8 x157001_2, .int .u8 x157002_2, .int .u8 x157003_2, .int .u8 x157004_2] 27 (0, 0)) (by (with_reducible repeat (first | refine blk_drewN ?_ _ | refine blk_drew ?_ | refine blk_alloc ?_ _)); exact BK156.out)) : gb178 ≠ gb156)); clear BK156; clear HB; have BK156 := n0_; have HB := n1_; have BK178 := n2_; have GW178 := n3_; have GE178 := n4_; have NB156_178 := n5_; have NB178_156 := n6_; clear n0_ n1_ n2_ n3_ n4_ n5_ n6_; clear hb hbox hg; have hnb50 := NB178_156.out; have hnc50 := NB156_178.out; have hcz51_0 : w49.cell? ⟨gb178, 0, none⟩ = some (.bool false) := (blk_cell BK178.out 0).trans rfl; have hcz51_1 : w49.cell? ⟨gb178, 1, none⟩ = some (.int .u8 0) := (blk_cell BK178.out 1).trans rfl; have hcz51_2 : w49.cell? ⟨gb178, 2, none⟩ = some (.int .u8 0) := (blk_cell BK178.out 2).trans rfl; have hcz51_3 : w49.cell? ⟨gb178, 3, none⟩ = some (.int .u8 0) := (blk_cell BK178.out 3).trans rfl; have hcz51_4 : w49.cell? ⟨gb178, 4, none⟩ = some (.int .u8 0) := (blk_cell BK178.out 4).trans rfl; have hfz51_0 := blk_frozen BK178.out 0; have hfz51_1 := blk_frozen BK178.out 1; have hfz51_2 := blk_frozen BK178.out 2; have hfz51_3 := blk_frozen BK178.out 3; have hfz51_4 := blk_frozen BK178.out 4; have hcz52_0 : w49.cell? ⟨gb156, 0, none⟩ = some (.bool x157000_2) := (blk_cell BK156.out 0).trans rfl; have hcz52_1 : w49.cell? ⟨gb156, 1, none⟩ = some (.int .u8 x157001_2) := (blk_cell BK156.out 1).trans rfl; have hcz52_2 : w49.cell? ⟨gb156, 2, none⟩ = some (.int .u8 x157002_2) := (blk_cell BK156.out 2).trans rfl; have hcz52_3 : w49.cell? ⟨gb156, 3, none⟩ = some (.int .u8 x157003_2) := (blk_cell BK156.out 3).trans rfl; have hcz52_4 : w49.cell? ⟨gb156, 4, none⟩ = some (.int .u8 x157004_2) := (blk_cell BK156.out 4).trans rfl; have hfz52_0 := blk_frozen BK156.out 0; have hfz52_1 := blk_frozen BK156.out 1; have hfz52_2 := blk_frozen BK156.out 2; have hfz52_3 := blk_frozen BK156.out 3; have hfz52_4 := blk_frozen BK156.out 4) | (go_at_call 9; (with_reducible refine (dma_Source.calls a1 t176 t180 _ A39.out).mono ?_); rintro e w' ⟨rfl, ⟨nd, rfl⟩⟩))
                      go_ret
                      exact ⟨by first | rfl | (simp [errW_none, errW_some] <;> rfl) | (simp [*, errW_none, errW_some] <;> rfl), by repeat (first | (with_reducible first | exact HB.out | apply below_alloc | apply pw_below_drewN | apply below_drew1 | refine below_set ?_ GE156.out | refine below_set ?_ GE178.out) | exact HB.out)⟩
                  · rw [if_neg c38] at H
                    have c38b0 : ((wrap64 (t176)) == (wrap64 (x11_2 - 2))) = false := beq_eq_false_iff_ne.mpr c38
                    have c38b1 : ((wrap64 (t176)) != (wrap64 (x11_2 - 2))) = true := bne_iff_ne.mpr c38
                    obtain rfl := Option.some.inj H
                    have hcz53_0 : wr.cell? ⟨gb156, 0, none⟩ = some (.bool x157000_2) := (blk_cell BK156.out 0).trans rfl
                    have hcz53_1 : wr.cell? ⟨gb156, 1, none⟩ = some (.int .u8 x157001_2) := (blk_cell BK156.out 1).trans rfl
                    have hcz53_2 : wr.cell? ⟨gb156, 2, none⟩ = some (.int .u8 x157002_2) := (blk_cell BK156.out 2).trans rfl
                    have hcz53_3 : wr.cell? ⟨gb156, 3, none⟩ = some (.int .u8 x157003_2) := (blk_cell BK156.out 3).trans rfl
                    have hcz53_4 : wr.cell? ⟨gb156, 4, none⟩ = some (.int .u8 x157004_2) := (blk_cell BK156.out 4).trans rfl
                    have hfz53_0 := blk_frozen BK156.out 0
                    have hfz53_1 := blk_frozen BK156.out 1
                    have hfz53_2 := blk_frozen BK156.out 2
                    have hfz53_3 := blk_frozen BK156.out 3
                    have hfz53_4 := blk_frozen BK156.out 4
                    go_wp2_with (first | ((with_reducible refine gate_callee (f := 11) rfl ?_); refine goesL_ (some 45) rfl rfl Try.func11 (by kernel_rfl) rfl #[.agg #[.bool x157000_2, .int .u8 x157001_2, .int .u8 x157002_2, .int .u8 x157003_2, .int .u8 x157004_2]] rfl (by (try simp only [List.map_toArray, List.map_cons, List.map_nil]); first | done | rfl | (simp only [List.length_drop, List.length_take]; rfl)) ?_; (with_reducible refine (dma_Step.calls x157000_2 x157001_2 x157002_2 x157003_2 x157004_2 t170 t171 t172 t173 t174 t175 t176 true _ A20.out).mono ?_); rintro e w54 ⟨rfl, hb⟩; refine ⟨_, rfl, ?_⟩; have n0_ := Aside0.mk (blk_below (g := gb156) (o := .cells #[.bool x157000_2, .int .u8 x157001_2, .int .u8 x157002_2, .int .u8 x157003_2, .int .u8 x157004_2] 27 (0, 0)) (by (with_reducible repeat (first | refine blk_drewN ?_ _ | refine blk_drew ?_ | refine blk_alloc ?_ _)); exact BK156.out) hb); have n1_ := Aside0.mk (below_step (by repeat (first | (with_reducible first | exact HB.out | apply below_alloc | apply pw_below_drewN | apply below_drew1 | refine below_set ?_ GE156.out) | exact HB.out)) hb); clear BK156; clear HB; have BK156 := n0_; have HB := n1_; clear n0_ n1_; (try clear hb); (try clear hb2); (try clear hk); (try clear hi)) | ((with_reducible refine gate_dst (N := 12) rfl ?_); refine box_event ?hg (N := 12) ?hd (cs := #[.bool false, .int .u8 0, .int .u8 0, .int .u8 0, .int .u8 0]) (t := 27) ?hr ?_; (case hd => rfl); (case hg => rfl); (case hr => first | (go_simp; done) | (go_simp; rfl)); intro gb178 hg w55 hbox hb; have n0_ := Aside0.mk (blk_below (g := gb156) (o := .cells #[.bool x157000_2, .int .u8 x157001_2, .int .u8 x157002_2, .int .u8 x157003_2, .int .u8 x157004_2] 27 (0, 0)) (by (with_reducible repeat (first | refine blk_drewN ?_ _ | refine blk_drew ?_ | refine blk_alloc ?_ _)); exact BK156.out) hb); have n1_ := Aside0.mk (below_step (by repeat (first | (with_reducible first | exact HB.out | apply below_alloc | apply pw_below_drewN | apply below_drew1 | refine below_set ?_ GE156.out) | exact HB.out)) hb); have n2_ := Aside0.mk (hbox); have n3_ := Aside0.mk ((by rw [hg]; exact (below_size (by repeat (first | (with_reducible first | exact HB.out | apply below_alloc | apply pw_below_drewN | apply below_drew1 | refine below_set ?_ GE156.out) | exact HB.out))) : w.heap.size ≤ gb178)); have n4_ := Aside0.mk ((by rw [hg]; exact (below_size (by repeat (first | (with_reducible first | exact HB.out | apply below_alloc | apply pw_below_drewN | apply below_drew1 | refine below_set ?_ GE156.out) | exact HB.out))) : w.heap.size ≤ gb178)); have n5_ := Aside0.mk ((by rw [hg]; exact Nat.ne_of_lt (blk_lt (g := gb156) (o := .cells #[.bool x157000_2, .int .u8 x157001_2, .int .u8 x157002_2, .int .u8 x157003_2, .int .u8 x157004_2] 27 (0, 0)) (by (with_reducible repeat (first | refine blk_drewN ?_ _ | refine blk_drew ?_ | refine blk_alloc ?_ _)); exact BK156.out)) : gb156 ≠ gb178)); have n6_ := Aside0.mk ((by rw [hg]; exact Nat.ne_of_gt (blk_lt (g := gb156) (o := .cells #[.bool x157000_2, .int .u8 x157001_2, .int .u8 x157002_2, .int .u8 x157003_2, .int .u8 x157004_2] 27 (0, 0)) (by (with_reducible repeat (first | refine blk_drewN ?_ _ | refine blk_drew ?_ | refine blk_alloc ?_ _)); exact BK156.out)) : gb178 ≠ gb156)); clear BK156; clear HB; have BK156 := n0_; have HB := n1_; have BK178 := n2_; have GW178 := n3_; have GE178 := n4_; have NB156_178 := n5_; have NB178_156 := n6_; clear n0_ n1_ n2_ n3_ n4_ n5_ n6_; clear hb hbox hg; have hnb56 := NB178_156.out; have hnc56 := NB156_178.out; have hcz57_0 : w55.cell? ⟨gb178, 0, none⟩ = some (.bool false) := (blk_cell BK178.out 0).trans rfl; have hcz57_1 : w55.cell? ⟨gb178, 1, none⟩ = some (.int .u8 0) := (blk_cell BK178.out 1).trans rfl; have hcz57_2 : w55.cell? ⟨gb178, 2, none⟩ = some (.int .u8 0) := (blk_cell BK178.out 2).trans rfl; have hcz57_3 : w55.cell? ⟨gb178, 3, none⟩ = some (.int .u8 0) := (blk_cell BK178.out 3).trans rfl; have hcz57_4 : w55.cell? ⟨gb178, 4, none⟩ = some (.int .u8 0) := (blk_cell BK178.out 4).trans rfl; have hfz57_0 := blk_frozen BK178.out 0; have hfz57_1 := blk_frozen BK178.out 1; have hfz57_2 := blk_frozen BK178.out 2; have hfz57_3 := blk_frozen BK178.out 3; have hfz57_4 := blk_frozen BK178.out 4; have hcz58_0 : w55.cell? ⟨gb156, 0, none⟩ = some (.bool x157000_2) := (blk_cell BK156.out 0).trans rfl; have hcz58_1 : w55.cell? ⟨gb156, 1, none⟩ = some (.int .u8 x157001_2) := (blk_cell BK156.out 1).trans rfl; have hcz58_2 : w55.cell? ⟨gb156, 2, none⟩ = some (.int .u8 x157002_2) := (blk_cell BK156.out 2).trans rfl; have hcz58_3 : w55.cell? ⟨gb156, 3, none⟩ = some (.int .u8 x157003_2) := (blk_cell BK156.out 3).trans rfl; have hcz58_4 : w55.cell? ⟨gb156, 4, none⟩ = some (.int .u8 x157004_2) := (blk_cell BK156.out 4).trans rfl; have hfz58_0 := blk_frozen BK156.out 0; have hfz58_1 := blk_frozen BK156.out 1; have hfz58_2 := blk_frozen BK156.out 2; have hfz58_3 := blk_frozen BK156.out 3; have hfz58_4 := blk_frozen BK156.out 4))
                    go_ret
                    exact ⟨by first | rfl | (simp [errW_none, errW_some] <;> rfl) | (simp [*, errW_none, errW_some] <;> rfl), by repeat (first | (with_reducible first | exact HB.out | apply below_alloc | apply pw_below_drewN | apply below_drew1 | refine below_set ?_ GE156.out | refine below_set ?_ GE178.out) | exact HB.out)⟩
                · replace c37 := Bool.eq_false_iff.mpr c37
                  subst c37
                  have H1 : (some false) = some r := by rw [if_neg (show ¬ (false = true) by decide)] at H; exact H
                  clear H
                  have H := H1
                  clear H1
                  obtain rfl := Option.some.inj H
                  have hcz59_0 : wr.cell? ⟨gb156, 0, none⟩ = some (.bool x157000_2) := (blk_cell BK156.out 0).trans rfl
                  have hcz59_1 : wr.cell? ⟨gb156, 1, none⟩ = some (.int .u8 x157001_2) := (blk_cell BK156.out 1).trans rfl
                  have hcz59_2 : wr.cell? ⟨gb156, 2, none⟩ = some (.int .u8 x157002_2) := (blk_cell BK156.out 2).trans rfl
                  have hcz59_3 : wr.cell? ⟨gb156, 3, none⟩ = some (.int .u8 x157003_2) := (blk_cell BK156.out 3).trans rfl
                  have hcz59_4 : wr.cell? ⟨gb156, 4, none⟩ = some (.int .u8 x157004_2) := (blk_cell BK156.out 4).trans rfl
                  have hfz59_0 := blk_frozen BK156.out 0
                  have hfz59_1 := blk_frozen BK156.out 1
                  have hfz59_2 := blk_frozen BK156.out 2
                  have hfz59_3 := blk_frozen BK156.out 3
                  have hfz59_4 := blk_frozen BK156.out 4
                  go_wp2_with (first | ((with_reducible refine gate_callee (f := 11) rfl ?_); refine goesL_ (some 45) rfl rfl Try.func11 (by kernel_rfl) rfl #[.agg #[.bool x157000_2, .int .u8 x157001_2, .int .u8 x157002_2, .int .u8 x157003_2, .int .u8 x157004_2]] rfl (by (try simp only [List.map_toArray, List.map_cons, List.map_nil]); first | done | rfl | (simp only [List.length_drop, List.length_take]; rfl)) ?_; (with_reducible refine (dma_Step.calls x157000_2 x157001_2 x157002_2 x157003_2 x157004_2 t170 t171 t172 t173 t174 t175 t176 false _ A20.out).mono ?_); rintro e w60 ⟨rfl, hb⟩; refine ⟨_, rfl, ?_⟩; have n0_ := Aside0.mk (blk_below (g := gb156) (o := .cells #[.bool x157000_2, .int .u8 x157001_2, .int .u8 x157002_2, .int .u8 x157003_2, .int .u8 x157004_2] 27 (0, 0)) (by (with_reducible repeat (first | refine blk_drewN ?_ _ | refine blk_drew ?_ | refine blk_alloc ?_ _)); exact BK156.out) hb); have n1_ := Aside0.mk (below_step (by repeat (first | (with_reducible first | exact HB.out | apply below_alloc | apply pw_below_drewN | apply below_drew1 | refine below_set ?_ GE156.out) | exact HB.out)) hb); clear BK156; clear HB; have BK156 := n0_; have HB := n1_; clear n0_ n1_; (try clear hb); (try clear hb2); (try clear hk); (try clear hi)) | ((with_reducible refine gate_dst (N := 12) rfl ?_); refine box_event ?hg (N := 12) ?hd (cs := #[.bool false, .int .u8 0, .int .u8 0, .int .u8 0, .int .u8 0]) (t := 27) ?hr ?_; (case hd => rfl); (case hg => rfl); (case hr => first | (go_simp; done) | (go_simp; rfl)); intro gb178 hg w61 hbox hb; have n0_ := Aside0.mk (blk_below (g := gb156) (o := .cells #[.bool x157000_2, .int .u8 x157001_2, .int .u8 x157002_2, .int .u8 x157003_2, .int .u8 x157004_2] 27 (0, 0)) (by (with_reducible repeat (first | refine blk_drewN ?_ _ | refine blk_drew ?_ | refine blk_alloc ?_ _)); exact BK156.out) hb); have n1_ := Aside0.mk (below_step (by repeat (first | (with_reducible first | exact HB.out | apply below_alloc | apply pw_below_drewN | apply below_drew1 | refine below_set ?_ GE156.out) | exact HB.out)) hb); have n2_ := Aside0.mk (hbox); have n3_ := Aside0.mk ((by rw [hg]; exact (below_size (by repeat (first | (with_reducible first | exact HB.out | apply below_alloc | apply pw_below_drewN | apply below_drew1 | refine below_set ?_ GE156.out) | exact HB.out))) : w.heap.size ≤ gb178)); have n4_ := Aside0.mk ((by rw [hg]; exact (below_size (by repeat (first | (with_reducible first | exact HB.out | apply below_alloc | apply pw_below_drewN | apply below_drew1 | refine below_set ?_ GE156.out) | exact HB.out))) : w.heap.size ≤ gb178)); have n5_ := Aside0.mk ((by rw [hg]; exact Nat.ne_of_lt (blk_lt (g := gb156) (o := .cells #[.bool x157000_2, .int .u8 x157001_2, .int .u8 x157002_2, .int .u8 x157003_2, .int .u8 x157004_2] 27 (0, 0)) (by (with_reducible repeat (first | refine blk_drewN ?_ _ | refine blk_drew ?_ | refine blk_alloc ?_ _)); exact BK156.out)) : gb156 ≠ gb178)); have n6_ := Aside0.mk ((by rw [hg]; exact Nat.ne_of_gt (blk_lt (g := gb156) (o := .cells #[.bool x157000_2, .int .u8 x157001_2, .int .u8 x157002_2, .int .u8 x157003_2, .int .u8 x157004_2] 27 (0, 0)) (by (with_reducible repeat (first | refine blk_drewN ?_ _ | refine blk_drew ?_ | refine blk_alloc ?_ _)); exact BK156.out)) : gb178 ≠ gb156)); clear BK156; clear HB; have BK156 := n0_; have HB := n1_; have BK178 := n2_; have GW178 := n3_; have GE178 := n4_; have NB156_178 := n5_; have NB178_156 := n6_; clear n0_ n1_ n2_ n3_ n4_ n5_ n6_; clear hb hbox hg; have hnb62 := NB178_156.out; have hnc62 := NB156_178.out; have hcz63_0 : w61.cell? ⟨gb178, 0, none⟩ = some (.bool false) := (blk_cell BK178.out 0).trans rfl; have hcz63_1 : w61.cell? ⟨gb178, 1, none⟩ = some (.int .u8 0) := (blk_cell BK178.out 1).trans rfl; have hcz63_2 : w61.cell? ⟨gb178, 2, none⟩ = some (.int .u8 0) := (blk_cell BK178.out 2).trans rfl; have hcz63_3 : w61.cell? ⟨gb178, 3, none⟩ = some (.int .u8 0) := (blk_cell BK178.out 3).trans rfl; have hcz63_4 : w61.cell? ⟨gb178, 4, none⟩ = some (.int .u8 0) := (blk_cell BK178.out 4).trans rfl; have hfz63_0 := blk_frozen BK178.out 0; have hfz63_1 := blk_frozen BK178.out 1; have hfz63_2 := blk_frozen BK178.out 2; have hfz63_3 := blk_frozen BK178.out 3; have hfz63_4 := blk_frozen BK178.out 4; have hcz64_0 : w61.cell? ⟨gb156, 0, none⟩ = some (.bool x157000_2) := (blk_cell BK156.out 0).trans rfl; have hcz64_1 : w61.cell? ⟨gb156, 1, none⟩ = some (.int .u8 x157001_2) := (blk_cell BK156.out 1).trans rfl; have hcz64_2 : w61.cell? ⟨gb156, 2, none⟩ = some (.int .u8 x157002_2) := (blk_cell BK156.out 2).trans rfl; have hcz64_3 : w61.cell? ⟨gb156, 3, none⟩ = some (.int .u8 x157003_2) := (blk_cell BK156.out 3).trans rfl; have hcz64_4 : w61.cell? ⟨gb156, 4, none⟩ = some (.int .u8 x157004_2) := (blk_cell BK156.out 4).trans rfl; have hfz64_0 := blk_frozen BK156.out 0; have hfz64_1 := blk_frozen BK156.out 1; have hfz64_2 := blk_frozen BK156.out 2; have hfz64_3 := blk_frozen BK156.out 3; have hfz64_4 := blk_frozen BK156.out 4))
                  go_ret
                  exact ⟨by first | rfl | (simp [errW_none, errW_some] <;> rfl) | (simp [*, errW_none, errW_some] <;> rfl), by repeat (first | (with_reducible first | exact HB.out | apply below_alloc | apply pw_below_drewN | apply below_drew1 | refine below_set ?_ GE156.out | refine below_set ?_ GE178.out) | exact HB.out)⟩
            · rw [if_neg c19] at H
              have c19b0 : decide (x11_2 < 162) = false := decide_eq_false c19
              clear c19
              by_cases c65 : t150 = true
              · subst c65
                have H1 : (some (!x157000_2)) = some r := by rw [if_pos rfl] at H; exact H
                clear H
                have H := H1
                clear H1
                obtain rfl := Option.some.inj H
                have hcz66_0 : wr.cell? ⟨gb156, 0, none⟩ = some (.bool x157000_2) := (blk_cell BK156.out 0).trans rfl
                have hcz66_1 : wr.cell? ⟨gb156, 1, none⟩ = some (.int .u8 x157001_2) := (blk_cell BK156.out 1).trans rfl
                have hcz66_2 : wr.cell? ⟨gb156, 2, none⟩ = some (.int .u8 x157002_2) := (blk_cell BK156.out 2).trans rfl
                have hcz66_3 : wr.cell? ⟨gb156, 3, none⟩ = some (.int .u8 x157003_2) := (blk_cell BK156.out 3).trans rfl
                have hcz66_4 : wr.cell? ⟨gb156, 4, none⟩ = some (.int .u8 x157004_2) := (blk_cell BK156.out 4).trans rfl
                have hfz66_0 := blk_frozen BK156.out 0
                have hfz66_1 := blk_frozen BK156.out 1
                have hfz66_2 := blk_frozen BK156.out 2
                have hfz66_3 := blk_frozen BK156.out 3
                have hfz66_4 := blk_frozen BK156.out 4
                go_wp2
                go_ret
                exact ⟨by first | rfl | (simp [errW_none, errW_some] <;> rfl) | (simp [*, errW_none, errW_some] <;> rfl), by repeat (first | (with_reducible first | exact HB.out | apply below_alloc | apply pw_below_drewN | apply below_drew1 | refine below_set ?_ GE156.out) | exact HB.out)⟩
              · replace c65 := Bool.eq_false_iff.mpr c65
                subst c65
                have H1 : (some false) = some r := by rw [if_neg (show ¬ (false = true) by decide)] at H; exact H
                clear H
                have H := H1
                clear H1
                obtain rfl := Option.some.inj H
                go_wp2
                go_ret
                exact ⟨by first | rfl | (simp [errW_none, errW_some] <;> rfl) | (simp [*, errW_none, errW_some] <;> rfl), by repeat (first | (with_reducible first | exact HB.out | apply below_alloc | apply pw_below_drewN | apply below_drew1 | refine below_set ?_ GE156.out) | exact HB.out)⟩

/-- THE ONE PURE STATEMENT of whirligiglaw19_DmaAgain: yours. -/
def whirligiglaw19_DmaAgain.Pure : Prop := ∀ (a0 : Int) (a1 : Int) (a2 : Int), (Lit.int .u8 a0).wf = true → (Lit.int .u8 a1).wf = true → (Lit.int .u8 a2).wf = true → ∃ k, whirligiglaw19_DmaAgain.f k a0 a1 a2 = some true
theorem whirligiglaw19_DmaAgain.walk (P : whirligiglaw19_DmaAgain.Pure) (a0 : Int) (a1 : Int) (a2 : Int) (w : World) (w0 : (Lit.int .u8 a0).wf = true) (w1 : (Lit.int .u8 a1).wf = true) (w2 : (Lit.int .u8 a2).wf = true) :
    Calls Try.prog 5 #[.int .u8 a0, .int .u8 a1, .int .u8 a2] w fun e w' => e = .returned (.bool true) ∧ Below w.heap.size w w' := by
  obtain ⟨k, h⟩ := P a0 a1 a2 w0 w1 w2
  refine (whirligiglaw19_DmaAgain.calls k a0 a1 a2 true w h).mono ?_
  rintro e w' ⟨rfl, hd⟩
  exact ⟨rfl, hd⟩

end Go.Proofs.Ytofcicdomkaigaa.P
