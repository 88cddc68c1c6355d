/- Contracts of Go functions of this seat: each Lean function here is what the Go function of its name answers, in every memory; no condition but the equations that each theorem states. Written by a program of this session (wip/given.py); Lean checks it. -/
import Derived.Test.YtiponhdcjccmaaaPx0
import Derived.Test.YtiponhdcjccmaaaPx3
import Derived.Test.YtiponhdcjccmaaaPx6
import Derived.Test.YtiponhdcjccmaaaPx8
import Derived.Test.YtiponhdcjccmaaaPx20
namespace Go.Proofs.Ytiponhdcjccmaaa.P
open Go.RowKit Go.Proofs.YtiponhdcjccmaaaW.PrintWords Go.Proofs.YtiponhdcjccmaaaW.PrintLast Go.Proofs.YtiponhdcjccmaaaW.PrintMore
attribute [local go_sem] max2_int min2_int max_two min_two max_three min_three max_four min_four   -- for this text's walks alone
set_option linter.unusedVariables false
set_option linter.unusedSimpArgs false

/-! ### whirligiglaw15_LcdFrames: function 8 -/
mutual
def whirligiglaw15_LcdFrames.l0 : Nat → Int → Bool → Int → Int → Int → Bool → Int → Int → Int → Int → Bool → Int → Option (Bool)
  | 0, _, _, _, _, _, _, _, _, _, _, _, _ => none
  | k + 1, x0, x7, x10, x11, x12, x260000, x260001, x260002, x260003, x260004, x260005, x260006 => if x12 < 70224 then ((lcd_Step.f k x260000 x260001 x260002 x260003 x260004 x260005 x260006 (IntKind.u16.wrap (x0 + (IntKind.u16.wrap (x12))))).bind fun bt261 => (if bt261.2.2.2.2.2.2.2.1 = true then (whirligiglaw15_LcdFrames.j1 k x0 x7 (wrap64 (x10 + 1)) x11 x12 bt261.1 bt261.2.1 bt261.2.2.1 bt261.2.2.2.1 bt261.2.2.2.2.1 bt261.2.2.2.2.2.1 bt261.2.2.2.2.2.2.1 bt261.2.2.2.2.2.2.2.1 bt261.2.2.2.2.2.2.2.2.1 bt261.2.2.2.2.2.2.2.2.2) else (whirligiglaw15_LcdFrames.j1 k x0 x7 x10 x11 x12 bt261.1 bt261.2.1 bt261.2.2.1 bt261.2.2.2.1 bt261.2.2.2.2.1 bt261.2.2.2.2.2.1 bt261.2.2.2.2.2.2.1 bt261.2.2.2.2.2.2.2.1 bt261.2.2.2.2.2.2.2.2.1 bt261.2.2.2.2.2.2.2.2.2))) else (if x7 = true then (if x10 = 1 then (if x11 = 144 then (if x260001 = 0 then (if x260002 = 0 then ((lcd_Mode.f x260000 x260001 x260002 x260003 x260004 x260005 x260006).bind fun t260 => (some (t260 == 2))) else (some false)) else (some false)) else (some false)) else (some false)) else (some false))
def whirligiglaw15_LcdFrames.j1 : Nat → Int → Bool → Int → Int → Int → Bool → Int → Int → Int → Int → Bool → Int → Bool → Bool → Bool → Option (Bool)
  | 0, _, _, _, _, _, _, _, _, _, _, _, _, _, _, _ => none
  | k + 1, x0, x7, x10, x11, x12, x260000, x260001, x260002, x260003, x260004, x260005, x260006, x273000, x273001, x273002 => if x273002 = true then (if x273000 = true then (if x260001 = 144 then (if x12 = 65663 then ((lcd_Mode.f x260000 x260001 x260002 x260003 x260004 x260005 x260006).bind fun t273 => (if t273 = 3 then (whirligiglaw15_LcdFrames.l0 k x0 x7 x10 (wrap64 (x11 + 1)) (wrap64 (x12 + 1)) x260000 x260001 x260002 x260003 x260004 x260005 x260006) else (some false))) else (some false)) else (some false)) else ((lcd_Mode.f x260000 x260001 x260002 x260003 x260004 x260005 x260006).bind fun t274 => (if t274 = 3 then (whirligiglaw15_LcdFrames.l0 k x0 x7 x10 (wrap64 (x11 + 1)) (wrap64 (x12 + 1)) x260000 x260001 x260002 x260003 x260004 x260005 x260006) else (some false)))) else (if x273000 = true then (if x260001 = 144 then (if x12 = 65663 then (whirligiglaw15_LcdFrames.l0 k x0 x7 x10 x11 (wrap64 (x12 + 1)) x260000 x260001 x260002 x260003 x260004 x260005 x260006) else (some false)) else (some false)) else (whirligiglaw15_LcdFrames.l0 k x0 x7 x10 x11 (wrap64 (x12 + 1)) x260000 x260001 x260002 x260003 x260004 x260005 x260006))
end
def whirligiglaw15_LcdFrames.f (k : Nat) (a0 : Int) (a1 : Int) (a2 : Int) : Option (Bool) := (whirligiglaw15_shown.f k).bind fun t250 => ((lcd_Power.f k false 0 0 a2 a1 false 0 true).bind fun bt251 => (whirligiglaw15_LcdFrames.l0 k a0 t250 0 0 0 bt251.1 bt251.2.1 bt251.2.2.1 bt251.2.2.2.1 bt251.2.2.2.2.1 bt251.2.2.2.2.2.1 bt251.2.2.2.2.2.2.1))
theorem whirligiglaw15_LcdFrames.mono_l : ∀ k, (∀ y0 y1 y2 y3 y4 y5 y6 y7 y8 y9 y10 y11, LeO (whirligiglaw15_LcdFrames.l0 k y0 y1 y2 y3 y4 y5 y6 y7 y8 y9 y10 y11) (whirligiglaw15_LcdFrames.l0 (k + 1) y0 y1 y2 y3 y4 y5 y6 y7 y8 y9 y10 y11)) ∧ (∀ y0 y1 y2 y3 y4 y5 y6 y7 y8 y9 y10 y11 y12 y13 y14, LeO (whirligiglaw15_LcdFrames.j1 k y0 y1 y2 y3 y4 y5 y6 y7 y8 y9 y10 y11 y12 y13 y14) (whirligiglaw15_LcdFrames.j1 (k + 1) y0 y1 y2 y3 y4 y5 y6 y7 y8 y9 y10 y11 y12 y13 y14))
  | 0 => ⟨fun _ _ _ _ _ _ _ _ _ _ _ _ r h => by simp [whirligiglaw15_LcdFrames.l0] at h, fun _ _ _ _ _ _ _ _ _ _ _ _ _ _ _ r h => by simp [whirligiglaw15_LcdFrames.j1] at h⟩
  | k + 1 => by
    obtain ⟨ih0, ih1⟩ := whirligiglaw15_LcdFrames.mono_l k
    refine ⟨?_, ?_⟩
    · intro y0 y1 y2 y3 y4 y5 y6 y7 y8 y9 y10 y11
      unfold whirligiglaw15_LcdFrames.l0
      repeat' first
      | (with_reducible exact ih0 _ _ _ _ _ _ _ _ _ _ _ _)
      | (with_reducible exact ih1 _ _ _ _ _ _ _ _ _ _ _ _ _ _ _)
      | (with_reducible exact lcd_Power.mono _ _ _ _ _ _ _ _ _)
      | (with_reducible exact lcd_Step.mono _ _ _ _ _ _ _ _ _)
      | (with_reducible exact whirligiglaw15_shown.mono _)
      | (with_reducible exact LeO.refl _)
      | (with_reducible exact LeO.none _)
      | (with_reducible refine LeO.ite ?_ ?_)
      | (with_reducible refine LeO.bind ?_ (fun _ => ?_))
      | exact ih0 _ _ _ _ _ _ _ _ _ _ _ _
      | exact ih1 _ _ _ _ _ _ _ _ _ _ _ _ _ _ _
      | exact lcd_Power.mono _ _ _ _ _ _ _ _ _
      | exact lcd_Step.mono _ _ _ _ _ _ _ _ _
      | exact whirligiglaw15_shown.mono _
      | exact LeO.none _
      | refine LeO.ite ?_ ?_
      | refine LeO.bind ?_ (fun _ => ?_)
    · intro y0 y1 y2 y3 y4 y5 y6 y7 y8 y9 y10 y11 y12 y13 y14
      unfold whirligiglaw15_LcdFrames.j1
      repeat' first
      | (with_reducible exact ih0 _ _ _ _ _ _ _ _ _ _ _ _)
      | (with_reducible exact ih1 _ _ _ _ _ _ _ _ _ _ _ _ _ _ _)
      | (with_reducible exact lcd_Power.mono _ _ _ _ _ _ _ _ _)
      | (with_reducible exact lcd_Step.mono _ _ _ _ _ _ _ _ _)
      | (with_reducible exact whirligiglaw15_shown.mono _)
      | (with_reducible exact LeO.refl _)
      | (with_reducible exact LeO.none _)
      | (with_reducible refine LeO.ite ?_ ?_)
      | (with_reducible refine LeO.bind ?_ (fun _ => ?_))
      | exact ih0 _ _ _ _ _ _ _ _ _ _ _ _
      | exact ih1 _ _ _ _ _ _ _ _ _ _ _ _ _ _ _
      | exact lcd_Power.mono _ _ _ _ _ _ _ _ _
      | exact lcd_Step.mono _ _ _ _ _ _ _ _ _
      | exact whirligiglaw15_shown.mono _
      | exact LeO.none _
      | refine LeO.ite ?_ ?_
      | refine LeO.bind ?_ (fun _ => ?_)
theorem whirligiglaw15_LcdFrames.mono : ∀ a0 a1 a2 k, LeO (whirligiglaw15_LcdFrames.f k a0 a1 a2) (whirligiglaw15_LcdFrames.f (k + 1) a0 a1 a2) := by
  intro a0 a1 a2 k
  obtain ⟨ih0, ih1⟩ := whirligiglaw15_LcdFrames.mono_l k
  unfold whirligiglaw15_LcdFrames.f
  repeat' first
      | (with_reducible exact ih0 _ _ _ _ _ _ _ _ _ _ _ _)
      | (with_reducible exact ih1 _ _ _ _ _ _ _ _ _ _ _ _ _ _ _)
      | (with_reducible exact lcd_Power.mono _ _ _ _ _ _ _ _ _)
      | (with_reducible exact lcd_Step.mono _ _ _ _ _ _ _ _ _)
      | (with_reducible exact whirligiglaw15_shown.mono _)
      | (with_reducible exact LeO.refl _)
      | (with_reducible exact LeO.none _)
      | (with_reducible refine LeO.ite ?_ ?_)
      | (with_reducible refine LeO.bind ?_ (fun _ => ?_))
      | exact ih0 _ _ _ _ _ _ _ _ _ _ _ _
      | exact ih1 _ _ _ _ _ _ _ _ _ _ _ _ _ _ _
      | exact lcd_Power.mono _ _ _ _ _ _ _ _ _
      | exact lcd_Step.mono _ _ _ _ _ _ _ _ _
      | exact whirligiglaw15_shown.mono _
      | exact LeO.none _
      | refine LeO.ite ?_ ?_
      | refine LeO.bind ?_ (fun _ => ?_)
set_option maxHeartbeats 8000000 in
set_option maxRecDepth 100000 in
theorem whirligiglaw15_LcdFrames.calls (k : Nat) (a0 : Int) (a1 : Int) (a2 : Int) (r : Bool) (w : World) (h : whirligiglaw15_LcdFrames.f k a0 a1 a2 = some r) :
    Calls Try.prog 8 #[.int .u16 a0, .int .u8 a1, .int .u8 a2] w fun e w' => e = .returned (.bool r) ∧ Below w.heap.size w w' := by
  have hu24 := Try.underlying24
  have hu27 := Try.underlying27
  have HB := Aside0.mk (Below.refl w.heap.size w)
  have H : ((whirligiglaw15_shown.f k).bind fun t250 => ((lcd_Power.f k false 0 0 a2 a1 false 0 true).bind fun bt251 => (whirligiglaw15_LcdFrames.l0 k a0 t250 0 0 0 bt251.1 bt251.2.1 bt251.2.2.1 bt251.2.2.2.1 bt251.2.2.2.2.1 bt251.2.2.2.2.2.1 bt251.2.2.2.2.2.2.1))) = some r := h
  clear h
  replace H := Option.bind_eq_some_iff.mp H
  obtain ⟨t250, A40, H⟩ := H
  replace H : ((lcd_Power.f k false 0 0 a2 a1 false 0 true).bind fun bt251 => (whirligiglaw15_LcdFrames.l0 k a0 t250 0 0 0 bt251.1 bt251.2.1 bt251.2.2.1 bt251.2.2.2.1 bt251.2.2.2.2.1 bt251.2.2.2.2.2.1 bt251.2.2.2.2.2.2.1)) = some r := H
  have A4 := Aside0.mk A40
  clear A40
  replace H := Option.bind_eq_some_iff.mp H
  obtain ⟨⟨t251, t252, t253, t254, t255, t256, t257, t258⟩, A50, H⟩ := H
  replace H : (whirligiglaw15_LcdFrames.l0 k a0 t250 0 0 0 t251 t252 t253 t254 t255 t256 t257) = some r := H
  have A5 := Aside0.mk A50
  clear A50
  have H' := Aside0.mk H
  clear H
  go_enter Try.func8, Try.ntmps8
  go_wp2_with (first | ((with_reducible refine gate_callee (f := 11) rfl ?_); refine goesL_ (some 15) rfl rfl Try.func11 (by kernel_rfl) rfl #[] rfl (by (try simp only [List.map_toArray, List.map_cons, List.map_nil]); first | done | rfl | (simp only [List.length_drop, List.length_take]; rfl)) ?_; (with_reducible refine (whirligiglaw15_shown.calls k  t250 _ A4.out).mono ?_); rintro e w6 ⟨rfl, hb⟩; refine ⟨_, rfl, ?_⟩; have n0_ := Aside0.mk (below_step (by repeat (first | (with_reducible first | exact HB.out | apply below_alloc | apply pw_below_drewN | apply below_drew1) | exact HB.out)) hb); clear HB; have HB := n0_; clear n0_; (try clear hb); (try clear hb2); (try clear hk); (try clear hi)) | ((with_reducible refine gate_callee (f := 18) rfl ?_); refine goesL_ (some 20) rfl rfl Try.func18 (by kernel_rfl) rfl #[.agg #[.bool false, .int .u8 0, .int .u16 0, .int .u8 a2, .int .u8 a1, .bool false, .int .u16 0], .bool true] rfl (by (try simp only [List.map_toArray, List.map_cons, List.map_nil]); first | done | rfl | (simp only [List.length_drop, List.length_take]; rfl)) ?_; (with_reducible refine (lcd_Power.calls k false 0 0 a2 a1 false 0 true t251 t252 t253 t254 t255 t256 t257 t258 _ A5.out).mono ?_); rintro e w7 ⟨rfl, hb⟩; refine ⟨_, rfl, ?_⟩; have n0_ := Aside0.mk (below_step (by repeat (first | (with_reducible first | exact HB.out | apply below_alloc | apply pw_below_drewN | apply below_drew1) | exact HB.out)) hb); clear HB; have HB := n0_; clear n0_; (try clear hb); (try clear hb2); (try clear hk); (try clear hi)) | ((with_reducible refine gate_dst (N := 8) rfl ?_); refine box_event ?hg (N := 8) ?hd (cs := #[.bool false, .int .u8 0, .int .u16 0, .int .u8 0, .int .u8 0, .bool false, .int .u16 0]) (t := 24) ?hr ?_; (case hd => rfl); (case hg => rfl); (case hr => first | (go_simp; done) | (go_simp; rfl)); intro gb259 hg w8 hbox hb; have n0_ := Aside0.mk (below_step (by repeat (first | (with_reducible first | exact HB.out | apply below_alloc | apply pw_below_drewN | apply below_drew1) | exact HB.out)) hb); have n1_ := Aside0.mk (hbox); have n2_ := Aside0.mk ((by rw [hg]; exact (below_size (by repeat (first | (with_reducible first | exact HB.out | apply below_alloc | apply pw_below_drewN | apply below_drew1) | exact HB.out))) : w.heap.size ≤ gb259)); have n3_ := Aside0.mk ((by rw [hg]; exact (below_size (by repeat (first | (with_reducible first | exact HB.out | apply below_alloc | apply pw_below_drewN | apply below_drew1) | exact HB.out))) : w.heap.size ≤ gb259)); clear HB; have HB := n0_; have BK259 := n1_; have GW259 := n2_; have GE259 := n3_; clear n0_ n1_ n2_ n3_; clear hb hbox hg; have hcz9_0 : w8.cell? ⟨gb259, 0, none⟩ = some (.bool false) := (blk_cell BK259.out 0).trans rfl; have hcz9_1 : w8.cell? ⟨gb259, 1, none⟩ = some (.int .u8 0) := (blk_cell BK259.out 1).trans rfl; have hcz9_2 : w8.cell? ⟨gb259, 2, none⟩ = some (.int .u16 0) := (blk_cell BK259.out 2).trans rfl; have hcz9_3 : w8.cell? ⟨gb259, 3, none⟩ = some (.int .u8 0) := (blk_cell BK259.out 3).trans rfl; have hcz9_4 : w8.cell? ⟨gb259, 4, none⟩ = some (.int .u8 0) := (blk_cell BK259.out 4).trans rfl; have hcz9_5 : w8.cell? ⟨gb259, 5, none⟩ = some (.bool false) := (blk_cell BK259.out 5).trans rfl; have hcz9_6 : w8.cell? ⟨gb259, 6, none⟩ = some (.int .u16 0) := (blk_cell BK259.out 6).trans rfl; have hfz9_0 := blk_frozen BK259.out 0; have hfz9_1 := blk_frozen BK259.out 1; have hfz9_2 := blk_frozen BK259.out 2; have hfz9_3 := blk_frozen BK259.out 3; have hfz9_4 := blk_frozen BK259.out 4; have hfz9_5 := blk_frozen BK259.out 5; have hfz9_6 := blk_frozen BK259.out 6))
  go_loopg [10, 11, 12] k (fun kq v10 v11 v12 w' => ∃ (x10_1 : Int) (x11_1 : Int) (x12_1 : Int) (x260000_1 : Bool) (x260001_1 : Int) (x260002_1 : Int) (x260003_1 : Int) (x260004_1 : Int) (x260005_1 : Bool) (x260006_1 : Int), v10 = .int .i64 x10_1 ∧ v11 = .int .i64 x11_1 ∧ v12 = .int .i64 x12_1 ∧ Aside0 (whirligiglaw15_LcdFrames.l0 kq a0 t250 x10_1 x11_1 x12_1 x260000_1 x260001_1 x260002_1 x260003_1 x260004_1 x260005_1 x260006_1 = some r) ∧ Aside0 (kq ≤ k) ∧ Aside0 (w'.heap[gb259]? = some (.cells #[.bool x260000_1, .int .u8 x260001_1, .int .u16 x260002_1, .int .u8 x260003_1, .int .u8 x260004_1, .bool x260005_1, .int .u16 x260006_1] 24 (0, 0))) ∧ Aside0 (Below w.heap.size w w'))
  case atStart => exact ⟨(0), (0), (0), (t251), (t252), (t253), (t254), (t255), (t256), (t257), (by first | rfl | (simp; done) | (simp [*]; done)), (by first | rfl | (simp; done) | (simp [*]; done)), (by first | rfl | (simp; done) | (simp [*]; done)), H', ⟨Nat.le_refl _⟩, ⟨by (with_reducible repeat (first | refine blk_drewN ?_ _ | refine blk_drew ?_ | refine blk_alloc ?_ _)); refine blk_put (cs := #[.bool t251, .int .u8 t252, .int .u16 t253, .int .u8 t254, .int .u8 t255, .bool t256, .int .u16 0]) ?_ 6 _ rfl; (with_reducible repeat (first | refine blk_drewN ?_ _ | refine blk_drew ?_ | refine blk_alloc ?_ _)); refine blk_put (cs := #[.bool t251, .int .u8 t252, .int .u16 t253, .int .u8 t254, .int .u8 t255, .bool false, .int .u16 0]) ?_ 5 _ rfl; (with_reducible repeat (first | refine blk_drewN ?_ _ | refine blk_drew ?_ | refine blk_alloc ?_ _)); refine blk_put (cs := #[.bool t251, .int .u8 t252, .int .u16 t253, .int .u8 t254, .int .u8 0, .bool false, .int .u16 0]) ?_ 4 _ rfl; (with_reducible repeat (first | refine blk_drewN ?_ _ | refine blk_drew ?_ | refine blk_alloc ?_ _)); refine blk_put (cs := #[.bool t251, .int .u8 t252, .int .u16 t253, .int .u8 0, .int .u8 0, .bool false, .int .u16 0]) ?_ 3 _ rfl; (with_reducible repeat (first | refine blk_drewN ?_ _ | refine blk_drew ?_ | refine blk_alloc ?_ _)); refine blk_put (cs := #[.bool t251, .int .u8 t252, .int .u16 0, .int .u8 0, .int .u8 0, .bool false, .int .u16 0]) ?_ 2 _ rfl; (with_reducible repeat (first | refine blk_drewN ?_ _ | refine blk_drew ?_ | refine blk_alloc ?_ _)); refine blk_put (cs := #[.bool t251, .int .u8 0, .int .u16 0, .int .u8 0, .int .u8 0, .bool false, .int .u16 0]) ?_ 1 _ rfl; (with_reducible repeat (first | refine blk_drewN ?_ _ | refine blk_drew ?_ | refine blk_alloc ?_ _)); refine blk_put (cs := #[.bool false, .int .u8 0, .int .u16 0, .int .u8 0, .int .u8 0, .bool false, .int .u16 0]) ?_ 0 _ rfl; (with_reducible repeat (first | refine blk_drewN ?_ _ | refine blk_drew ?_ | refine blk_alloc ?_ _)); exact BK259.out⟩, ⟨by repeat (first | (with_reducible first | exact HB.out | apply below_alloc | apply pw_below_drewN | apply below_drew1 | refine below_set ?_ GE259.out) | exact HB.out)⟩⟩
  case round =>
    clear H'
    try clear c1
    try clear p2
    try clear c8
    try clear hcz9_0
    try clear hcz9_1
    try clear hcz9_2
    try clear hcz9_3
    try clear hcz9_4
    try clear hcz9_5
    try clear hcz9_6
    try clear hfz9_0
    try clear hfz9_1
    try clear hfz9_2
    try clear hfz9_3
    try clear hfz9_4
    try clear hfz9_5
    try clear hfz9_6
    obtain ⟨x10_1, x11_1, x12_1, x260000_1, x260001_1, x260002_1, x260003_1, x260004_1, x260005_1, x260006_1, rfl, rfl, rfl, HA, HK1, BK259, HB⟩ := hrel
    cases gk with
    | zero => exact absurd HA.out (by simp [whirligiglaw15_LcdFrames.l0])
    | succ k1 =>
      have H := HA.out
      clear HA
      simp only [whirligiglaw15_LcdFrames.l0] at H
      by_cases c10 : x12_1 < 70224
      · rw [if_pos c10] at H
        have c10b0 : decide (x12_1 < 70224) = true := decide_eq_true c10
        clear c10
        replace H := Option.bind_eq_some_iff.mp H
        obtain ⟨⟨t261, t262, t263, t264, t265, t266, t267, t268, t269, t270⟩, A110, H⟩ := H
        replace H : (if t268 = true then (whirligiglaw15_LcdFrames.j1 k1 a0 t250 (wrap64 (x10_1 + 1)) x11_1 x12_1 t261 t262 t263 t264 t265 t266 t267 t268 t269 t270) else (whirligiglaw15_LcdFrames.j1 k1 a0 t250 x10_1 x11_1 x12_1 t261 t262 t263 t264 t265 t266 t267 t268 t269 t270)) = some r := H
        have A11 := Aside0.mk A110
        clear A110
        have HC12 := Aside0.mk H
        clear H
        have hcz13_0 : wr.cell? ⟨gb259, 0, none⟩ = some (.bool x260000_1) := (blk_cell BK259.out 0).trans rfl
        have hcz13_1 : wr.cell? ⟨gb259, 1, none⟩ = some (.int .u8 x260001_1) := (blk_cell BK259.out 1).trans rfl
        have hcz13_2 : wr.cell? ⟨gb259, 2, none⟩ = some (.int .u16 x260002_1) := (blk_cell BK259.out 2).trans rfl
        have hcz13_3 : wr.cell? ⟨gb259, 3, none⟩ = some (.int .u8 x260003_1) := (blk_cell BK259.out 3).trans rfl
        have hcz13_4 : wr.cell? ⟨gb259, 4, none⟩ = some (.int .u8 x260004_1) := (blk_cell BK259.out 4).trans rfl
        have hcz13_5 : wr.cell? ⟨gb259, 5, none⟩ = some (.bool x260005_1) := (blk_cell BK259.out 5).trans rfl
        have hcz13_6 : wr.cell? ⟨gb259, 6, none⟩ = some (.int .u16 x260006_1) := (blk_cell BK259.out 6).trans rfl
        have hfz13_0 := blk_frozen BK259.out 0
        have hfz13_1 := blk_frozen BK259.out 1
        have hfz13_2 := blk_frozen BK259.out 2
        have hfz13_3 := blk_frozen BK259.out 3
        have hfz13_4 := blk_frozen BK259.out 4
        have hfz13_5 := blk_frozen BK259.out 5
        have hfz13_6 := blk_frozen BK259.out 6
        go_upto_if 38 with (first | ((with_reducible refine gate_callee (f := 12) rfl ?_); refine goesL_ (some 33) rfl rfl Try.func12 (by kernel_rfl) rfl #[.agg #[.bool x260000_1, .int .u8 x260001_1, .int .u16 x260002_1, .int .u8 x260003_1, .int .u8 x260004_1, .bool x260005_1, .int .u16 x260006_1], .int .u16 (IntKind.u16.wrap (a0 + (IntKind.u16.wrap (x12_1))))] rfl (by (try simp only [List.map_toArray, List.map_cons, List.map_nil]); first | done | rfl | (simp only [List.length_drop, List.length_take]; rfl)) ?_; (with_reducible refine (lcd_Step.calls k1 x260000_1 x260001_1 x260002_1 x260003_1 x260004_1 x260005_1 x260006_1 (IntKind.u16.wrap (a0 + (IntKind.u16.wrap (x12_1)))) t261 t262 t263 t264 t265 t266 t267 t268 t269 t270 _ A11.out).mono ?_); rintro e w14 ⟨rfl, hb⟩; refine ⟨_, rfl, ?_⟩; have n0_ := Aside0.mk (blk_below (g := gb259) (o := .cells #[.bool x260000_1, .int .u8 x260001_1, .int .u16 x260002_1, .int .u8 x260003_1, .int .u8 x260004_1, .bool x260005_1, .int .u16 x260006_1] 24 (0, 0)) (by (with_reducible repeat (first | refine blk_drewN ?_ _ | refine blk_drew ?_ | refine blk_alloc ?_ _)); exact BK259.out) hb); have n1_ := Aside0.mk (below_step (by repeat (first | (with_reducible first | exact HB.out | apply below_alloc | apply pw_below_drewN | apply below_drew1 | refine below_set ?_ GE259.out) | exact HB.out)) hb); clear BK259; clear HB; have BK259 := n0_; have HB := n1_; clear n0_ n1_; (try clear hb); (try clear hb2); (try clear hk); (try clear hi)) | ((with_reducible refine gate_dst (N := 13) rfl ?_); refine box_event ?hg (N := 13) ?hd (cs := #[.bool false, .int .u8 0, .int .u16 0, .int .u8 0, .int .u8 0, .bool false, .int .u16 0]) (t := 24) ?hr ?_; (case hd => rfl); (case hg => rfl); (case hr => first | (go_simp; done) | (go_simp; rfl)); intro gb271 hg w15 hbox hb; have n0_ := Aside0.mk (blk_below (g := gb259) (o := .cells #[.bool x260000_1, .int .u8 x260001_1, .int .u16 x260002_1, .int .u8 x260003_1, .int .u8 x260004_1, .bool x260005_1, .int .u16 x260006_1] 24 (0, 0)) (by (with_reducible repeat (first | refine blk_drewN ?_ _ | refine blk_drew ?_ | refine blk_alloc ?_ _)); exact BK259.out) hb); have n1_ := Aside0.mk (below_step (by repeat (first | (with_reducible first | exact HB.out | apply below_alloc | apply pw_below_drewN | apply below_drew1 | refine below_set ?_ GE259.out) | exact HB.out)) hb); have n2_ := Aside0.mk (hbox); have n3_ := Aside0.mk ((by rw [hg]; exact (below_size (by repeat (first | (with_reducible first | exact HB.out | apply below_alloc | apply pw_below_drewN | apply below_drew1 | refine below_set ?_ GE259.out) | exact HB.out))) : w.heap.size ≤ gb271)); have n4_ := Aside0.mk ((by rw [hg]; exact (below_size (by repeat (first | (with_reducible first | exact HB.out | apply below_alloc | apply pw_below_drewN | apply below_drew1 | refine below_set ?_ GE259.out) | exact HB.out))) : w.heap.size ≤ gb271)); have n5_ := Aside0.mk ((by rw [hg]; exact Nat.ne_of_lt (blk_lt (g := gb259) (o := .cells #[.bool x260000_1, .int .u8 x260001_1, .int .u16 x260002_1, .int .u8 x260003_1, .int .u8 x260004_1, .bool x260005_1, .int .u16 x260006_1] 24 (0, 0)) (by (with_reducible repeat (first | refine blk_drewN ?_ _ | refine blk_drew ?_ | refine blk_alloc ?_ _)); exact BK259.out)) : gb259 ≠ gb271)); have n6_ := Aside0.mk ((by rw [hg]; exact Nat.ne_of_gt (blk_lt (g := gb259) (o := .cells #[.bool x260000_1, .int .u8 x260001_1, .int .u16 x260002_1, .int .u8 x260003_1, .int .u8 x260004_1, .bool x260005_1, .int .u16 x260006_1] 24 (0, 0)) (by (with_reducible repeat (first | refine blk_drewN ?_ _ | refine blk_drew ?_ | refine blk_alloc ?_ _)); exact BK259.out)) : gb271 ≠ gb259)); clear BK259; clear HB; have BK259 := n0_; have HB := n1_; have BK271 := n2_; have GW271 := n3_; have GE271 := n4_; have NB259_271 := n5_; have NB271_259 := n6_; clear n0_ n1_ n2_ n3_ n4_ n5_ n6_; clear hb hbox hg) | ((with_reducible refine gate_dst (N := 14) rfl ?_); refine box_event ?hg (N := 14) ?hd (cs := #[.bool false, .bool false, .bool false]) (t := 27) ?hr ?_; (case hd => rfl); (case hg => rfl); (case hr => first | (go_simp; done) | (go_simp; rfl)); intro gb272 hg w16 hbox hb; have n0_ := Aside0.mk (blk_below (g := gb259) (o := .cells #[.bool x260000_1, .int .u8 x260001_1, .int .u16 x260002_1, .int .u8 x260003_1, .int .u8 x260004_1, .bool x260005_1, .int .u16 x260006_1] 24 (0, 0)) (by (with_reducible repeat (first | refine blk_drewN ?_ _ | refine blk_drew ?_ | refine blk_alloc ?_ _)); exact BK259.out) hb); have n1_ := Aside0.mk (blk_below (g := gb271) (o := .cells #[.bool false, .int .u8 0, .int .u16 0, .int .u8 0, .int .u8 0, .bool false, .int .u16 0] 24 (0, 0)) (by (with_reducible repeat (first | refine blk_drewN ?_ _ | refine blk_drew ?_ | refine blk_alloc ?_ _)); exact BK271.out) hb); have n2_ := Aside0.mk (below_step (by repeat (first | (with_reducible first | exact HB.out | apply below_alloc | apply pw_below_drewN | apply below_drew1 | refine below_set ?_ GE259.out | refine below_set ?_ GE271.out) | exact HB.out)) hb); have n3_ := Aside0.mk (hbox); have n4_ := Aside0.mk ((by rw [hg]; exact (below_size (by repeat (first | (with_reducible first | exact HB.out | apply below_alloc | apply pw_below_drewN | apply below_drew1 | refine below_set ?_ GE259.out | refine below_set ?_ GE271.out) | exact HB.out))) : w.heap.size ≤ gb272)); have n5_ := Aside0.mk ((by rw [hg]; exact (below_size (by repeat (first | (with_reducible first | exact HB.out | apply below_alloc | apply pw_below_drewN | apply below_drew1 | refine below_set ?_ GE259.out | refine below_set ?_ GE271.out) | exact HB.out))) : w.heap.size ≤ gb272)); have n6_ := Aside0.mk ((by rw [hg]; exact Nat.ne_of_lt (blk_lt (g := gb259) (o := .cells #[.bool x260000_1, .int .u8 x260001_1, .int .u16 x260002_1, .int .u8 x260003_1, .int .u8 x260004_1, .bool x260005_1, .int .u16 x260006_1] 24 (0, 0)) (by (with_reducible repeat (first | refine blk_drewN ?_ _ | refine blk_drew ?_ | refine blk_alloc ?_ _)); exact BK259.out)) : gb259 ≠ gb272)); have n7_ := Aside0.mk ((by rw [hg]; exact Nat.ne_of_gt (blk_lt (g := gb259) (o := .cells #[.bool x260000_1, .int .u8 x260001_1, .int .u16 x260002_1, .int .u8 x260003_1, .int .u8 x260004_1, .bool x260005_1, .int .u16 x260006_1] 24 (0, 0)) (by (with_reducible repeat (first | refine blk_drewN ?_ _ | refine blk_drew ?_ | refine blk_alloc ?_ _)); exact BK259.out)) : gb272 ≠ gb259)); have n8_ := Aside0.mk ((by rw [hg]; exact Nat.ne_of_lt (blk_lt (g := gb271) (o := .cells #[.bool false, .int .u8 0, .int .u16 0, .int .u8 0, .int .u8 0, .bool false, .int .u16 0] 24 (0, 0)) (by (with_reducible repeat (first | refine blk_drewN ?_ _ | refine blk_drew ?_ | refine blk_alloc ?_ _)); exact BK271.out)) : gb271 ≠ gb272)); have n9_ := Aside0.mk ((by rw [hg]; exact Nat.ne_of_gt (blk_lt (g := gb271) (o := .cells #[.bool false, .int .u8 0, .int .u16 0, .int .u8 0, .int .u8 0, .bool false, .int .u16 0] 24 (0, 0)) (by (with_reducible repeat (first | refine blk_drewN ?_ _ | refine blk_drew ?_ | refine blk_alloc ?_ _)); exact BK271.out)) : gb272 ≠ gb271)); clear BK259; clear BK271; clear HB; have BK259 := n0_; have BK271 := n1_; have HB := n2_; have BK272 := n3_; have GW272 := n4_; have GE272 := n5_; have NB259_272 := n6_; have NB272_259 := n7_; have NB271_272 := n8_; have NB272_271 := n9_; clear n0_ n1_ n2_ n3_ n4_ n5_ n6_ n7_ n8_ n9_; clear hb hbox hg; have hnb17 := NB271_259.out; have hnc17 := NB259_271.out; have hnb18 := NB271_272.out; have hnc18 := NB272_271.out; have hcz19_0 : w16.cell? ⟨gb271, 0, none⟩ = some (.bool false) := (blk_cell BK271.out 0).trans rfl; have hcz19_1 : w16.cell? ⟨gb271, 1, none⟩ = some (.int .u8 0) := (blk_cell BK271.out 1).trans rfl; have hcz19_2 : w16.cell? ⟨gb271, 2, none⟩ = some (.int .u16 0) := (blk_cell BK271.out 2).trans rfl; have hcz19_3 : w16.cell? ⟨gb271, 3, none⟩ = some (.int .u8 0) := (blk_cell BK271.out 3).trans rfl; have hcz19_4 : w16.cell? ⟨gb271, 4, none⟩ = some (.int .u8 0) := (blk_cell BK271.out 4).trans rfl; have hcz19_5 : w16.cell? ⟨gb271, 5, none⟩ = some (.bool false) := (blk_cell BK271.out 5).trans rfl; have hcz19_6 : w16.cell? ⟨gb271, 6, none⟩ = some (.int .u16 0) := (blk_cell BK271.out 6).trans rfl; have hfz19_0 := blk_frozen BK271.out 0; have hfz19_1 := blk_frozen BK271.out 1; have hfz19_2 := blk_frozen BK271.out 2; have hfz19_3 := blk_frozen BK271.out 3; have hfz19_4 := blk_frozen BK271.out 4; have hfz19_5 := blk_frozen BK271.out 5; have hfz19_6 := blk_frozen BK271.out 6; have hnb20 := NB272_259.out; have hnc20 := NB259_272.out; have hcz21_0 : w16.cell? ⟨gb272, 0, none⟩ = some (.bool false) := (blk_cell BK272.out 0).trans rfl; have hcz21_1 : w16.cell? ⟨gb272, 1, none⟩ = some (.bool false) := (blk_cell BK272.out 1).trans rfl; have hcz21_2 : w16.cell? ⟨gb272, 2, none⟩ = some (.bool false) := (blk_cell BK272.out 2).trans rfl; have hfz21_0 := blk_frozen BK272.out 0; have hfz21_1 := blk_frozen BK272.out 1; have hfz21_2 := blk_frozen BK272.out 2; have hcz22_0 : w16.cell? ⟨gb259, 0, none⟩ = some (.bool x260000_1) := (blk_cell BK259.out 0).trans rfl; have hcz22_1 : w16.cell? ⟨gb259, 1, none⟩ = some (.int .u8 x260001_1) := (blk_cell BK259.out 1).trans rfl; have hcz22_2 : w16.cell? ⟨gb259, 2, none⟩ = some (.int .u16 x260002_1) := (blk_cell BK259.out 2).trans rfl; have hcz22_3 : w16.cell? ⟨gb259, 3, none⟩ = some (.int .u8 x260003_1) := (blk_cell BK259.out 3).trans rfl; have hcz22_4 : w16.cell? ⟨gb259, 4, none⟩ = some (.int .u8 x260004_1) := (blk_cell BK259.out 4).trans rfl; have hcz22_5 : w16.cell? ⟨gb259, 5, none⟩ = some (.bool x260005_1) := (blk_cell BK259.out 5).trans rfl; have hcz22_6 : w16.cell? ⟨gb259, 6, none⟩ = some (.int .u16 x260006_1) := (blk_cell BK259.out 6).trans rfl; have hfz22_0 := blk_frozen BK259.out 0; have hfz22_1 := blk_frozen BK259.out 1; have hfz22_2 := blk_frozen BK259.out 2; have hfz22_3 := blk_frozen BK259.out 3; have hfz22_4 := blk_frozen BK259.out 4; have hfz22_5 := blk_frozen BK259.out 5; have hfz22_6 := blk_frozen BK259.out 6))
        (try simp only [Act.put, List.setIfInBounds_toArray, List.set_cons_zero, List.set_cons_succ])
        go_cut [10] (fun v10 wc => ∃ (kq : Nat) (x10_11 : Int), v10 = .int .i64 x10_11 ∧ Aside0 (whirligiglaw15_LcdFrames.j1 kq a0 t250 x10_11 x11_1 x12_1 t261 t262 t263 t264 t265 t266 t267 t268 t269 t270 = some r) ∧ Aside0 (kq ≤ k1) ∧ Aside0 (wc.heap[gb259]? = some (.cells #[.bool t261, .int .u8 t262, .int .u16 t263, .int .u8 t264, .int .u8 t265, .bool t266, .int .u16 t267] 24 (0, 0))) ∧ Aside0 (wc.heap[gb271]? = some (.cells #[.bool t261, .int .u8 t262, .int .u16 t263, .int .u8 t264, .int .u8 t265, .bool t266, .int .u16 t267] 24 (0, 0))) ∧ Aside0 (wc.heap[gb272]? = some (.cells #[.bool t268, .bool t269, .bool t270] 27 (0, 0))) ∧ Aside0 (Below w.heap.size w wc))
        case first =>
          have H := HC12.out
          clear HC12
          by_cases c23 : t268 = true
          · subst c23
            have H1 : (whirligiglaw15_LcdFrames.j1 k1 a0 t250 (wrap64 (x10_1 + 1)) x11_1 x12_1 t261 t262 t263 t264 t265 t266 t267 true t269 t270) = some r := by rw [if_pos rfl] at H; exact H
            clear H
            have H := H1
            clear H1
            have H' := Aside0.mk H
            clear H
            go_wp2
            go_meet
            case rel => exact ⟨_, (wrap64 (x10_1 + 1)), (by first | rfl | (simp; done) | (simp [*]; done)), H', ⟨by have := HK1.out; first | omega | exact Nat.le_refl _⟩, ⟨by (with_reducible repeat (first | refine blk_drewN ?_ _ | refine blk_drew ?_ | refine blk_alloc ?_ _)); refine blk_put (cs := #[.bool t261, .int .u8 t262, .int .u16 t263, .int .u8 t264, .int .u8 t265, .bool t266, .int .u16 x260006_1]) ?_ 6 _ rfl; (with_reducible repeat (first | refine blk_drewN ?_ _ | refine blk_drew ?_ | refine blk_alloc ?_ _)); refine blk_put (cs := #[.bool t261, .int .u8 t262, .int .u16 t263, .int .u8 t264, .int .u8 t265, .bool x260005_1, .int .u16 x260006_1]) ?_ 5 _ rfl; (with_reducible repeat (first | refine blk_drewN ?_ _ | refine blk_drew ?_ | refine blk_alloc ?_ _)); refine blk_put (cs := #[.bool t261, .int .u8 t262, .int .u16 t263, .int .u8 t264, .int .u8 x260004_1, .bool x260005_1, .int .u16 x260006_1]) ?_ 4 _ rfl; (with_reducible repeat (first | refine blk_drewN ?_ _ | refine blk_drew ?_ | refine blk_alloc ?_ _)); refine blk_put (cs := #[.bool t261, .int .u8 t262, .int .u16 t263, .int .u8 x260003_1, .int .u8 x260004_1, .bool x260005_1, .int .u16 x260006_1]) ?_ 3 _ rfl; (with_reducible repeat (first | refine blk_drewN ?_ _ | refine blk_drew ?_ | refine blk_alloc ?_ _)); refine blk_put (cs := #[.bool t261, .int .u8 t262, .int .u16 x260002_1, .int .u8 x260003_1, .int .u8 x260004_1, .bool x260005_1, .int .u16 x260006_1]) ?_ 2 _ rfl; (with_reducible repeat (first | refine blk_drewN ?_ _ | refine blk_drew ?_ | refine blk_alloc ?_ _)); refine blk_put (cs := #[.bool t261, .int .u8 x260001_1, .int .u16 x260002_1, .int .u8 x260003_1, .int .u8 x260004_1, .bool x260005_1, .int .u16 x260006_1]) ?_ 1 _ rfl; (with_reducible repeat (first | refine blk_drewN ?_ _ | refine blk_drew ?_ | refine blk_alloc ?_ _)); refine blk_put (cs := #[.bool x260000_1, .int .u8 x260001_1, .int .u16 x260002_1, .int .u8 x260003_1, .int .u8 x260004_1, .bool x260005_1, .int .u16 x260006_1]) ?_ 0 _ rfl; (with_reducible repeat (first | refine blk_drewN ?_ _ | refine blk_drew ?_ | refine blk_alloc ?_ _)); refine blk_far ?_ NB259_272.out _; (with_reducible repeat (first | refine blk_drewN ?_ _ | refine blk_drew ?_ | refine blk_alloc ?_ _)); refine blk_far ?_ NB259_272.out _; (with_reducible repeat (first | refine blk_drewN ?_ _ | refine blk_drew ?_ | refine blk_alloc ?_ _)); refine blk_far ?_ NB259_272.out _; (with_reducible repeat (first | refine blk_drewN ?_ _ | refine blk_drew ?_ | refine blk_alloc ?_ _)); refine blk_far ?_ NB259_271.out _; (with_reducible repeat (first | refine blk_drewN ?_ _ | refine blk_drew ?_ | refine blk_alloc ?_ _)); refine blk_far ?_ NB259_271.out _; (with_reducible repeat (first | refine blk_drewN ?_ _ | refine blk_drew ?_ | refine blk_alloc ?_ _)); refine blk_far ?_ NB259_271.out _; (with_reducible repeat (first | refine blk_drewN ?_ _ | refine blk_drew ?_ | refine blk_alloc ?_ _)); refine blk_far ?_ NB259_271.out _; (with_reducible repeat (first | refine blk_drewN ?_ _ | refine blk_drew ?_ | refine blk_alloc ?_ _)); refine blk_far ?_ NB259_271.out _; (with_reducible repeat (first | refine blk_drewN ?_ _ | refine blk_drew ?_ | refine blk_alloc ?_ _)); refine blk_far ?_ NB259_271.out _; (with_reducible repeat (first | refine blk_drewN ?_ _ | refine blk_drew ?_ | refine blk_alloc ?_ _)); refine blk_far ?_ NB259_271.out _; (with_reducible repeat (first | refine blk_drewN ?_ _ | refine blk_drew ?_ | refine blk_alloc ?_ _)); exact BK259.out⟩, ⟨by (with_reducible repeat (first | refine blk_drewN ?_ _ | refine blk_drew ?_ | refine blk_alloc ?_ _)); refine blk_far ?_ NB271_259.out _; (with_reducible repeat (first | refine blk_drewN ?_ _ | refine blk_drew ?_ | refine blk_alloc ?_ _)); refine blk_far ?_ NB271_259.out _; (with_reducible repeat (first | refine blk_drewN ?_ _ | refine blk_drew ?_ | refine blk_alloc ?_ _)); refine blk_far ?_ NB271_259.out _; (with_reducible repeat (first | refine blk_drewN ?_ _ | refine blk_drew ?_ | refine blk_alloc ?_ _)); refine blk_far ?_ NB271_259.out _; (with_reducible repeat (first | refine blk_drewN ?_ _ | refine blk_drew ?_ | refine blk_alloc ?_ _)); refine blk_far ?_ NB271_259.out _; (with_reducible repeat (first | refine blk_drewN ?_ _ | refine blk_drew ?_ | refine blk_alloc ?_ _)); refine blk_far ?_ NB271_259.out _; (with_reducible repeat (first | refine blk_drewN ?_ _ | refine blk_drew ?_ | refine blk_alloc ?_ _)); refine blk_far ?_ NB271_259.out _; (with_reducible repeat (first | refine blk_drewN ?_ _ | refine blk_drew ?_ | refine blk_alloc ?_ _)); refine blk_far ?_ NB271_272.out _; (with_reducible repeat (first | refine blk_drewN ?_ _ | refine blk_drew ?_ | refine blk_alloc ?_ _)); refine blk_far ?_ NB271_272.out _; (with_reducible repeat (first | refine blk_drewN ?_ _ | refine blk_drew ?_ | refine blk_alloc ?_ _)); refine blk_far ?_ NB271_272.out _; (with_reducible repeat (first | refine blk_drewN ?_ _ | refine blk_drew ?_ | refine blk_alloc ?_ _)); refine blk_put (cs := #[.bool t261, .int .u8 t262, .int .u16 t263, .int .u8 t264, .int .u8 t265, .bool t266, .int .u16 0]) ?_ 6 _ rfl; (with_reducible repeat (first | refine blk_drewN ?_ _ | refine blk_drew ?_ | refine blk_alloc ?_ _)); refine blk_put (cs := #[.bool t261, .int .u8 t262, .int .u16 t263, .int .u8 t264, .int .u8 t265, .bool false, .int .u16 0]) ?_ 5 _ rfl; (with_reducible repeat (first | refine blk_drewN ?_ _ | refine blk_drew ?_ | refine blk_alloc ?_ _)); refine blk_put (cs := #[.bool t261, .int .u8 t262, .int .u16 t263, .int .u8 t264, .int .u8 0, .bool false, .int .u16 0]) ?_ 4 _ rfl; (with_reducible repeat (first | refine blk_drewN ?_ _ | refine blk_drew ?_ | refine blk_alloc ?_ _)); refine blk_put (cs := #[.bool t261, .int .u8 t262, .int .u16 t263, .int .u8 0, .int .u8 0, .bool false, .int .u16 0]) ?_ 3 _ rfl; (with_reducible repeat (first | refine blk_drewN ?_ _ | refine blk_drew ?_ | refine blk_alloc ?_ _)); refine blk_put (cs := #[.bool t261, .int .u8 t262, .int .u16 0, .int .u8 0, .int .u8 0, .bool false, .int .u16 0]) ?_ 2 _ rfl; (with_reducible repeat (first | refine blk_drewN ?_ _ | refine blk_drew ?_ | refine blk_alloc ?_ _)); refine blk_put (cs := #[.bool t261, .int .u8 0, .int .u16 0, .int .u8 0, .int .u8 0, .bool false, .int .u16 0]) ?_ 1 _ rfl; (with_reducible repeat (first | refine blk_drewN ?_ _ | refine blk_drew ?_ | refine blk_alloc ?_ _)); refine blk_put (cs := #[.bool false, .int .u8 0, .int .u16 0, .int .u8 0, .int .u8 0, .bool false, .int .u16 0]) ?_ 0 _ rfl; (with_reducible repeat (first | refine blk_drewN ?_ _ | refine blk_drew ?_ | refine blk_alloc ?_ _)); exact BK271.out⟩, ⟨by (with_reducible repeat (first | refine blk_drewN ?_ _ | refine blk_drew ?_ | refine blk_alloc ?_ _)); refine blk_far ?_ NB272_259.out _; (with_reducible repeat (first | refine blk_drewN ?_ _ | refine blk_drew ?_ | refine blk_alloc ?_ _)); refine blk_far ?_ NB272_259.out _; (with_reducible repeat (first | refine blk_drewN ?_ _ | refine blk_drew ?_ | refine blk_alloc ?_ _)); refine blk_far ?_ NB272_259.out _; (with_reducible repeat (first | refine blk_drewN ?_ _ | refine blk_drew ?_ | refine blk_alloc ?_ _)); refine blk_far ?_ NB272_259.out _; (with_reducible repeat (first | refine blk_drewN ?_ _ | refine blk_drew ?_ | refine blk_alloc ?_ _)); refine blk_far ?_ NB272_259.out _; (with_reducible repeat (first | refine blk_drewN ?_ _ | refine blk_drew ?_ | refine blk_alloc ?_ _)); refine blk_far ?_ NB272_259.out _; (with_reducible repeat (first | refine blk_drewN ?_ _ | refine blk_drew ?_ | refine blk_alloc ?_ _)); refine blk_far ?_ NB272_259.out _; (with_reducible repeat (first | refine blk_drewN ?_ _ | refine blk_drew ?_ | refine blk_alloc ?_ _)); refine blk_put (cs := #[.bool true, .bool t269, .bool false]) ?_ 2 _ rfl; (with_reducible repeat (first | refine blk_drewN ?_ _ | refine blk_drew ?_ | refine blk_alloc ?_ _)); refine blk_put (cs := #[.bool true, .bool false, .bool false]) ?_ 1 _ rfl; (with_reducible repeat (first | refine blk_drewN ?_ _ | refine blk_drew ?_ | refine blk_alloc ?_ _)); refine blk_put (cs := #[.bool false, .bool false, .bool false]) ?_ 0 _ rfl; (with_reducible repeat (first | refine blk_drewN ?_ _ | refine blk_drew ?_ | refine blk_alloc ?_ _)); refine blk_far ?_ NB272_271.out _; (with_reducible repeat (first | refine blk_drewN ?_ _ | refine blk_drew ?_ | refine blk_alloc ?_ _)); refine blk_far ?_ NB272_271.out _; (with_reducible repeat (first | refine blk_drewN ?_ _ | refine blk_drew ?_ | refine blk_alloc ?_ _)); refine blk_far ?_ NB272_271.out _; (with_reducible repeat (first | refine blk_drewN ?_ _ | refine blk_drew ?_ | refine blk_alloc ?_ _)); refine blk_far ?_ NB272_271.out _; (with_reducible repeat (first | refine blk_drewN ?_ _ | refine blk_drew ?_ | refine blk_alloc ?_ _)); refine blk_far ?_ NB272_271.out _; (with_reducible repeat (first | refine blk_drewN ?_ _ | refine blk_drew ?_ | refine blk_alloc ?_ _)); refine blk_far ?_ NB272_271.out _; (with_reducible repeat (first | refine blk_drewN ?_ _ | refine blk_drew ?_ | refine blk_alloc ?_ _)); refine blk_far ?_ NB272_271.out _; (with_reducible repeat (first | refine blk_drewN ?_ _ | refine blk_drew ?_ | refine blk_alloc ?_ _)); exact BK272.out⟩, ⟨by repeat (first | (with_reducible first | exact HB.out | apply below_alloc | apply pw_below_drewN | apply below_drew1 | refine below_set ?_ GE259.out | refine below_set ?_ GE271.out | refine below_set ?_ GE272.out) | exact HB.out)⟩⟩
          · replace c23 := Bool.eq_false_iff.mpr c23
            subst c23
            have H1 : (whirligiglaw15_LcdFrames.j1 k1 a0 t250 x10_1 x11_1 x12_1 t261 t262 t263 t264 t265 t266 t267 false t269 t270) = some r := by rw [if_neg (show ¬ (false = true) by decide)] at H; exact H
            clear H
            have H := H1
            clear H1
            have H' := Aside0.mk H
            clear H
            go_wp2
            go_meet
            case rel => exact ⟨_, (x10_1), (by first | rfl | (simp; done) | (simp [*]; done)), H', ⟨by have := HK1.out; first | omega | exact Nat.le_refl _⟩, ⟨by (with_reducible repeat (first | refine blk_drewN ?_ _ | refine blk_drew ?_ | refine blk_alloc ?_ _)); refine blk_put (cs := #[.bool t261, .int .u8 t262, .int .u16 t263, .int .u8 t264, .int .u8 t265, .bool t266, .int .u16 x260006_1]) ?_ 6 _ rfl; (with_reducible repeat (first | refine blk_drewN ?_ _ | refine blk_drew ?_ | refine blk_alloc ?_ _)); refine blk_put (cs := #[.bool t261, .int .u8 t262, .int .u16 t263, .int .u8 t264, .int .u8 t265, .bool x260005_1, .int .u16 x260006_1]) ?_ 5 _ rfl; (with_reducible repeat (first | refine blk_drewN ?_ _ | refine blk_drew ?_ | refine blk_alloc ?_ _)); refine blk_put (cs := #[.bool t261, .int .u8 t262, .int .u16 t263, .int .u8 t264, .int .u8 x260004_1, .bool x260005_1, .int .u16 x260006_1]) ?_ 4 _ rfl; (with_reducible repeat (first | refine blk_drewN ?_ _ | refine blk_drew ?_ | refine blk_alloc ?_ _)); refine blk_put (cs := #[.bool t261, .int .u8 t262, .int .u16 t263, .int .u8 x260003_1, .int .u8 x260004_1, .bool x260005_1, .int .u16 x260006_1]) ?_ 3 _ rfl; (with_reducible repeat (first | refine blk_drewN ?_ _ | refine blk_drew ?_ | refine blk_alloc ?_ _)); refine blk_put (cs := #[.bool t261, .int .u8 t262, .int .u16 x260002_1, .int .u8 x260003_1, .int .u8 x260004_1, .bool x260005_1, .int .u16 x260006_1]) ?_ 2 _ rfl; (with_reducible repeat (first | refine blk_drewN ?_ _ | refine blk_drew ?_ | refine blk_alloc ?_ _)); refine blk_put (cs := #[.bool t261, .int .u8 x260001_1, .int .u16 x260002_1, .int .u8 x260003_1, .int .u8 x260004_1, .bool x260005_1, .int .u16 x260006_1]) ?_ 1 _ rfl; (with_reducible repeat (first | refine blk_drewN ?_ _ | refine blk_drew ?_ | refine blk_alloc ?_ _)); refine blk_put (cs := #[.bool x260000_1, .int .u8 x260001_1, .int .u16 x260002_1, .int .u8 x260003_1, .int .u8 x260004_1, .bool x260005_1, .int .u16 x260006_1]) ?_ 0 _ rfl; (with_reducible repeat (first | refine blk_drewN ?_ _ | refine blk_drew ?_ | refine blk_alloc ?_ _)); refine blk_far ?_ NB259_272.out _; (with_reducible repeat (first | refine blk_drewN ?_ _ | refine blk_drew ?_ | refine blk_alloc ?_ _)); refine blk_far ?_ NB259_272.out _; (with_reducible repeat (first | refine blk_drewN ?_ _ | refine blk_drew ?_ | refine blk_alloc ?_ _)); refine blk_far ?_ NB259_272.out _; (with_reducible repeat (first | refine blk_drewN ?_ _ | refine blk_drew ?_ | refine blk_alloc ?_ _)); refine blk_far ?_ NB259_271.out _; (with_reducible repeat (first | refine blk_drewN ?_ _ | refine blk_drew ?_ | refine blk_alloc ?_ _)); refine blk_far ?_ NB259_271.out _; (with_reducible repeat (first | refine blk_drewN ?_ _ | refine blk_drew ?_ | refine blk_alloc ?_ _)); refine blk_far ?_ NB259_271.out _; (with_reducible repeat (first | refine blk_drewN ?_ _ | refine blk_drew ?_ | refine blk_alloc ?_ _)); refine blk_far ?_ NB259_271.out _; (with_reducible repeat (first | refine blk_drewN ?_ _ | refine blk_drew ?_ | refine blk_alloc ?_ _)); refine blk_far ?_ NB259_271.out _; (with_reducible repeat (first | refine blk_drewN ?_ _ | refine blk_drew ?_ | refine blk_alloc ?_ _)); refine blk_far ?_ NB259_271.out _; (with_reducible repeat (first | refine blk_drewN ?_ _ | refine blk_drew ?_ | refine blk_alloc ?_ _)); refine blk_far ?_ NB259_271.out _; (with_reducible repeat (first | refine blk_drewN ?_ _ | refine blk_drew ?_ | refine blk_alloc ?_ _)); exact BK259.out⟩, ⟨by (with_reducible repeat (first | refine blk_drewN ?_ _ | refine blk_drew ?_ | refine blk_alloc ?_ _)); refine blk_far ?_ NB271_259.out _; (with_reducible repeat (first | refine blk_drewN ?_ _ | refine blk_drew ?_ | refine blk_alloc ?_ _)); refine blk_far ?_ NB271_259.out _; (with_reducible repeat (first | refine blk_drewN ?_ _ | refine blk_drew ?_ | refine blk_alloc ?_ _)); refine blk_far ?_ NB271_259.out _; (with_reducible repeat (first | refine blk_drewN ?_ _ | refine blk_drew ?_ | refine blk_alloc ?_ _)); refine blk_far ?_ NB271_259.out _; (with_reducible repeat (first | refine blk_drewN ?_ _ | refine blk_drew ?_ | refine blk_alloc ?_ _)); refine blk_far ?_ NB271_259.out _; (with_reducible repeat (first | refine blk_drewN ?_ _ | refine blk_drew ?_ | refine blk_alloc ?_ _)); refine blk_far ?_ NB271_259.out _; (with_reducible repeat (first | refine blk_drewN ?_ _ | refine blk_drew ?_ | refine blk_alloc ?_ _)); refine blk_far ?_ NB271_259.out _; (with_reducible repeat (first | refine blk_drewN ?_ _ | refine blk_drew ?_ | refine blk_alloc ?_ _)); refine blk_far ?_ NB271_272.out _; (with_reducible repeat (first | refine blk_drewN ?_ _ | refine blk_drew ?_ | refine blk_alloc ?_ _)); refine blk_far ?_ NB271_272.out _; (with_reducible repeat (first | refine blk_drewN ?_ _ | refine blk_drew ?_ | refine blk_alloc ?_ _)); refine blk_far ?_ NB271_272.out _; (with_reducible repeat (first | refine blk_drewN ?_ _ | refine blk_drew ?_ | refine blk_alloc ?_ _)); refine blk_put (cs := #[.bool t261, .int .u8 t262, .int .u16 t263, .int .u8 t264, .int .u8 t265, .bool t266, .int .u16 0]) ?_ 6 _ rfl; (with_reducible repeat (first | refine blk_drewN ?_ _ | refine blk_drew ?_ | refine blk_alloc ?_ _)); refine blk_put (cs := #[.bool t261, .int .u8 t262, .int .u16 t263, .int .u8 t264, .int .u8 t265, .bool false, .int .u16 0]) ?_ 5 _ rfl; (with_reducible repeat (first | refine blk_drewN ?_ _ | refine blk_drew ?_ | refine blk_alloc ?_ _)); refine blk_put (cs := #[.bool t261, .int .u8 t262, .int .u16 t263, .int .u8 t264, .int .u8 0, .bool false, .int .u16 0]) ?_ 4 _ rfl; (with_reducible repeat (first | refine blk_drewN ?_ _ | refine blk_drew ?_ | refine blk_alloc ?_ _)); refine blk_put (cs := #[.bool t261, .int .u8 t262, .int .u16 t263, .int .u8 0, .int .u8 0, .bool false, .int .u16 0]) ?_ 3 _ rfl; (with_reducible repeat (first | refine blk_drewN ?_ _ | refine blk_drew ?_ | refine blk_alloc ?_ _)); refine blk_put (cs := #[.bool t261, .int .u8 t262, .int .u16 0, .int .u8 0, .int .u8 0, .bool false, .int .u16 0]) ?_ 2 _ rfl; (with_reducible repeat (first | refine blk_drewN ?_ _ | refine blk_drew ?_ | refine blk_alloc ?_ _)); refine blk_put (cs := #[.bool t261, .int .u8 0, .int .u16 0, .int .u8 0, .int .u8 0, .bool false, .int .u16 0]) ?_ 1 _ rfl; (with_reducible repeat (first | refine blk_drewN ?_ _ | refine blk_drew ?_ | refine blk_alloc ?_ _)); refine blk_put (cs := #[.bool false, .int .u8 0, .int .u16 0, .int .u8 0, .int .u8 0, .bool false, .int .u16 0]) ?_ 0 _ rfl; (with_reducible repeat (first | refine blk_drewN ?_ _ | refine blk_drew ?_ | refine blk_alloc ?_ _)); exact BK271.out⟩, ⟨by (with_reducible repeat (first | refine blk_drewN ?_ _ | refine blk_drew ?_ | refine blk_alloc ?_ _)); refine blk_far ?_ NB272_259.out _; (with_reducible repeat (first | refine blk_drewN ?_ _ | refine blk_drew ?_ | refine blk_alloc ?_ _)); refine blk_far ?_ NB272_259.out _; (with_reducible repeat (first | refine blk_drewN ?_ _ | refine blk_drew ?_ | refine blk_alloc ?_ _)); refine blk_far ?_ NB272_259.out _; (with_reducible repeat (first | refine blk_drewN ?_ _ | refine blk_drew ?_ | refine blk_alloc ?_ _)); refine blk_far ?_ NB272_259.out _; (with_reducible repeat (first | refine blk_drewN ?_ _ | refine blk_drew ?_ | refine blk_alloc ?_ _)); refine blk_far ?_ NB272_259.out _; (with_reducible repeat (first | refine blk_drewN ?_ _ | refine blk_drew ?_ | refine blk_alloc ?_ _)); refine blk_far ?_ NB272_259.out _; (with_reducible repeat (first | refine blk_drewN ?_ _ | refine blk_drew ?_ | refine blk_alloc ?_ _)); refine blk_far ?_ NB272_259.out _; (with_reducible repeat (first | refine blk_drewN ?_ _ | refine blk_drew ?_ | refine blk_alloc ?_ _)); refine blk_put (cs := #[.bool false, .bool t269, .bool false]) ?_ 2 _ rfl; (with_reducible repeat (first | refine blk_drewN ?_ _ | refine blk_drew ?_ | refine blk_alloc ?_ _)); refine blk_put (cs := #[.bool false, .bool false, .bool false]) ?_ 1 _ rfl; (with_reducible repeat (first | refine blk_drewN ?_ _ | refine blk_drew ?_ | refine blk_alloc ?_ _)); refine blk_put (cs := #[.bool false, .bool false, .bool false]) ?_ 0 _ rfl; (with_reducible repeat (first | refine blk_drewN ?_ _ | refine blk_drew ?_ | refine blk_alloc ?_ _)); refine blk_far ?_ NB272_271.out _; (with_reducible repeat (first | refine blk_drewN ?_ _ | refine blk_drew ?_ | refine blk_alloc ?_ _)); refine blk_far ?_ NB272_271.out _; (with_reducible repeat (first | refine blk_drewN ?_ _ | refine blk_drew ?_ | refine blk_alloc ?_ _)); refine blk_far ?_ NB272_271.out _; (with_reducible repeat (first | refine blk_drewN ?_ _ | refine blk_drew ?_ | refine blk_alloc ?_ _)); refine blk_far ?_ NB272_271.out _; (with_reducible repeat (first | refine blk_drewN ?_ _ | refine blk_drew ?_ | refine blk_alloc ?_ _)); refine blk_far ?_ NB272_271.out _; (with_reducible repeat (first | refine blk_drewN ?_ _ | refine blk_drew ?_ | refine blk_alloc ?_ _)); refine blk_far ?_ NB272_271.out _; (with_reducible repeat (first | refine blk_drewN ?_ _ | refine blk_drew ?_ | refine blk_alloc ?_ _)); refine blk_far ?_ NB272_271.out _; (with_reducible repeat (first | refine blk_drewN ?_ _ | refine blk_drew ?_ | refine blk_alloc ?_ _)); exact BK272.out⟩, ⟨by repeat (first | (with_reducible first | exact HB.out | apply below_alloc | apply pw_below_drewN | apply below_drew1 | refine below_set ?_ GE259.out | refine below_set ?_ GE271.out | refine below_set ?_ GE272.out) | exact HB.out)⟩⟩
        case rest =>
          clear HC12
          try clear c1
          try clear c2
          try clear p2
          try clear p6
          try clear c8
          try clear c10
          try clear c10b0
          try clear c11
          try clear c12
          try clear c17
          try clear c18
          try clear c20
          try clear c23
          try clear hcz13_0
          try clear hcz13_1
          try clear hcz13_2
          try clear hcz13_3
          try clear hcz13_4
          try clear hcz13_5
          try clear hcz13_6
          try clear hcz19_0
          try clear hcz19_1
          try clear hcz19_2
          try clear hcz19_3
          try clear hcz19_4
          try clear hcz19_5
          try clear hcz19_6
          try clear hcz21_0
          try clear hcz21_1
          try clear hcz21_2
          try clear hcz22_0
          try clear hcz22_1
          try clear hcz22_2
          try clear hcz22_3
          try clear hcz22_4
          try clear hcz22_5
          try clear hcz22_6
          try clear hcz9_0
          try clear hcz9_1
          try clear hcz9_2
          try clear hcz9_3
          try clear hcz9_4
          try clear hcz9_5
          try clear hcz9_6
          try clear hfz13_0
          try clear hfz13_1
          try clear hfz13_2
          try clear hfz13_3
          try clear hfz13_4
          try clear hfz13_5
          try clear hfz13_6
          try clear hfz19_0
          try clear hfz19_1
          try clear hfz19_2
          try clear hfz19_3
          try clear hfz19_4
          try clear hfz19_5
          try clear hfz19_6
          try clear hfz21_0
          try clear hfz21_1
          try clear hfz21_2
          try clear hfz22_0
          try clear hfz22_1
          try clear hfz22_2
          try clear hfz22_3
          try clear hfz22_4
          try clear hfz22_5
          try clear hfz22_6
          try clear hfz9_0
          try clear hfz9_1
          try clear hfz9_2
          try clear hfz9_3
          try clear hfz9_4
          try clear hfz9_5
          try clear hfz9_6
          try clear p2
          obtain ⟨kq, x10_11, rfl, HA, HJ11, BK259, BK271, BK272, HB⟩ := hcut
          cases kq with
          | zero => exact absurd HA.out (by simp [whirligiglaw15_LcdFrames.j1])
          | succ kj11 =>
            have H := HA.out
            clear HA
            simp only [whirligiglaw15_LcdFrames.j1] at H
            by_cases c24 : t270 = true
            · subst c24
              have H1 : (if t268 = true then (if t262 = 144 then (if x12_1 = 65663 then ((lcd_Mode.f t261 t262 t263 t264 t265 t266 t267).bind fun t273 => (if t273 = 3 then (whirligiglaw15_LcdFrames.l0 kj11 a0 t250 x10_11 (wrap64 (x11_1 + 1)) (wrap64 (x12_1 + 1)) t261 t262 t263 t264 t265 t266 t267) else (some false))) else (some false)) else (some false)) else ((lcd_Mode.f t261 t262 t263 t264 t265 t266 t267).bind fun t274 => (if t274 = 3 then (whirligiglaw15_LcdFrames.l0 kj11 a0 t250 x10_11 (wrap64 (x11_1 + 1)) (wrap64 (x12_1 + 1)) t261 t262 t263 t264 t265 t266 t267) else (some false)))) = some r := by rw [if_pos rfl] at H; exact H
              clear H
              have H := H1
              clear H1
              by_cases c25 : t268 = true
              · subst c25
                have H1 : (if t262 = 144 then (if x12_1 = 65663 then ((lcd_Mode.f t261 t262 t263 t264 t265 t266 t267).bind fun t273 => (if t273 = 3 then (whirligiglaw15_LcdFrames.l0 kj11 a0 t250 x10_11 (wrap64 (x11_1 + 1)) (wrap64 (x12_1 + 1)) t261 t262 t263 t264 t265 t266 t267) else (some false))) else (some false)) else (some false)) = some r := by rw [if_pos rfl] at H; exact H
                clear H
                have H := H1
                clear H1
                by_cases c26 : t262 = 144
                · rw [if_pos c26] at H
                  have c26b0 : (t262 == 144) = true := beq_iff_eq.mpr c26
                  have c26b1 : (t262 != 144) = false := bne_eq_false_iff_eq.mpr c26
                  clear c26
                  by_cases c27 : x12_1 = 65663
                  · rw [if_pos c27] at H
                    have c27b0 : (x12_1 == 65663) = true := beq_iff_eq.mpr c27
                    have c27b1 : (x12_1 != 65663) = false := bne_eq_false_iff_eq.mpr c27
                    clear c27
                    replace H := Option.bind_eq_some_iff.mp H
                    obtain ⟨t273, A280, H⟩ := H
                    replace H : (if t273 = 3 then (whirligiglaw15_LcdFrames.l0 kj11 a0 t250 x10_11 (wrap64 (x11_1 + 1)) (wrap64 (x12_1 + 1)) t261 t262 t263 t264 t265 t266 t267) else (some false)) = some r := H
                    have A28 := Aside0.mk A280
                    clear A280
                    by_cases c29 : t273 = 3
                    · rw [if_pos c29] at H
                      have c29b0 : (t273 == 3) = true := beq_iff_eq.mpr c29
                      have c29b1 : (t273 != 3) = false := bne_eq_false_iff_eq.mpr c29
                      clear c29
                      have H' := Aside0.mk H
                      clear H
                      have hnb30 := NB272_259.out
                      have hnc30 := NB259_272.out
                      have hnb31 := NB272_271.out
                      have hnc31 := NB271_272.out
                      have hcz32_0 : wc.cell? ⟨gb272, 0, none⟩ = some (.bool true) := (blk_cell BK272.out 0).trans rfl
                      have hcz32_1 : wc.cell? ⟨gb272, 1, none⟩ = some (.bool t269) := (blk_cell BK272.out 1).trans rfl
                      have hcz32_2 : wc.cell? ⟨gb272, 2, none⟩ = some (.bool true) := (blk_cell BK272.out 2).trans rfl
                      have hfz32_0 := blk_frozen BK272.out 0
                      have hfz32_1 := blk_frozen BK272.out 1
                      have hfz32_2 := blk_frozen BK272.out 2
                      have hnb33 := NB259_271.out
                      have hnc33 := NB271_259.out
                      have hcz34_0 : wc.cell? ⟨gb259, 0, none⟩ = some (.bool t261) := (blk_cell BK259.out 0).trans rfl
                      have hcz34_1 : wc.cell? ⟨gb259, 1, none⟩ = some (.int .u8 t262) := (blk_cell BK259.out 1).trans rfl
                      have hcz34_2 : wc.cell? ⟨gb259, 2, none⟩ = some (.int .u16 t263) := (blk_cell BK259.out 2).trans rfl
                      have hcz34_3 : wc.cell? ⟨gb259, 3, none⟩ = some (.int .u8 t264) := (blk_cell BK259.out 3).trans rfl
                      have hcz34_4 : wc.cell? ⟨gb259, 4, none⟩ = some (.int .u8 t265) := (blk_cell BK259.out 4).trans rfl
                      have hcz34_5 : wc.cell? ⟨gb259, 5, none⟩ = some (.bool t266) := (blk_cell BK259.out 5).trans rfl
                      have hcz34_6 : wc.cell? ⟨gb259, 6, none⟩ = some (.int .u16 t267) := (blk_cell BK259.out 6).trans rfl
                      have hfz34_0 := blk_frozen BK259.out 0
                      have hfz34_1 := blk_frozen BK259.out 1
                      have hfz34_2 := blk_frozen BK259.out 2
                      have hfz34_3 := blk_frozen BK259.out 3
                      have hfz34_4 := blk_frozen BK259.out 4
                      have hfz34_5 := blk_frozen BK259.out 5
                      have hfz34_6 := blk_frozen BK259.out 6
                      go_wp2_with (first | (go_at_call 16; (with_reducible refine (lcd_Mode.calls t261 t262 t263 t264 t265 t266 t267 t273 _ A28.out).mono ?_); rintro e w35 ⟨rfl, hb⟩; have n0_ := Aside0.mk (blk_below (g := gb259) (o := .cells #[.bool t261, .int .u8 t262, .int .u16 t263, .int .u8 t264, .int .u8 t265, .bool t266, .int .u16 t267] 24 (0, 0)) (by (with_reducible repeat (first | refine blk_drewN ?_ _ | refine blk_drew ?_ | refine blk_alloc ?_ _)); exact BK259.out) hb); have n1_ := Aside0.mk (blk_below (g := gb271) (o := .cells #[.bool t261, .int .u8 t262, .int .u16 t263, .int .u8 t264, .int .u8 t265, .bool t266, .int .u16 t267] 24 (0, 0)) (by (with_reducible repeat (first | refine blk_drewN ?_ _ | refine blk_drew ?_ | refine blk_alloc ?_ _)); exact BK271.out) hb); have n2_ := Aside0.mk (blk_below (g := gb272) (o := .cells #[.bool true, .bool t269, .bool true] 27 (0, 0)) (by (with_reducible repeat (first | refine blk_drewN ?_ _ | refine blk_drew ?_ | refine blk_alloc ?_ _)); exact BK272.out) hb); have n3_ := Aside0.mk (below_step (by repeat (first | (with_reducible first | exact HB.out | apply below_alloc | apply pw_below_drewN | apply below_drew1 | refine below_set ?_ GE259.out | refine below_set ?_ GE271.out | refine below_set ?_ GE272.out) | exact HB.out)) hb); clear BK259; clear BK271; clear BK272; clear HB; have BK259 := n0_; have BK271 := n1_; have BK272 := n2_; have HB := n3_; clear n0_ n1_ n2_ n3_; (try clear hb); (try clear hb2); (try clear hk); (try clear hi)))
                      go_roundg kj11
                      case measure => have := HK1.out; have := HJ11.out; omega
                      case rel => exact ⟨(x10_11), (wrap64 (x11_1 + 1)), (wrap64 (x12_1 + 1)), (t261), (t262), (t263), (t264), (t265), (t266), (t267), (by first | rfl | (simp; done) | (simp [*]; done)), (by first | rfl | (simp; done) | (simp [*]; done)), (by first | rfl | (simp; done) | (simp [*]; done)), H', ⟨by have := HK1.out; have := HJ11.out; omega⟩, ⟨by (with_reducible repeat (first | refine blk_drewN ?_ _ | refine blk_drew ?_ | refine blk_alloc ?_ _)); exact BK259.out⟩, ⟨by repeat (first | (with_reducible first | exact HB.out | apply below_alloc | apply pw_below_drewN | apply below_drew1 | refine below_set ?_ GE259.out | refine below_set ?_ GE271.out | refine below_set ?_ GE272.out) | exact HB.out)⟩⟩
                    · rw [if_neg c29] at H
                      have c29b0 : (t273 == 3) = false := beq_eq_false_iff_ne.mpr c29
                      have c29b1 : (t273 != 3) = true := bne_iff_ne.mpr c29
                      obtain rfl := Option.some.inj H
                      have hnb36 := NB272_259.out
                      have hnc36 := NB259_272.out
                      have hnb37 := NB272_271.out
                      have hnc37 := NB271_272.out
                      have hcz38_0 : wc.cell? ⟨gb272, 0, none⟩ = some (.bool true) := (blk_cell BK272.out 0).trans rfl
                      have hcz38_1 : wc.cell? ⟨gb272, 1, none⟩ = some (.bool t269) := (blk_cell BK272.out 1).trans rfl
                      have hcz38_2 : wc.cell? ⟨gb272, 2, none⟩ = some (.bool true) := (blk_cell BK272.out 2).trans rfl
                      have hfz38_0 := blk_frozen BK272.out 0
                      have hfz38_1 := blk_frozen BK272.out 1
                      have hfz38_2 := blk_frozen BK272.out 2
                      have hnb39 := NB259_271.out
                      have hnc39 := NB271_259.out
                      have hcz40_0 : wc.cell? ⟨gb259, 0, none⟩ = some (.bool t261) := (blk_cell BK259.out 0).trans rfl
                      have hcz40_1 : wc.cell? ⟨gb259, 1, none⟩ = some (.int .u8 t262) := (blk_cell BK259.out 1).trans rfl
                      have hcz40_2 : wc.cell? ⟨gb259, 2, none⟩ = some (.int .u16 t263) := (blk_cell BK259.out 2).trans rfl
                      have hcz40_3 : wc.cell? ⟨gb259, 3, none⟩ = some (.int .u8 t264) := (blk_cell BK259.out 3).trans rfl
                      have hcz40_4 : wc.cell? ⟨gb259, 4, none⟩ = some (.int .u8 t265) := (blk_cell BK259.out 4).trans rfl
                      have hcz40_5 : wc.cell? ⟨gb259, 5, none⟩ = some (.bool t266) := (blk_cell BK259.out 5).trans rfl
                      have hcz40_6 : wc.cell? ⟨gb259, 6, none⟩ = some (.int .u16 t267) := (blk_cell BK259.out 6).trans rfl
                      have hfz40_0 := blk_frozen BK259.out 0
                      have hfz40_1 := blk_frozen BK259.out 1
                      have hfz40_2 := blk_frozen BK259.out 2
                      have hfz40_3 := blk_frozen BK259.out 3
                      have hfz40_4 := blk_frozen BK259.out 4
                      have hfz40_5 := blk_frozen BK259.out 5
                      have hfz40_6 := blk_frozen BK259.out 6
                      go_wp2_with (first | (go_at_call 16; (with_reducible refine (lcd_Mode.calls t261 t262 t263 t264 t265 t266 t267 t273 _ A28.out).mono ?_); rintro e w41 ⟨rfl, hb⟩; have n0_ := Aside0.mk (blk_below (g := gb259) (o := .cells #[.bool t261, .int .u8 t262, .int .u16 t263, .int .u8 t264, .int .u8 t265, .bool t266, .int .u16 t267] 24 (0, 0)) (by (with_reducible repeat (first | refine blk_drewN ?_ _ | refine blk_drew ?_ | refine blk_alloc ?_ _)); exact BK259.out) hb); have n1_ := Aside0.mk (blk_below (g := gb271) (o := .cells #[.bool t261, .int .u8 t262, .int .u16 t263, .int .u8 t264, .int .u8 t265, .bool t266, .int .u16 t267] 24 (0, 0)) (by (with_reducible repeat (first | refine blk_drewN ?_ _ | refine blk_drew ?_ | refine blk_alloc ?_ _)); exact BK271.out) hb); have n2_ := Aside0.mk (blk_below (g := gb272) (o := .cells #[.bool true, .bool t269, .bool true] 27 (0, 0)) (by (with_reducible repeat (first | refine blk_drewN ?_ _ | refine blk_drew ?_ | refine blk_alloc ?_ _)); exact BK272.out) hb); have n3_ := Aside0.mk (below_step (by repeat (first | (with_reducible first | exact HB.out | apply below_alloc | apply pw_below_drewN | apply below_drew1 | refine below_set ?_ GE259.out | refine below_set ?_ GE271.out | refine below_set ?_ GE272.out) | exact HB.out)) hb); clear BK259; clear BK271; clear BK272; clear HB; have BK259 := n0_; have BK271 := n1_; have BK272 := n2_; have HB := n3_; clear n0_ n1_ n2_ n3_; (try clear hb); (try clear hb2); (try clear hk); (try clear hi)))
                      go_ret
                      exact ⟨by first | rfl | (simp [errW_none, errW_some] <;> rfl) | (simp [*, errW_none, errW_some] <;> rfl), by repeat (first | (with_reducible first | exact HB.out | apply below_alloc | apply pw_below_drewN | apply below_drew1 | refine below_set ?_ GE259.out | refine below_set ?_ GE271.out | refine below_set ?_ GE272.out) | exact HB.out)⟩
                  · rw [if_neg c27] at H
                    have c27b0 : (x12_1 == 65663) = false := beq_eq_false_iff_ne.mpr c27
                    have c27b1 : (x12_1 != 65663) = true := bne_iff_ne.mpr c27
                    obtain rfl := Option.some.inj H
                    have hnb42 := NB272_259.out
                    have hnc42 := NB259_272.out
                    have hnb43 := NB272_271.out
                    have hnc43 := NB271_272.out
                    have hcz44_0 : wc.cell? ⟨gb272, 0, none⟩ = some (.bool true) := (blk_cell BK272.out 0).trans rfl
                    have hcz44_1 : wc.cell? ⟨gb272, 1, none⟩ = some (.bool t269) := (blk_cell BK272.out 1).trans rfl
                    have hcz44_2 : wc.cell? ⟨gb272, 2, none⟩ = some (.bool true) := (blk_cell BK272.out 2).trans rfl
                    have hfz44_0 := blk_frozen BK272.out 0
                    have hfz44_1 := blk_frozen BK272.out 1
                    have hfz44_2 := blk_frozen BK272.out 2
                    have hnb45 := NB259_271.out
                    have hnc45 := NB271_259.out
                    have hcz46_0 : wc.cell? ⟨gb259, 0, none⟩ = some (.bool t261) := (blk_cell BK259.out 0).trans rfl
                    have hcz46_1 : wc.cell? ⟨gb259, 1, none⟩ = some (.int .u8 t262) := (blk_cell BK259.out 1).trans rfl
                    have hcz46_2 : wc.cell? ⟨gb259, 2, none⟩ = some (.int .u16 t263) := (blk_cell BK259.out 2).trans rfl
                    have hcz46_3 : wc.cell? ⟨gb259, 3, none⟩ = some (.int .u8 t264) := (blk_cell BK259.out 3).trans rfl
                    have hcz46_4 : wc.cell? ⟨gb259, 4, none⟩ = some (.int .u8 t265) := (blk_cell BK259.out 4).trans rfl
                    have hcz46_5 : wc.cell? ⟨gb259, 5, none⟩ = some (.bool t266) := (blk_cell BK259.out 5).trans rfl
                    have hcz46_6 : wc.cell? ⟨gb259, 6, none⟩ = some (.int .u16 t267) := (blk_cell BK259.out 6).trans rfl
                    have hfz46_0 := blk_frozen BK259.out 0
                    have hfz46_1 := blk_frozen BK259.out 1
                    have hfz46_2 := blk_frozen BK259.out 2
                    have hfz46_3 := blk_frozen BK259.out 3
                    have hfz46_4 := blk_frozen BK259.out 4
                    have hfz46_5 := blk_frozen BK259.out 5
                    have hfz46_6 := blk_frozen BK259.out 6
                    go_wp2
                    go_ret
                    exact ⟨by first | rfl | (simp [errW_none, errW_some] <;> rfl) | (simp [*, errW_none, errW_some] <;> rfl), by repeat (first | (with_reducible first | exact HB.out | apply below_alloc | apply pw_below_drewN | apply below_drew1 | refine below_set ?_ GE259.out | refine below_set ?_ GE271.out | refine below_set ?_ GE272.out) | exact HB.out)⟩
                · rw [if_neg c26] at H
                  have c26b0 : (t262 == 144) = false := beq_eq_false_iff_ne.mpr c26
                  have c26b1 : (t262 != 144) = true := bne_iff_ne.mpr c26
                  obtain rfl := Option.some.inj H
                  have hnb47 := NB272_259.out
                  have hnc47 := NB259_272.out
                  have hnb48 := NB272_271.out
                  have hnc48 := NB271_272.out
                  have hcz49_0 : wc.cell? ⟨gb272, 0, none⟩ = some (.bool true) := (blk_cell BK272.out 0).trans rfl
                  have hcz49_1 : wc.cell? ⟨gb272, 1, none⟩ = some (.bool t269) := (blk_cell BK272.out 1).trans rfl
                  have hcz49_2 : wc.cell? ⟨gb272, 2, none⟩ = some (.bool true) := (blk_cell BK272.out 2).trans rfl
                  have hfz49_0 := blk_frozen BK272.out 0
                  have hfz49_1 := blk_frozen BK272.out 1
                  have hfz49_2 := blk_frozen BK272.out 2
                  have hnb50 := NB259_271.out
                  have hnc50 := NB271_259.out
                  have hcz51_0 : wc.cell? ⟨gb259, 0, none⟩ = some (.bool t261) := (blk_cell BK259.out 0).trans rfl
                  have hcz51_1 : wc.cell? ⟨gb259, 1, none⟩ = some (.int .u8 t262) := (blk_cell BK259.out 1).trans rfl
                  have hcz51_2 : wc.cell? ⟨gb259, 2, none⟩ = some (.int .u16 t263) := (blk_cell BK259.out 2).trans rfl
                  have hcz51_3 : wc.cell? ⟨gb259, 3, none⟩ = some (.int .u8 t264) := (blk_cell BK259.out 3).trans rfl
                  have hcz51_4 : wc.cell? ⟨gb259, 4, none⟩ = some (.int .u8 t265) := (blk_cell BK259.out 4).trans rfl
                  have hcz51_5 : wc.cell? ⟨gb259, 5, none⟩ = some (.bool t266) := (blk_cell BK259.out 5).trans rfl
                  have hcz51_6 : wc.cell? ⟨gb259, 6, none⟩ = some (.int .u16 t267) := (blk_cell BK259.out 6).trans rfl
                  have hfz51_0 := blk_frozen BK259.out 0
                  have hfz51_1 := blk_frozen BK259.out 1
                  have hfz51_2 := blk_frozen BK259.out 2
                  have hfz51_3 := blk_frozen BK259.out 3
                  have hfz51_4 := blk_frozen BK259.out 4
                  have hfz51_5 := blk_frozen BK259.out 5
                  have hfz51_6 := blk_frozen BK259.out 6
                  go_wp2
                  go_ret
                  exact ⟨by first | rfl | (simp [errW_none, errW_some] <;> rfl) | (simp [*, errW_none, errW_some] <;> rfl), by repeat (first | (with_reducible first | exact HB.out | apply below_alloc | apply pw_below_drewN | apply below_drew1 | refine below_set ?_ GE259.out | refine below_set ?_ GE271.out | refine below_set ?_ GE272.out) | exact HB.out)⟩
              · replace c25 := Bool.eq_false_iff.mpr c25
                subst c25
                have H1 : ((lcd_Mode.f t261 t262 t263 t264 t265 t266 t267).bind fun t274 => (if t274 = 3 then (whirligiglaw15_LcdFrames.l0 kj11 a0 t250 x10_11 (wrap64 (x11_1 + 1)) (wrap64 (x12_1 + 1)) t261 t262 t263 t264 t265 t266 t267) else (some false))) = some r := by rw [if_neg (show ¬ (false = true) by decide)] at H; exact H
                clear H
                have H := H1
                clear H1
                replace H := Option.bind_eq_some_iff.mp H
                obtain ⟨t274, A520, H⟩ := H
                replace H : (if t274 = 3 then (whirligiglaw15_LcdFrames.l0 kj11 a0 t250 x10_11 (wrap64 (x11_1 + 1)) (wrap64 (x12_1 + 1)) t261 t262 t263 t264 t265 t266 t267) else (some false)) = some r := H
                have A52 := Aside0.mk A520
                clear A520
                by_cases c53 : t274 = 3
                · rw [if_pos c53] at H
                  have c53b0 : (t274 == 3) = true := beq_iff_eq.mpr c53
                  have c53b1 : (t274 != 3) = false := bne_eq_false_iff_eq.mpr c53
                  clear c53
                  have H' := Aside0.mk H
                  clear H
                  have hnb54 := NB272_259.out
                  have hnc54 := NB259_272.out
                  have hnb55 := NB272_271.out
                  have hnc55 := NB271_272.out
                  have hcz56_0 : wc.cell? ⟨gb272, 0, none⟩ = some (.bool false) := (blk_cell BK272.out 0).trans rfl
                  have hcz56_1 : wc.cell? ⟨gb272, 1, none⟩ = some (.bool t269) := (blk_cell BK272.out 1).trans rfl
                  have hcz56_2 : wc.cell? ⟨gb272, 2, none⟩ = some (.bool true) := (blk_cell BK272.out 2).trans rfl
                  have hfz56_0 := blk_frozen BK272.out 0
                  have hfz56_1 := blk_frozen BK272.out 1
                  have hfz56_2 := blk_frozen BK272.out 2
                  have hnb57 := NB259_271.out
                  have hnc57 := NB271_259.out
                  have hcz58_0 : wc.cell? ⟨gb259, 0, none⟩ = some (.bool t261) := (blk_cell BK259.out 0).trans rfl
                  have hcz58_1 : wc.cell? ⟨gb259, 1, none⟩ = some (.int .u8 t262) := (blk_cell BK259.out 1).trans rfl
                  have hcz58_2 : wc.cell? ⟨gb259, 2, none⟩ = some (.int .u16 t263) := (blk_cell BK259.out 2).trans rfl
                  have hcz58_3 : wc.cell? ⟨gb259, 3, none⟩ = some (.int .u8 t264) := (blk_cell BK259.out 3).trans rfl
                  have hcz58_4 : wc.cell? ⟨gb259, 4, none⟩ = some (.int .u8 t265) := (blk_cell BK259.out 4).trans rfl
                  have hcz58_5 : wc.cell? ⟨gb259, 5, none⟩ = some (.bool t266) := (blk_cell BK259.out 5).trans rfl
                  have hcz58_6 : wc.cell? ⟨gb259, 6, none⟩ = some (.int .u16 t267) := (blk_cell BK259.out 6).trans rfl
                  have hfz58_0 := blk_frozen BK259.out 0
                  have hfz58_1 := blk_frozen BK259.out 1
                  have hfz58_2 := blk_frozen BK259.out 2
                  have hfz58_3 := blk_frozen BK259.out 3
                  have hfz58_4 := blk_frozen BK259.out 4
                  have hfz58_5 := blk_frozen BK259.out 5
                  have hfz58_6 := blk_frozen BK259.out 6
                  go_wp2_with (first | (go_at_call 16; (with_reducible refine (lcd_Mode.calls t261 t262 t263 t264 t265 t266 t267 t274 _ A52.out).mono ?_); rintro e w59 ⟨rfl, hb⟩; have n0_ := Aside0.mk (blk_below (g := gb259) (o := .cells #[.bool t261, .int .u8 t262, .int .u16 t263, .int .u8 t264, .int .u8 t265, .bool t266, .int .u16 t267] 24 (0, 0)) (by (with_reducible repeat (first | refine blk_drewN ?_ _ | refine blk_drew ?_ | refine blk_alloc ?_ _)); exact BK259.out) hb); have n1_ := Aside0.mk (blk_below (g := gb271) (o := .cells #[.bool t261, .int .u8 t262, .int .u16 t263, .int .u8 t264, .int .u8 t265, .bool t266, .int .u16 t267] 24 (0, 0)) (by (with_reducible repeat (first | refine blk_drewN ?_ _ | refine blk_drew ?_ | refine blk_alloc ?_ _)); exact BK271.out) hb); have n2_ := Aside0.mk (blk_below (g := gb272) (o := .cells #[.bool false, .bool t269, .bool true] 27 (0, 0)) (by (with_reducible repeat (first | refine blk_drewN ?_ _ | refine blk_drew ?_ | refine blk_alloc ?_ _)); exact BK272.out) hb); have n3_ := Aside0.mk (below_step (by repeat (first | (with_reducible first | exact HB.out | apply below_alloc | apply pw_below_drewN | apply below_drew1 | refine below_set ?_ GE259.out | refine below_set ?_ GE271.out | refine below_set ?_ GE272.out) | exact HB.out)) hb); clear BK259; clear BK271; clear BK272; clear HB; have BK259 := n0_; have BK271 := n1_; have BK272 := n2_; have HB := n3_; clear n0_ n1_ n2_ n3_; (try clear hb); (try clear hb2); (try clear hk); (try clear hi)))
                  go_roundg kj11
                  case measure => have := HK1.out; have := HJ11.out; omega
                  case rel => exact ⟨(x10_11), (wrap64 (x11_1 + 1)), (wrap64 (x12_1 + 1)), (t261), (t262), (t263), (t264), (t265), (t266), (t267), (by first | rfl | (simp; done) | (simp [*]; done)), (by first | rfl | (simp; done) | (simp [*]; done)), (by first | rfl | (simp; done) | (simp [*]; done)), H', ⟨by have := HK1.out; have := HJ11.out; omega⟩, ⟨by (with_reducible repeat (first | refine blk_drewN ?_ _ | refine blk_drew ?_ | refine blk_alloc ?_ _)); exact BK259.out⟩, ⟨by repeat (first | (with_reducible first | exact HB.out | apply below_alloc | apply pw_below_drewN | apply below_drew1 | refine below_set ?_ GE259.out | refine below_set ?_ GE271.out | refine below_set ?_ GE272.out) | exact HB.out)⟩⟩
                · rw [if_neg c53] at H
                  have c53b0 : (t274 == 3) = false := beq_eq_false_iff_ne.mpr c53
                  have c53b1 : (t274 != 3) = true := bne_iff_ne.mpr c53
                  obtain rfl := Option.some.inj H
                  have hnb60 := NB272_259.out
                  have hnc60 := NB259_272.out
                  have hnb61 := NB272_271.out
                  have hnc61 := NB271_272.out
                  have hcz62_0 : wc.cell? ⟨gb272, 0, none⟩ = some (.bool false) := (blk_cell BK272.out 0).trans rfl
                  have hcz62_1 : wc.cell? ⟨gb272, 1, none⟩ = some (.bool t269) := (blk_cell BK272.out 1).trans rfl
                  have hcz62_2 : wc.cell? ⟨gb272, 2, none⟩ = some (.bool true) := (blk_cell BK272.out 2).trans rfl
                  have hfz62_0 := blk_frozen BK272.out 0
                  have hfz62_1 := blk_frozen BK272.out 1
                  have hfz62_2 := blk_frozen BK272.out 2
                  have hnb63 := NB259_271.out
                  have hnc63 := NB271_259.out
                  have hcz64_0 : wc.cell? ⟨gb259, 0, none⟩ = some (.bool t261) := (blk_cell BK259.out 0).trans rfl
                  have hcz64_1 : wc.cell? ⟨gb259, 1, none⟩ = some (.int .u8 t262) := (blk_cell BK259.out 1).trans rfl
                  have hcz64_2 : wc.cell? ⟨gb259, 2, none⟩ = some (.int .u16 t263) := (blk_cell BK259.out 2).trans rfl
                  have hcz64_3 : wc.cell? ⟨gb259, 3, none⟩ = some (.int .u8 t264) := (blk_cell BK259.out 3).trans rfl
                  have hcz64_4 : wc.cell? ⟨gb259, 4, none⟩ = some (.int .u8 t265) := (blk_cell BK259.out 4).trans rfl
                  have hcz64_5 : wc.cell? ⟨gb259, 5, none⟩ = some (.bool t266) := (blk_cell BK259.out 5).trans rfl
                  have hcz64_6 : wc.cell? ⟨gb259, 6, none⟩ = some (.int .u16 t267) := (blk_cell BK259.out 6).trans rfl
                  have hfz64_0 := blk_frozen BK259.out 0
                  have hfz64_1 := blk_frozen BK259.out 1
                  have hfz64_2 := blk_frozen BK259.out 2
                  have hfz64_3 := blk_frozen BK259.out 3
                  have hfz64_4 := blk_frozen BK259.out 4
                  have hfz64_5 := blk_frozen BK259.out 5
                  have hfz64_6 := blk_frozen BK259.out 6
                  go_wp2_with (first | (go_at_call 16; (with_reducible refine (lcd_Mode.calls t261 t262 t263 t264 t265 t266 t267 t274 _ A52.out).mono ?_); rintro e w65 ⟨rfl, hb⟩; have n0_ := Aside0.mk (blk_below (g := gb259) (o := .cells #[.bool t261, .int .u8 t262, .int .u16 t263, .int .u8 t264, .int .u8 t265, .bool t266, .int .u16 t267] 24 (0, 0)) (by (with_reducible repeat (first | refine blk_drewN ?_ _ | refine blk_drew ?_ | refine blk_alloc ?_ _)); exact BK259.out) hb); have n1_ := Aside0.mk (blk_below (g := gb271) (o := .cells #[.bool t261, .int .u8 t262, .int .u16 t263, .int .u8 t264, .int .u8 t265, .bool t266, .int .u16 t267] 24 (0, 0)) (by (with_reducible repeat (first | refine blk_drewN ?_ _ | refine blk_drew ?_ | refine blk_alloc ?_ _)); exact BK271.out) hb); have n2_ := Aside0.mk (blk_below (g := gb272) (o := .cells #[.bool false, .bool t269, .bool true] 27 (0, 0)) (by (with_reducible repeat (first | refine blk_drewN ?_ _ | refine blk_drew ?_ | refine blk_alloc ?_ _)); exact BK272.out) hb); have n3_ := Aside0.mk (below_step (by repeat (first | (with_reducible first | exact HB.out | apply below_alloc | apply pw_below_drewN | apply below_drew1 | refine below_set ?_ GE259.out | refine below_set ?_ GE271.out | refine below_set ?_ GE272.out) | exact HB.out)) hb); clear BK259; clear BK271; clear BK272; clear HB; have BK259 := n0_; have BK271 := n1_; have BK272 := n2_; have HB := n3_; clear n0_ n1_ n2_ n3_; (try clear hb); (try clear hb2); (try clear hk); (try clear hi)))
                  go_ret
                  exact ⟨by first | rfl | (simp [errW_none, errW_some] <;> rfl) | (simp [*, errW_none, errW_some] <;> rfl), by repeat (first | (with_reducible first | exact HB.out | apply below_alloc | apply pw_below_drewN | apply below_drew1 | refine below_set ?_ GE259.out | refine below_set ?_ GE271.out | refine below_set ?_ GE272.out) | exact HB.out)⟩
            · replace c24 := Bool.eq_false_iff.mpr c24
              subst c24
              have H1 : (if t268 = true then (if t262 = 144 then (if x12_1 = 65663 then (whirligiglaw15_LcdFrames.l0 kj11 a0 t250 x10_11 x11_1 (wrap64 (x12_1 + 1)) t261 t262 t263 t264 t265 t266 t267) else (some false)) else (some false)) else (whirligiglaw15_LcdFrames.l0 kj11 a0 t250 x10_11 x11_1 (wrap64 (x12_1 + 1)) t261 t262 t263 t264 t265 t266 t267)) = some r := by rw [if_neg (show ¬ (false = true) by decide)] at H; exact H
              clear H
              have H := H1
              clear H1
              by_cases c66 : t268 = true
              · subst c66
                have H1 : (if t262 = 144 then (if x12_1 = 65663 then (whirligiglaw15_LcdFrames.l0 kj11 a0 t250 x10_11 x11_1 (wrap64 (x12_1 + 1)) t261 t262 t263 t264 t265 t266 t267) else (some false)) else (some false)) = some r := by rw [if_pos rfl] at H; exact H
                clear H
                have H := H1
                clear H1
                by_cases c67 : t262 = 144
                · rw [if_pos c67] at H
                  have c67b0 : (t262 == 144) = true := beq_iff_eq.mpr c67
                  have c67b1 : (t262 != 144) = false := bne_eq_false_iff_eq.mpr c67
                  clear c67
                  by_cases c68 : x12_1 = 65663
                  · rw [if_pos c68] at H
                    have c68b0 : (x12_1 == 65663) = true := beq_iff_eq.mpr c68
                    have c68b1 : (x12_1 != 65663) = false := bne_eq_false_iff_eq.mpr c68
                    clear c68
                    have H' := Aside0.mk H
                    clear H
                    have hnb69 := NB272_259.out
                    have hnc69 := NB259_272.out
                    have hnb70 := NB272_271.out
                    have hnc70 := NB271_272.out
                    have hcz71_0 : wc.cell? ⟨gb272, 0, none⟩ = some (.bool true) := (blk_cell BK272.out 0).trans rfl
                    have hcz71_1 : wc.cell? ⟨gb272, 1, none⟩ = some (.bool t269) := (blk_cell BK272.out 1).trans rfl
                    have hcz71_2 : wc.cell? ⟨gb272, 2, none⟩ = some (.bool false) := (blk_cell BK272.out 2).trans rfl
                    have hfz71_0 := blk_frozen BK272.out 0
                    have hfz71_1 := blk_frozen BK272.out 1
                    have hfz71_2 := blk_frozen BK272.out 2
                    have hnb72 := NB259_271.out
                    have hnc72 := NB271_259.out
                    have hcz73_0 : wc.cell? ⟨gb259, 0, none⟩ = some (.bool t261) := (blk_cell BK259.out 0).trans rfl
                    have hcz73_1 : wc.cell? ⟨gb259, 1, none⟩ = some (.int .u8 t262) := (blk_cell BK259.out 1).trans rfl
                    have hcz73_2 : wc.cell? ⟨gb259, 2, none⟩ = some (.int .u16 t263) := (blk_cell BK259.out 2).trans rfl
                    have hcz73_3 : wc.cell? ⟨gb259, 3, none⟩ = some (.int .u8 t264) := (blk_cell BK259.out 3).trans rfl
                    have hcz73_4 : wc.cell? ⟨gb259, 4, none⟩ = some (.int .u8 t265) := (blk_cell BK259.out 4).trans rfl
                    have hcz73_5 : wc.cell? ⟨gb259, 5, none⟩ = some (.bool t266) := (blk_cell BK259.out 5).trans rfl
                    have hcz73_6 : wc.cell? ⟨gb259, 6, none⟩ = some (.int .u16 t267) := (blk_cell BK259.out 6).trans rfl
                    have hfz73_0 := blk_frozen BK259.out 0
                    have hfz73_1 := blk_frozen BK259.out 1
                    have hfz73_2 := blk_frozen BK259.out 2
                    have hfz73_3 := blk_frozen BK259.out 3
                    have hfz73_4 := blk_frozen BK259.out 4
                    have hfz73_5 := blk_frozen BK259.out 5
                    have hfz73_6 := blk_frozen BK259.out 6
                    go_wp2
                    go_roundg kj11
                    case measure => have := HK1.out; have := HJ11.out; omega
                    case rel => exact ⟨(x10_11), (x11_1), (wrap64 (x12_1 + 1)), (t261), (t262), (t263), (t264), (t265), (t266), (t267), (by first | rfl | (simp; done) | (simp [*]; done)), (by first | rfl | (simp; done) | (simp [*]; done)), (by first | rfl | (simp; done) | (simp [*]; done)), H', ⟨by have := HK1.out; have := HJ11.out; omega⟩, ⟨by (with_reducible repeat (first | refine blk_drewN ?_ _ | refine blk_drew ?_ | refine blk_alloc ?_ _)); exact BK259.out⟩, ⟨by repeat (first | (with_reducible first | exact HB.out | apply below_alloc | apply pw_below_drewN | apply below_drew1 | refine below_set ?_ GE259.out | refine below_set ?_ GE271.out | refine below_set ?_ GE272.out) | exact HB.out)⟩⟩
                  · rw [if_neg c68] at H
                    have c68b0 : (x12_1 == 65663) = false := beq_eq_false_iff_ne.mpr c68
                    have c68b1 : (x12_1 != 65663) = true := bne_iff_ne.mpr c68
                    obtain rfl := Option.some.inj H
                    have hnb74 := NB272_259.out
                    have hnc74 := NB259_272.out
                    have hnb75 := NB272_271.out
                    have hnc75 := NB271_272.out
                    have hcz76_0 : wc.cell? ⟨gb272, 0, none⟩ = some (.bool true) := (blk_cell BK272.out 0).trans rfl
                    have hcz76_1 : wc.cell? ⟨gb272, 1, none⟩ = some (.bool t269) := (blk_cell BK272.out 1).trans rfl
                    have hcz76_2 : wc.cell? ⟨gb272, 2, none⟩ = some (.bool false) := (blk_cell BK272.out 2).trans rfl
                    have hfz76_0 := blk_frozen BK272.out 0
                    have hfz76_1 := blk_frozen BK272.out 1
                    have hfz76_2 := blk_frozen BK272.out 2
                    have hnb77 := NB259_271.out
                    have hnc77 := NB271_259.out
                    have hcz78_0 : wc.cell? ⟨gb259, 0, none⟩ = some (.bool t261) := (blk_cell BK259.out 0).trans rfl
                    have hcz78_1 : wc.cell? ⟨gb259, 1, none⟩ = some (.int .u8 t262) := (blk_cell BK259.out 1).trans rfl
                    have hcz78_2 : wc.cell? ⟨gb259, 2, none⟩ = some (.int .u16 t263) := (blk_cell BK259.out 2).trans rfl
                    have hcz78_3 : wc.cell? ⟨gb259, 3, none⟩ = some (.int .u8 t264) := (blk_cell BK259.out 3).trans rfl
                    have hcz78_4 : wc.cell? ⟨gb259, 4, none⟩ = some (.int .u8 t265) := (blk_cell BK259.out 4).trans rfl
                    have hcz78_5 : wc.cell? ⟨gb259, 5, none⟩ = some (.bool t266) := (blk_cell BK259.out 5).trans rfl
                    have hcz78_6 : wc.cell? ⟨gb259, 6, none⟩ = some (.int .u16 t267) := (blk_cell BK259.out 6).trans rfl
                    have hfz78_0 := blk_frozen BK259.out 0
                    have hfz78_1 := blk_frozen BK259.out 1
                    have hfz78_2 := blk_frozen BK259.out 2
                    have hfz78_3 := blk_frozen BK259.out 3
                    have hfz78_4 := blk_frozen BK259.out 4
                    have hfz78_5 := blk_frozen BK259.out 5
                    have hfz78_6 := blk_frozen BK259.out 6
                    go_wp2
                    go_ret
                    exact ⟨by first | rfl | (simp [errW_none, errW_some] <;> rfl) | (simp [*, errW_none, errW_some] <;> rfl), by repeat (first | (with_reducible first | exact HB.out | apply below_alloc | apply pw_below_drewN | apply below_drew1 | refine below_set ?_ GE259.out | refine below_set ?_ GE271.out | refine below_set ?_ GE272.out) | exact HB.out)⟩
                · rw [if_neg c67] at H
                  have c67b0 : (t262 == 144) = false := beq_eq_false_iff_ne.mpr c67
                  have c67b1 : (t262 != 144) = true := bne_iff_ne.mpr c67
                  obtain rfl := Option.some.inj H
                  have hnb79 := NB272_259.out
                  have hnc79 := NB259_272.out
                  have hnb80 := NB272_271.out
                  have hnc80 := NB271_272.out
                  have hcz81_0 : wc.cell? ⟨gb272, 0, none⟩ = some (.bool true) := (blk_cell BK272.out 0).trans rfl
                  have hcz81_1 : wc.cell? ⟨gb272, 1, none⟩ = some (.bool t269) := (blk_cell BK272.out 1).trans rfl
                  have hcz81_2 : wc.cell? ⟨gb272, 2, none⟩ = some (.bool false) := (blk_cell BK272.out 2).trans rfl
                  have hfz81_0 := blk_frozen BK272.out 0
                  have hfz81_1 := blk_frozen BK272.out 1
                  have hfz81_2 := blk_frozen BK272.out 2
                  have hnb82 := NB259_271.out
                  have hnc82 := NB271_259.out
                  have hcz83_0 : wc.cell? ⟨gb259, 0, none⟩ = some (.bool t261) := (blk_cell BK259.out 0).trans rfl
                  have hcz83_1 : wc.cell? ⟨gb259, 1, none⟩ = some (.int .u8 t262) := (blk_cell BK259.out 1).trans rfl
                  have hcz83_2 : wc.cell? ⟨gb259, 2, none⟩ = some (.int .u16 t263) := (blk_cell BK259.out 2).trans rfl
                  have hcz83_3 : wc.cell? ⟨gb259, 3, none⟩ = some (.int .u8 t264) := (blk_cell BK259.out 3).trans rfl
                  have hcz83_4 : wc.cell? ⟨gb259, 4, none⟩ = some (.int .u8 t265) := (blk_cell BK259.out 4).trans rfl
                  have hcz83_5 : wc.cell? ⟨gb259, 5, none⟩ = some (.bool t266) := (blk_cell BK259.out 5).trans rfl
                  have hcz83_6 : wc.cell? ⟨gb259, 6, none⟩ = some (.int .u16 t267) := (blk_cell BK259.out 6).trans rfl
                  have hfz83_0 := blk_frozen BK259.out 0
                  have hfz83_1 := blk_frozen BK259.out 1
                  have hfz83_2 := blk_frozen BK259.out 2
                  have hfz83_3 := blk_frozen BK259.out 3
                  have hfz83_4 := blk_frozen BK259.out 4
                  have hfz83_5 := blk_frozen BK259.out 5
                  have hfz83_6 := blk_frozen BK259.out 6
                  go_wp2
                  go_ret
                  exact ⟨by first | rfl | (simp [errW_none, errW_some] <;> rfl) | (simp [*, errW_none, errW_some] <;> rfl), by repeat (first | (with_reducible first | exact HB.out | apply below_alloc | apply pw_below_drewN | apply below_drew1 | refine below_set ?_ GE259.out | refine below_set ?_ GE271.out | refine below_set ?_ GE272.out) | exact HB.out)⟩
              · replace c66 := Bool.eq_false_iff.mpr c66
                subst c66
                have H1 : (whirligiglaw15_LcdFrames.l0 kj11 a0 t250 x10_11 x11_1 (wrap64 (x12_1 + 1)) t261 t262 t263 t264 t265 t266 t267) = some r := by rw [if_neg (show ¬ (false = true) by decide)] at H; exact H
                clear H
                have H := H1
                clear H1
                have H' := Aside0.mk H
                clear H
                have hnb84 := NB272_259.out
                have hnc84 := NB259_272.out
                have hnb85 := NB272_271.out
                have hnc85 := NB271_272.out
                have hcz86_0 : wc.cell? ⟨gb272, 0, none⟩ = some (.bool false) := (blk_cell BK272.out 0).trans rfl
                have hcz86_1 : wc.cell? ⟨gb272, 1, none⟩ = some (.bool t269) := (blk_cell BK272.out 1).trans rfl
                have hcz86_2 : wc.cell? ⟨gb272, 2, none⟩ = some (.bool false) := (blk_cell BK272.out 2).trans rfl
                have hfz86_0 := blk_frozen BK272.out 0
                have hfz86_1 := blk_frozen BK272.out 1
                have hfz86_2 := blk_frozen BK272.out 2
                go_wp2
                go_roundg kj11
                case measure => have := HK1.out; have := HJ11.out; omega
                case rel => exact ⟨(x10_11), (x11_1), (wrap64 (x12_1 + 1)), (t261), (t262), (t263), (t264), (t265), (t266), (t267), (by first | rfl | (simp; done) | (simp [*]; done)), (by first | rfl | (simp; done) | (simp [*]; done)), (by first | rfl | (simp; done) | (simp [*]; done)), H', ⟨by have := HK1.out; have := HJ11.out; omega⟩, ⟨by (with_reducible repeat (first | refine blk_drewN ?_ _ | refine blk_drew ?_ | refine blk_alloc ?_ _)); exact BK259.out⟩, ⟨by repeat (first | (with_reducible first | exact HB.out | apply below_alloc | apply pw_below_drewN | apply below_drew1 | refine below_set ?_ GE259.out | refine below_set ?_ GE271.out | refine below_set ?_ GE272.out) | exact HB.out)⟩⟩
      · rw [if_neg c10] at H
        have c10b0 : decide (x12_1 < 70224) = false := decide_eq_false c10
        clear c10
        by_cases c87 : t250 = true
        · subst c87
          have H1 : (if x10_1 = 1 then (if x11_1 = 144 then (if x260001_1 = 0 then (if x260002_1 = 0 then ((lcd_Mode.f x260000_1 x260001_1 x260002_1 x260003_1 x260004_1 x260005_1 x260006_1).bind fun t260 => (some (t260 == 2))) else (some false)) else (some false)) else (some false)) else (some false)) = some r := by rw [if_pos rfl] at H; exact H
          clear H
          have H := H1
          clear H1
          by_cases c88 : x10_1 = 1
          · rw [if_pos c88] at H
            have c88b0 : (x10_1 == 1) = true := beq_iff_eq.mpr c88
            have c88b1 : (x10_1 != 1) = false := bne_eq_false_iff_eq.mpr c88
            clear c88
            by_cases c89 : x11_1 = 144
            · rw [if_pos c89] at H
              have c89b0 : (x11_1 == 144) = true := beq_iff_eq.mpr c89
              have c89b1 : (x11_1 != 144) = false := bne_eq_false_iff_eq.mpr c89
              clear c89
              by_cases c90 : x260001_1 = 0
              · rw [if_pos c90] at H
                have c90b0 : (x260001_1 == 0) = true := beq_iff_eq.mpr c90
                have c90b1 : (x260001_1 != 0) = false := bne_eq_false_iff_eq.mpr c90
                clear c90
                by_cases c91 : x260002_1 = 0
                · rw [if_pos c91] at H
                  have c91b0 : (x260002_1 == 0) = true := beq_iff_eq.mpr c91
                  have c91b1 : (x260002_1 != 0) = false := bne_eq_false_iff_eq.mpr c91
                  clear c91
                  replace H := Option.bind_eq_some_iff.mp H
                  obtain ⟨t260, A920, H⟩ := H
                  replace H : (some (t260 == 2)) = some r := H
                  have A92 := Aside0.mk A920
                  clear A920
                  obtain rfl := Option.some.inj H
                  have hcz93_0 : wr.cell? ⟨gb259, 0, none⟩ = some (.bool x260000_1) := (blk_cell BK259.out 0).trans rfl
                  have hcz93_1 : wr.cell? ⟨gb259, 1, none⟩ = some (.int .u8 x260001_1) := (blk_cell BK259.out 1).trans rfl
                  have hcz93_2 : wr.cell? ⟨gb259, 2, none⟩ = some (.int .u16 x260002_1) := (blk_cell BK259.out 2).trans rfl
                  have hcz93_3 : wr.cell? ⟨gb259, 3, none⟩ = some (.int .u8 x260003_1) := (blk_cell BK259.out 3).trans rfl
                  have hcz93_4 : wr.cell? ⟨gb259, 4, none⟩ = some (.int .u8 x260004_1) := (blk_cell BK259.out 4).trans rfl
                  have hcz93_5 : wr.cell? ⟨gb259, 5, none⟩ = some (.bool x260005_1) := (blk_cell BK259.out 5).trans rfl
                  have hcz93_6 : wr.cell? ⟨gb259, 6, none⟩ = some (.int .u16 x260006_1) := (blk_cell BK259.out 6).trans rfl
                  have hfz93_0 := blk_frozen BK259.out 0
                  have hfz93_1 := blk_frozen BK259.out 1
                  have hfz93_2 := blk_frozen BK259.out 2
                  have hfz93_3 := blk_frozen BK259.out 3
                  have hfz93_4 := blk_frozen BK259.out 4
                  have hfz93_5 := blk_frozen BK259.out 5
                  have hfz93_6 := blk_frozen BK259.out 6
                  go_wp2_with (first | (go_at_call 16; (with_reducible refine (lcd_Mode.calls x260000_1 x260001_1 x260002_1 x260003_1 x260004_1 x260005_1 x260006_1 t260 _ A92.out).mono ?_); rintro e w94 ⟨rfl, hb⟩; have n0_ := Aside0.mk (blk_below (g := gb259) (o := .cells #[.bool x260000_1, .int .u8 x260001_1, .int .u16 x260002_1, .int .u8 x260003_1, .int .u8 x260004_1, .bool x260005_1, .int .u16 x260006_1] 24 (0, 0)) (by (with_reducible repeat (first | refine blk_drewN ?_ _ | refine blk_drew ?_ | refine blk_alloc ?_ _)); exact BK259.out) hb); have n1_ := Aside0.mk (below_step (by repeat (first | (with_reducible first | exact HB.out | apply below_alloc | apply pw_below_drewN | apply below_drew1 | refine below_set ?_ GE259.out) | exact HB.out)) hb); clear BK259; clear HB; have BK259 := n0_; have HB := n1_; clear n0_ n1_; (try clear hb); (try clear hb2); (try clear hk); (try clear hi)))
                  go_ret
                  exact ⟨by first | rfl | (simp [errW_none, errW_some] <;> rfl) | (simp [*, errW_none, errW_some] <;> rfl), by repeat (first | (with_reducible first | exact HB.out | apply below_alloc | apply pw_below_drewN | apply below_drew1 | refine below_set ?_ GE259.out) | exact HB.out)⟩
                · rw [if_neg c91] at H
                  have c91b0 : (x260002_1 == 0) = false := beq_eq_false_iff_ne.mpr c91
                  have c91b1 : (x260002_1 != 0) = true := bne_iff_ne.mpr c91
                  obtain rfl := Option.some.inj H
                  have hcz95_0 : wr.cell? ⟨gb259, 0, none⟩ = some (.bool x260000_1) := (blk_cell BK259.out 0).trans rfl
                  have hcz95_1 : wr.cell? ⟨gb259, 1, none⟩ = some (.int .u8 x260001_1) := (blk_cell BK259.out 1).trans rfl
                  have hcz95_2 : wr.cell? ⟨gb259, 2, none⟩ = some (.int .u16 x260002_1) := (blk_cell BK259.out 2).trans rfl
                  have hcz95_3 : wr.cell? ⟨gb259, 3, none⟩ = some (.int .u8 x260003_1) := (blk_cell BK259.out 3).trans rfl
                  have hcz95_4 : wr.cell? ⟨gb259, 4, none⟩ = some (.int .u8 x260004_1) := (blk_cell BK259.out 4).trans rfl
                  have hcz95_5 : wr.cell? ⟨gb259, 5, none⟩ = some (.bool x260005_1) := (blk_cell BK259.out 5).trans rfl
                  have hcz95_6 : wr.cell? ⟨gb259, 6, none⟩ = some (.int .u16 x260006_1) := (blk_cell BK259.out 6).trans rfl
                  have hfz95_0 := blk_frozen BK259.out 0
                  have hfz95_1 := blk_frozen BK259.out 1
                  have hfz95_2 := blk_frozen BK259.out 2
                  have hfz95_3 := blk_frozen BK259.out 3
                  have hfz95_4 := blk_frozen BK259.out 4
                  have hfz95_5 := blk_frozen BK259.out 5
                  have hfz95_6 := blk_frozen BK259.out 6
                  go_wp2
                  go_ret
                  exact ⟨by first | rfl | (simp [errW_none, errW_some] <;> rfl) | (simp [*, errW_none, errW_some] <;> rfl), by repeat (first | (with_reducible first | exact HB.out | apply below_alloc | apply pw_below_drewN | apply below_drew1 | refine below_set ?_ GE259.out) | exact HB.out)⟩
              · rw [if_neg c90] at H
                have c90b0 : (x260001_1 == 0) = false := beq_eq_false_iff_ne.mpr c90
                have c90b1 : (x260001_1 != 0) = true := bne_iff_ne.mpr c90
                obtain rfl := Option.some.inj H
                have hcz96_0 : wr.cell? ⟨gb259, 0, none⟩ = some (.bool x260000_1) := (blk_cell BK259.out 0).trans rfl
                have hcz96_1 : wr.cell? ⟨gb259, 1, none⟩ = some (.int .u8 x260001_1) := (blk_cell BK259.out 1).trans rfl
                have hcz96_2 : wr.cell? ⟨gb259, 2, none⟩ = some (.int .u16 x260002_1) := (blk_cell BK259.out 2).trans rfl
                have hcz96_3 : wr.cell? ⟨gb259, 3, none⟩ = some (.int .u8 x260003_1) := (blk_cell BK259.out 3).trans rfl
                have hcz96_4 : wr.cell? ⟨gb259, 4, none⟩ = some (.int .u8 x260004_1) := (blk_cell BK259.out 4).trans rfl
                have hcz96_5 : wr.cell? ⟨gb259, 5, none⟩ = some (.bool x260005_1) := (blk_cell BK259.out 5).trans rfl
                have hcz96_6 : wr.cell? ⟨gb259, 6, none⟩ = some (.int .u16 x260006_1) := (blk_cell BK259.out 6).trans rfl
                have hfz96_0 := blk_frozen BK259.out 0
                have hfz96_1 := blk_frozen BK259.out 1
                have hfz96_2 := blk_frozen BK259.out 2
                have hfz96_3 := blk_frozen BK259.out 3
                have hfz96_4 := blk_frozen BK259.out 4
                have hfz96_5 := blk_frozen BK259.out 5
                have hfz96_6 := blk_frozen BK259.out 6
                go_wp2
                go_ret
                exact ⟨by first | rfl | (simp [errW_none, errW_some] <;> rfl) | (simp [*, errW_none, errW_some] <;> rfl), by repeat (first | (with_reducible first | exact HB.out | apply below_alloc | apply pw_below_drewN | apply below_drew1 | refine below_set ?_ GE259.out) | exact HB.out)⟩
            · rw [if_neg c89] at H
              have c89b0 : (x11_1 == 144) = false := beq_eq_false_iff_ne.mpr c89
              have c89b1 : (x11_1 != 144) = true := bne_iff_ne.mpr c89
              obtain rfl := Option.some.inj H
              go_wp2
              go_ret
              exact ⟨by first | rfl | (simp [errW_none, errW_some] <;> rfl) | (simp [*, errW_none, errW_some] <;> rfl), by repeat (first | (with_reducible first | exact HB.out | apply below_alloc | apply pw_below_drewN | apply below_drew1 | refine below_set ?_ GE259.out) | exact HB.out)⟩
          · rw [if_neg c88] at H
            have c88b0 : (x10_1 == 1) = false := beq_eq_false_iff_ne.mpr c88
            have c88b1 : (x10_1 != 1) = true := bne_iff_ne.mpr c88
            obtain rfl := Option.some.inj H
            go_wp2
            go_ret
            exact ⟨by first | rfl | (simp [errW_none, errW_some] <;> rfl) | (simp [*, errW_none, errW_some] <;> rfl), by repeat (first | (with_reducible first | exact HB.out | apply below_alloc | apply pw_below_drewN | apply below_drew1 | refine below_set ?_ GE259.out) | exact HB.out)⟩
        · replace c87 := Bool.eq_false_iff.mpr c87
          subst c87
          have H1 : (some false) = some r := by rw [if_neg (show ¬ (false = true) by decide)] at H; exact H
          clear H
          have H := H1
          clear H1
          obtain rfl := Option.some.inj H
          go_wp2
          go_ret
          exact ⟨by first | rfl | (simp [errW_none, errW_some] <;> rfl) | (simp [*, errW_none, errW_some] <;> rfl), by repeat (first | (with_reducible first | exact HB.out | apply below_alloc | apply pw_below_drewN | apply below_drew1 | refine below_set ?_ GE259.out) | exact HB.out)⟩

/-- THE ONE PURE STATEMENT of whirligiglaw15_LcdFrames: yours. -/
def whirligiglaw15_LcdFrames.Pure : Prop := ∀ (a0 : Int) (a1 : Int) (a2 : Int), (Lit.int .u16 a0).wf = true → (Lit.int .u8 a1).wf = true → (Lit.int .u8 a2).wf = true → ∃ k, whirligiglaw15_LcdFrames.f k a0 a1 a2 = some true
theorem whirligiglaw15_LcdFrames.walk (P : whirligiglaw15_LcdFrames.Pure) (a0 : Int) (a1 : Int) (a2 : Int) (w : World) (w0 : (Lit.int .u16 a0).wf = true) (w1 : (Lit.int .u8 a1).wf = true) (w2 : (Lit.int .u8 a2).wf = true) :
    Calls Try.prog 8 #[.int .u16 a0, .int .u8 a1, .int .u8 a2] w fun e w' => e = .returned (.bool true) ∧ Below w.heap.size w w' := by
  obtain ⟨k, h⟩ := P a0 a1 a2 w0 w1 w2
  refine (whirligiglaw15_LcdFrames.calls k a0 a1 a2 true w h).mono ?_
  rintro e w' ⟨rfl, hd⟩
  exact ⟨rfl, hd⟩

end Go.Proofs.Ytiponhdcjccmaaa.P
