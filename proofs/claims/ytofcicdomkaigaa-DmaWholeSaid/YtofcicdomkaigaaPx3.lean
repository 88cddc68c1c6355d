/- Contracts of Go functions of this seat: each Lean function here is what the Go function of its name answers, in every memory; no condition but the equations that each theorem states. Written by a program of this session (wip/given.py); Lean checks it. -/
import Derived.Test.YtofcicdomkaigaaPx0
import Derived.Test.YtofcicdomkaigaaPx2
namespace Go.Proofs.Ytofcicdomkaigaa.P
open Go.RowKit Go.Proofs.YtofcicdomkaigaaW.PrintWords Go.Proofs.YtofcicdomkaigaaW.PrintLast Go.Proofs.YtofcicdomkaigaaW.PrintMore
attribute [local go_sem] max2_int min2_int max_two min_two max_three min_three max_four min_four   -- for this text's walks alone
set_option linter.unusedVariables false
set_option linter.unusedSimpArgs false

/-! ### whirligiglaw19_shown: function 8 -/
def whirligiglaw19_shown.l0 : Nat → Int → Bool → Int → Int → Int → Int → Option (Bool)
  | 0, _, _, _, _, _, _ => none
  | k + 1, x2, x109000, x109001, x109002, x109003, x109004 => if x2 < 2 then ((dma_Step.f x109000 x109001 x109002 x109003 x109004).bind fun bt109 => (if bt109.2.2.2.2.2.2.2 = true then (some false) else (whirligiglaw19_shown.l0 k (wrap64 (x2 + 1)) bt109.1 bt109.2.1 bt109.2.2.1 bt109.2.2.2.1 bt109.2.2.2.2.1))) else ((dma_Step.f x109000 x109001 x109002 x109003 x109004).bind fun bt118 => (if bt118.2.2.2.2.2.1 = 49152 then (if bt118.2.2.2.2.2.2.1 = 0 then (if bt118.2.2.2.2.2.2.2 = true then (if bt118.1 = true then (if bt118.2.2.1 = 1 then ((dma_Source.f 254 3).bind fun t126 => (some (t126 == 56835))) else (some false)) else (some false)) else (some false)) else (some false)) else (some false)))
def whirligiglaw19_shown.f (k : Nat)  : Option (Bool) := (dma_Write.f false 0 0 0 0 192).bind fun bt103 => (whirligiglaw19_shown.l0 k 0 bt103.1 bt103.2.1 bt103.2.2.1 bt103.2.2.2.1 bt103.2.2.2.2)
theorem whirligiglaw19_shown.mono_l : ∀ k, (∀ y0 y1 y2 y3 y4 y5, LeO (whirligiglaw19_shown.l0 k y0 y1 y2 y3 y4 y5) (whirligiglaw19_shown.l0 (k + 1) y0 y1 y2 y3 y4 y5))
  | 0 => fun _ _ _ _ _ _ r h => by simp [whirligiglaw19_shown.l0] at h
  | k + 1 => by
    have ih0 := whirligiglaw19_shown.mono_l k
    · intro y0 y1 y2 y3 y4 y5
      unfold whirligiglaw19_shown.l0
      repeat' first
      | (with_reducible exact ih0 _ _ _ _ _ _)
      | (with_reducible exact LeO.refl _)
      | (with_reducible exact LeO.none _)
      | (with_reducible refine LeO.ite ?_ ?_)
      | (with_reducible refine LeO.bind ?_ (fun _ => ?_))
      | exact ih0 _ _ _ _ _ _
      | exact LeO.none _
      | refine LeO.ite ?_ ?_
      | refine LeO.bind ?_ (fun _ => ?_)
theorem whirligiglaw19_shown.mono : ∀ k, LeO (whirligiglaw19_shown.f k ) (whirligiglaw19_shown.f (k + 1) ) := by
  intro  k
  have ih0 := whirligiglaw19_shown.mono_l k
  unfold whirligiglaw19_shown.f
  repeat' first
      | (with_reducible exact ih0 _ _ _ _ _ _)
      | (with_reducible exact LeO.refl _)
      | (with_reducible exact LeO.none _)
      | (with_reducible refine LeO.ite ?_ ?_)
      | (with_reducible refine LeO.bind ?_ (fun _ => ?_))
      | exact ih0 _ _ _ _ _ _
      | exact LeO.none _
      | refine LeO.ite ?_ ?_
      | refine LeO.bind ?_ (fun _ => ?_)
set_option maxHeartbeats 8000000 in
set_option maxRecDepth 100000 in
theorem whirligiglaw19_shown.calls (k : Nat)  (r : Bool) (w : World) (h : whirligiglaw19_shown.f k  = some r) :
    Calls Try.prog 8 #[] w fun e w' => e = .returned (.bool r) ∧ Below w.heap.size w w' := by
  have hu27 := Try.underlying27
  have HB := Aside0.mk (Below.refl w.heap.size w)
  have H : ((dma_Write.f false 0 0 0 0 192).bind fun bt103 => (whirligiglaw19_shown.l0 k 0 bt103.1 bt103.2.1 bt103.2.2.1 bt103.2.2.2.1 bt103.2.2.2.2)) = some r := h
  clear h
  replace H := Option.bind_eq_some_iff.mp H
  obtain ⟨⟨t103, t104, t105, t106, t107⟩, A10, H⟩ := H
  replace H : (whirligiglaw19_shown.l0 k 0 t103 t104 t105 t106 t107) = some r := H
  have A1 := Aside0.mk A10
  clear A10
  have H' := Aside0.mk H
  clear H
  go_enter Try.func8, Try.ntmps8
  go_wp2_with (first | ((with_reducible refine gate_callee (f := 13) rfl ?_); refine goesL_ (some 11) rfl rfl Try.func13 (by kernel_rfl) rfl #[.agg #[.bool false, .int .u8 0, .int .u8 0, .int .u8 0, .int .u8 0], .int .u8 192] rfl (by (try simp only [List.map_toArray, List.map_cons, List.map_nil]); first | done | rfl | (simp only [List.length_drop, List.length_take]; rfl)) ?_; (with_reducible refine (dma_Write.calls false 0 0 0 0 192 t103 t104 t105 t106 t107 _ A1.out).mono ?_); rintro e w2 ⟨rfl, hb⟩; refine ⟨_, rfl, ?_⟩; have n0_ := Aside0.mk (below_step (by repeat (first | (with_reducible first | exact HB.out | apply below_alloc | apply pw_below_drewN | apply below_drew1) | exact HB.out)) hb); clear HB; have HB := n0_; clear n0_; (try clear hb); (try clear hb2); (try clear hk); (try clear hi)) | ((with_reducible refine gate_dst (N := 1) rfl ?_); refine box_event ?hg (N := 1) ?hd (cs := #[.bool false, .int .u8 0, .int .u8 0, .int .u8 0, .int .u8 0]) (t := 27) ?hr ?_; (case hd => rfl); (case hg => rfl); (case hr => first | (go_simp; done) | (go_simp; rfl)); intro gb108 hg w3 hbox hb; have n0_ := Aside0.mk (below_step (by repeat (first | (with_reducible first | exact HB.out | apply below_alloc | apply pw_below_drewN | apply below_drew1) | exact HB.out)) hb); have n1_ := Aside0.mk (hbox); have n2_ := Aside0.mk ((by rw [hg]; exact (below_size (by repeat (first | (with_reducible first | exact HB.out | apply below_alloc | apply pw_below_drewN | apply below_drew1) | exact HB.out))) : w.heap.size ≤ gb108)); have n3_ := Aside0.mk ((by rw [hg]; exact (below_size (by repeat (first | (with_reducible first | exact HB.out | apply below_alloc | apply pw_below_drewN | apply below_drew1) | exact HB.out))) : w.heap.size ≤ gb108)); clear HB; have HB := n0_; have BK108 := n1_; have GW108 := n2_; have GE108 := n3_; clear n0_ n1_ n2_ n3_; clear hb hbox hg; have hcz4_0 : w3.cell? ⟨gb108, 0, none⟩ = some (.bool false) := (blk_cell BK108.out 0).trans rfl; have hcz4_1 : w3.cell? ⟨gb108, 1, none⟩ = some (.int .u8 0) := (blk_cell BK108.out 1).trans rfl; have hcz4_2 : w3.cell? ⟨gb108, 2, none⟩ = some (.int .u8 0) := (blk_cell BK108.out 2).trans rfl; have hcz4_3 : w3.cell? ⟨gb108, 3, none⟩ = some (.int .u8 0) := (blk_cell BK108.out 3).trans rfl; have hcz4_4 : w3.cell? ⟨gb108, 4, none⟩ = some (.int .u8 0) := (blk_cell BK108.out 4).trans rfl; have hfz4_0 := blk_frozen BK108.out 0; have hfz4_1 := blk_frozen BK108.out 1; have hfz4_2 := blk_frozen BK108.out 2; have hfz4_3 := blk_frozen BK108.out 3; have hfz4_4 := blk_frozen BK108.out 4))
  go_loopg [2] k (fun kq v2 w' => ∃ (x2_1 : Int) (x109000_1 : Bool) (x109001_1 : Int) (x109002_1 : Int) (x109003_1 : Int) (x109004_1 : Int), v2 = .int .i64 x2_1 ∧ Aside0 (whirligiglaw19_shown.l0 kq x2_1 x109000_1 x109001_1 x109002_1 x109003_1 x109004_1 = some r) ∧ Aside0 (kq ≤ k) ∧ Aside0 (w'.heap[gb108]? = some (.cells #[.bool x109000_1, .int .u8 x109001_1, .int .u8 x109002_1, .int .u8 x109003_1, .int .u8 x109004_1] 27 (0, 0))) ∧ Aside0 (Below w.heap.size w w'))
  case atStart => exact ⟨(0), (t103), (t104), (t105), (t106), (t107), (by first | rfl | (simp; done) | (simp [*]; done)), H', ⟨Nat.le_refl _⟩, ⟨by (with_reducible repeat (first | refine blk_drewN ?_ _ | refine blk_drew ?_ | refine blk_alloc ?_ _)); refine blk_put (cs := #[.bool t103, .int .u8 t104, .int .u8 t105, .int .u8 t106, .int .u8 0]) ?_ 4 _ rfl; (with_reducible repeat (first | refine blk_drewN ?_ _ | refine blk_drew ?_ | refine blk_alloc ?_ _)); refine blk_put (cs := #[.bool t103, .int .u8 t104, .int .u8 t105, .int .u8 0, .int .u8 0]) ?_ 3 _ rfl; (with_reducible repeat (first | refine blk_drewN ?_ _ | refine blk_drew ?_ | refine blk_alloc ?_ _)); refine blk_put (cs := #[.bool t103, .int .u8 t104, .int .u8 0, .int .u8 0, .int .u8 0]) ?_ 2 _ rfl; (with_reducible repeat (first | refine blk_drewN ?_ _ | refine blk_drew ?_ | refine blk_alloc ?_ _)); refine blk_put (cs := #[.bool t103, .int .u8 0, .int .u8 0, .int .u8 0, .int .u8 0]) ?_ 1 _ rfl; (with_reducible repeat (first | refine blk_drewN ?_ _ | refine blk_drew ?_ | refine blk_alloc ?_ _)); refine blk_put (cs := #[.bool false, .int .u8 0, .int .u8 0, .int .u8 0, .int .u8 0]) ?_ 0 _ rfl; (with_reducible repeat (first | refine blk_drewN ?_ _ | refine blk_drew ?_ | refine blk_alloc ?_ _)); exact BK108.out⟩, ⟨by repeat (first | (with_reducible first | exact HB.out | apply below_alloc | apply pw_below_drewN | apply below_drew1 | refine below_set ?_ GE108.out) | exact HB.out)⟩⟩
  case round =>
    clear H'
    try clear c1
    try clear p2
    try clear hcz4_0
    try clear hcz4_1
    try clear hcz4_2
    try clear hcz4_3
    try clear hcz4_4
    try clear hfz4_0
    try clear hfz4_1
    try clear hfz4_2
    try clear hfz4_3
    try clear hfz4_4
    obtain ⟨x2_1, x109000_1, x109001_1, x109002_1, x109003_1, x109004_1, rfl, HA, HK1, BK108, HB⟩ := hrel
    cases gk with
    | zero => exact absurd HA.out (by simp [whirligiglaw19_shown.l0])
    | succ k1 =>
      have H := HA.out
      clear HA
      simp only [whirligiglaw19_shown.l0] at H
      by_cases c5 : x2_1 < 2
      · rw [if_pos c5] at H
        have c5b0 : decide (x2_1 < 2) = true := decide_eq_true c5
        clear c5
        replace H := Option.bind_eq_some_iff.mp H
        obtain ⟨⟨t109, t110, t111, t112, t113, t114, t115, t116⟩, A60, H⟩ := H
        replace H : (if t116 = true then (some false) else (whirligiglaw19_shown.l0 k1 (wrap64 (x2_1 + 1)) t109 t110 t111 t112 t113)) = some r := H
        have A6 := Aside0.mk A60
        clear A60
        by_cases c7 : t116 = true
        · subst c7
          have H1 : (some false) = some r := by rw [if_pos rfl] at H; exact H
          clear H
          have H := H1
          clear H1
          obtain rfl := Option.some.inj H
          have hcz8_0 : wr.cell? ⟨gb108, 0, none⟩ = some (.bool x109000_1) := (blk_cell BK108.out 0).trans rfl
          have hcz8_1 : wr.cell? ⟨gb108, 1, none⟩ = some (.int .u8 x109001_1) := (blk_cell BK108.out 1).trans rfl
          have hcz8_2 : wr.cell? ⟨gb108, 2, none⟩ = some (.int .u8 x109002_1) := (blk_cell BK108.out 2).trans rfl
          have hcz8_3 : wr.cell? ⟨gb108, 3, none⟩ = some (.int .u8 x109003_1) := (blk_cell BK108.out 3).trans rfl
          have hcz8_4 : wr.cell? ⟨gb108, 4, none⟩ = some (.int .u8 x109004_1) := (blk_cell BK108.out 4).trans rfl
          have hfz8_0 := blk_frozen BK108.out 0
          have hfz8_1 := blk_frozen BK108.out 1
          have hfz8_2 := blk_frozen BK108.out 2
          have hfz8_3 := blk_frozen BK108.out 3
          have hfz8_4 := blk_frozen BK108.out 4
          go_wp2_with (first | ((with_reducible refine gate_callee (f := 11) rfl ?_); refine goesL_ (some 18) rfl rfl Try.func11 (by kernel_rfl) rfl #[.agg #[.bool x109000_1, .int .u8 x109001_1, .int .u8 x109002_1, .int .u8 x109003_1, .int .u8 x109004_1]] rfl (by (try simp only [List.map_toArray, List.map_cons, List.map_nil]); first | done | rfl | (simp only [List.length_drop, List.length_take]; rfl)) ?_; (with_reducible refine (dma_Step.calls x109000_1 x109001_1 x109002_1 x109003_1 x109004_1 t109 t110 t111 t112 t113 t114 t115 true _ A6.out).mono ?_); rintro e w9 ⟨rfl, hb⟩; refine ⟨_, rfl, ?_⟩; have n0_ := Aside0.mk (blk_below (g := gb108) (o := .cells #[.bool x109000_1, .int .u8 x109001_1, .int .u8 x109002_1, .int .u8 x109003_1, .int .u8 x109004_1] 27 (0, 0)) (by (with_reducible repeat (first | refine blk_drewN ?_ _ | refine blk_drew ?_ | refine blk_alloc ?_ _)); exact BK108.out) hb); have n1_ := Aside0.mk (below_step (by repeat (first | (with_reducible first | exact HB.out | apply below_alloc | apply pw_below_drewN | apply below_drew1 | refine below_set ?_ GE108.out) | exact HB.out)) hb); clear BK108; clear HB; have BK108 := n0_; have HB := n1_; clear n0_ n1_; (try clear hb); (try clear hb2); (try clear hk); (try clear hi)) | ((with_reducible refine gate_dst (N := 3) rfl ?_); refine box_event ?hg (N := 3) ?hd (cs := #[.bool false, .int .u8 0, .int .u8 0, .int .u8 0, .int .u8 0]) (t := 27) ?hr ?_; (case hd => rfl); (case hg => rfl); (case hr => first | (go_simp; done) | (go_simp; rfl)); intro gb117 hg w10 hbox hb; have n0_ := Aside0.mk (blk_below (g := gb108) (o := .cells #[.bool x109000_1, .int .u8 x109001_1, .int .u8 x109002_1, .int .u8 x109003_1, .int .u8 x109004_1] 27 (0, 0)) (by (with_reducible repeat (first | refine blk_drewN ?_ _ | refine blk_drew ?_ | refine blk_alloc ?_ _)); exact BK108.out) hb); have n1_ := Aside0.mk (below_step (by repeat (first | (with_reducible first | exact HB.out | apply below_alloc | apply pw_below_drewN | apply below_drew1 | refine below_set ?_ GE108.out) | exact HB.out)) hb); have n2_ := Aside0.mk (hbox); have n3_ := Aside0.mk ((by rw [hg]; exact (below_size (by repeat (first | (with_reducible first | exact HB.out | apply below_alloc | apply pw_below_drewN | apply below_drew1 | refine below_set ?_ GE108.out) | exact HB.out))) : w.heap.size ≤ gb117)); have n4_ := Aside0.mk ((by rw [hg]; exact (below_size (by repeat (first | (with_reducible first | exact HB.out | apply below_alloc | apply pw_below_drewN | apply below_drew1 | refine below_set ?_ GE108.out) | exact HB.out))) : w.heap.size ≤ gb117)); have n5_ := Aside0.mk ((by rw [hg]; exact Nat.ne_of_lt (blk_lt (g := gb108) (o := .cells #[.bool x109000_1, .int .u8 x109001_1, .int .u8 x109002_1, .int .u8 x109003_1, .int .u8 x109004_1] 27 (0, 0)) (by (with_reducible repeat (first | refine blk_drewN ?_ _ | refine blk_drew ?_ | refine blk_alloc ?_ _)); exact BK108.out)) : gb108 ≠ gb117)); have n6_ := Aside0.mk ((by rw [hg]; exact Nat.ne_of_gt (blk_lt (g := gb108) (o := .cells #[.bool x109000_1, .int .u8 x109001_1, .int .u8 x109002_1, .int .u8 x109003_1, .int .u8 x109004_1] 27 (0, 0)) (by (with_reducible repeat (first | refine blk_drewN ?_ _ | refine blk_drew ?_ | refine blk_alloc ?_ _)); exact BK108.out)) : gb117 ≠ gb108)); clear BK108; clear HB; have BK108 := n0_; have HB := n1_; have BK117 := n2_; have GW117 := n3_; have GE117 := n4_; have NB108_117 := n5_; have NB117_108 := n6_; clear n0_ n1_ n2_ n3_ n4_ n5_ n6_; clear hb hbox hg; have hnb11 := NB117_108.out; have hnc11 := NB108_117.out; have hcz12_0 : w10.cell? ⟨gb117, 0, none⟩ = some (.bool false) := (blk_cell BK117.out 0).trans rfl; have hcz12_1 : w10.cell? ⟨gb117, 1, none⟩ = some (.int .u8 0) := (blk_cell BK117.out 1).trans rfl; have hcz12_2 : w10.cell? ⟨gb117, 2, none⟩ = some (.int .u8 0) := (blk_cell BK117.out 2).trans rfl; have hcz12_3 : w10.cell? ⟨gb117, 3, none⟩ = some (.int .u8 0) := (blk_cell BK117.out 3).trans rfl; have hcz12_4 : w10.cell? ⟨gb117, 4, none⟩ = some (.int .u8 0) := (blk_cell BK117.out 4).trans rfl; have hfz12_0 := blk_frozen BK117.out 0; have hfz12_1 := blk_frozen BK117.out 1; have hfz12_2 := blk_frozen BK117.out 2; have hfz12_3 := blk_frozen BK117.out 3; have hfz12_4 := blk_frozen BK117.out 4))
          go_ret
          exact ⟨by first | rfl | (simp [errW_none, errW_some] <;> rfl) | (simp [*, errW_none, errW_some] <;> rfl), by repeat (first | (with_reducible first | exact HB.out | apply below_alloc | apply pw_below_drewN | apply below_drew1 | refine below_set ?_ GE108.out | refine below_set ?_ GE117.out) | exact HB.out)⟩
        · replace c7 := Bool.eq_false_iff.mpr c7
          subst c7
          have H1 : (whirligiglaw19_shown.l0 k1 (wrap64 (x2_1 + 1)) t109 t110 t111 t112 t113) = some r := by rw [if_neg (show ¬ (false = true) by decide)] at H; exact H
          clear H
          have H := H1
          clear H1
          have H' := Aside0.mk H
          clear H
          have hcz13_0 : wr.cell? ⟨gb108, 0, none⟩ = some (.bool x109000_1) := (blk_cell BK108.out 0).trans rfl
          have hcz13_1 : wr.cell? ⟨gb108, 1, none⟩ = some (.int .u8 x109001_1) := (blk_cell BK108.out 1).trans rfl
          have hcz13_2 : wr.cell? ⟨gb108, 2, none⟩ = some (.int .u8 x109002_1) := (blk_cell BK108.out 2).trans rfl
          have hcz13_3 : wr.cell? ⟨gb108, 3, none⟩ = some (.int .u8 x109003_1) := (blk_cell BK108.out 3).trans rfl
          have hcz13_4 : wr.cell? ⟨gb108, 4, none⟩ = some (.int .u8 x109004_1) := (blk_cell BK108.out 4).trans rfl
          have hfz13_0 := blk_frozen BK108.out 0
          have hfz13_1 := blk_frozen BK108.out 1
          have hfz13_2 := blk_frozen BK108.out 2
          have hfz13_3 := blk_frozen BK108.out 3
          have hfz13_4 := blk_frozen BK108.out 4
          go_wp2_with (first | ((with_reducible refine gate_callee (f := 11) rfl ?_); refine goesL_ (some 18) rfl rfl Try.func11 (by kernel_rfl) rfl #[.agg #[.bool x109000_1, .int .u8 x109001_1, .int .u8 x109002_1, .int .u8 x109003_1, .int .u8 x109004_1]] rfl (by (try simp only [List.map_toArray, List.map_cons, List.map_nil]); first | done | rfl | (simp only [List.length_drop, List.length_take]; rfl)) ?_; (with_reducible refine (dma_Step.calls x109000_1 x109001_1 x109002_1 x109003_1 x109004_1 t109 t110 t111 t112 t113 t114 t115 false _ A6.out).mono ?_); rintro e w14 ⟨rfl, hb⟩; refine ⟨_, rfl, ?_⟩; have n0_ := Aside0.mk (blk_below (g := gb108) (o := .cells #[.bool x109000_1, .int .u8 x109001_1, .int .u8 x109002_1, .int .u8 x109003_1, .int .u8 x109004_1] 27 (0, 0)) (by (with_reducible repeat (first | refine blk_drewN ?_ _ | refine blk_drew ?_ | refine blk_alloc ?_ _)); exact BK108.out) hb); have n1_ := Aside0.mk (below_step (by repeat (first | (with_reducible first | exact HB.out | apply below_alloc | apply pw_below_drewN | apply below_drew1 | refine below_set ?_ GE108.out) | exact HB.out)) hb); clear BK108; clear HB; have BK108 := n0_; have HB := n1_; clear n0_ n1_; (try clear hb); (try clear hb2); (try clear hk); (try clear hi)) | ((with_reducible refine gate_dst (N := 3) rfl ?_); refine box_event ?hg (N := 3) ?hd (cs := #[.bool false, .int .u8 0, .int .u8 0, .int .u8 0, .int .u8 0]) (t := 27) ?hr ?_; (case hd => rfl); (case hg => rfl); (case hr => first | (go_simp; done) | (go_simp; rfl)); intro gb117 hg w15 hbox hb; have n0_ := Aside0.mk (blk_below (g := gb108) (o := .cells #[.bool x109000_1, .int .u8 x109001_1, .int .u8 x109002_1, .int .u8 x109003_1, .int .u8 x109004_1] 27 (0, 0)) (by (with_reducible repeat (first | refine blk_drewN ?_ _ | refine blk_drew ?_ | refine blk_alloc ?_ _)); exact BK108.out) hb); have n1_ := Aside0.mk (below_step (by repeat (first | (with_reducible first | exact HB.out | apply below_alloc | apply pw_below_drewN | apply below_drew1 | refine below_set ?_ GE108.out) | exact HB.out)) hb); have n2_ := Aside0.mk (hbox); have n3_ := Aside0.mk ((by rw [hg]; exact (below_size (by repeat (first | (with_reducible first | exact HB.out | apply below_alloc | apply pw_below_drewN | apply below_drew1 | refine below_set ?_ GE108.out) | exact HB.out))) : w.heap.size ≤ gb117)); have n4_ := Aside0.mk ((by rw [hg]; exact (below_size (by repeat (first | (with_reducible first | exact HB.out | apply below_alloc | apply pw_below_drewN | apply below_drew1 | refine below_set ?_ GE108.out) | exact HB.out))) : w.heap.size ≤ gb117)); have n5_ := Aside0.mk ((by rw [hg]; exact Nat.ne_of_lt (blk_lt (g := gb108) (o := .cells #[.bool x109000_1, .int .u8 x109001_1, .int .u8 x109002_1, .int .u8 x109003_1, .int .u8 x109004_1] 27 (0, 0)) (by (with_reducible repeat (first | refine blk_drewN ?_ _ | refine blk_drew ?_ | refine blk_alloc ?_ _)); exact BK108.out)) : gb108 ≠ gb117)); have n6_ := Aside0.mk ((by rw [hg]; exact Nat.ne_of_gt (blk_lt (g := gb108) (o := .cells #[.bool x109000_1, .int .u8 x109001_1, .int .u8 x109002_1, .int .u8 x109003_1, .int .u8 x109004_1] 27 (0, 0)) (by (with_reducible repeat (first | refine blk_drewN ?_ _ | refine blk_drew ?_ | refine blk_alloc ?_ _)); exact BK108.out)) : gb117 ≠ gb108)); clear BK108; clear HB; have BK108 := n0_; have HB := n1_; have BK117 := n2_; have GW117 := n3_; have GE117 := n4_; have NB108_117 := n5_; have NB117_108 := n6_; clear n0_ n1_ n2_ n3_ n4_ n5_ n6_; clear hb hbox hg; have hnb16 := NB117_108.out; have hnc16 := NB108_117.out; have hcz17_0 : w15.cell? ⟨gb117, 0, none⟩ = some (.bool false) := (blk_cell BK117.out 0).trans rfl; have hcz17_1 : w15.cell? ⟨gb117, 1, none⟩ = some (.int .u8 0) := (blk_cell BK117.out 1).trans rfl; have hcz17_2 : w15.cell? ⟨gb117, 2, none⟩ = some (.int .u8 0) := (blk_cell BK117.out 2).trans rfl; have hcz17_3 : w15.cell? ⟨gb117, 3, none⟩ = some (.int .u8 0) := (blk_cell BK117.out 3).trans rfl; have hcz17_4 : w15.cell? ⟨gb117, 4, none⟩ = some (.int .u8 0) := (blk_cell BK117.out 4).trans rfl; have hfz17_0 := blk_frozen BK117.out 0; have hfz17_1 := blk_frozen BK117.out 1; have hfz17_2 := blk_frozen BK117.out 2; have hfz17_3 := blk_frozen BK117.out 3; have hfz17_4 := blk_frozen BK117.out 4; have hcz18_0 : w15.cell? ⟨gb108, 0, none⟩ = some (.bool x109000_1) := (blk_cell BK108.out 0).trans rfl; have hcz18_1 : w15.cell? ⟨gb108, 1, none⟩ = some (.int .u8 x109001_1) := (blk_cell BK108.out 1).trans rfl; have hcz18_2 : w15.cell? ⟨gb108, 2, none⟩ = some (.int .u8 x109002_1) := (blk_cell BK108.out 2).trans rfl; have hcz18_3 : w15.cell? ⟨gb108, 3, none⟩ = some (.int .u8 x109003_1) := (blk_cell BK108.out 3).trans rfl; have hcz18_4 : w15.cell? ⟨gb108, 4, none⟩ = some (.int .u8 x109004_1) := (blk_cell BK108.out 4).trans rfl; have hfz18_0 := blk_frozen BK108.out 0; have hfz18_1 := blk_frozen BK108.out 1; have hfz18_2 := blk_frozen BK108.out 2; have hfz18_3 := blk_frozen BK108.out 3; have hfz18_4 := blk_frozen BK108.out 4))
          go_roundg k1
          case measure => have := HK1.out; omega
          case rel => exact ⟨(wrap64 (x2_1 + 1)), (t109), (t110), (t111), (t112), (t113), (by first | rfl | (simp; done) | (simp [*]; done)), H', ⟨by have := HK1.out; omega⟩, ⟨by (with_reducible repeat (first | refine blk_drewN ?_ _ | refine blk_drew ?_ | refine blk_alloc ?_ _)); refine blk_put (cs := #[.bool t109, .int .u8 t110, .int .u8 t111, .int .u8 t112, .int .u8 x109004_1]) ?_ 4 _ rfl; (with_reducible repeat (first | refine blk_drewN ?_ _ | refine blk_drew ?_ | refine blk_alloc ?_ _)); refine blk_put (cs := #[.bool t109, .int .u8 t110, .int .u8 t111, .int .u8 x109003_1, .int .u8 x109004_1]) ?_ 3 _ rfl; (with_reducible repeat (first | refine blk_drewN ?_ _ | refine blk_drew ?_ | refine blk_alloc ?_ _)); refine blk_put (cs := #[.bool t109, .int .u8 t110, .int .u8 x109002_1, .int .u8 x109003_1, .int .u8 x109004_1]) ?_ 2 _ rfl; (with_reducible repeat (first | refine blk_drewN ?_ _ | refine blk_drew ?_ | refine blk_alloc ?_ _)); refine blk_put (cs := #[.bool t109, .int .u8 x109001_1, .int .u8 x109002_1, .int .u8 x109003_1, .int .u8 x109004_1]) ?_ 1 _ rfl; (with_reducible repeat (first | refine blk_drewN ?_ _ | refine blk_drew ?_ | refine blk_alloc ?_ _)); refine blk_put (cs := #[.bool x109000_1, .int .u8 x109001_1, .int .u8 x109002_1, .int .u8 x109003_1, .int .u8 x109004_1]) ?_ 0 _ rfl; (with_reducible repeat (first | refine blk_drewN ?_ _ | refine blk_drew ?_ | refine blk_alloc ?_ _)); refine blk_far ?_ NB108_117.out _; (with_reducible repeat (first | refine blk_drewN ?_ _ | refine blk_drew ?_ | refine blk_alloc ?_ _)); refine blk_far ?_ NB108_117.out _; (with_reducible repeat (first | refine blk_drewN ?_ _ | refine blk_drew ?_ | refine blk_alloc ?_ _)); refine blk_far ?_ NB108_117.out _; (with_reducible repeat (first | refine blk_drewN ?_ _ | refine blk_drew ?_ | refine blk_alloc ?_ _)); refine blk_far ?_ NB108_117.out _; (with_reducible repeat (first | refine blk_drewN ?_ _ | refine blk_drew ?_ | refine blk_alloc ?_ _)); refine blk_far ?_ NB108_117.out _; (with_reducible repeat (first | refine blk_drewN ?_ _ | refine blk_drew ?_ | refine blk_alloc ?_ _)); exact BK108.out⟩, ⟨by repeat (first | (with_reducible first | exact HB.out | apply below_alloc | apply pw_below_drewN | apply below_drew1 | refine below_set ?_ GE108.out | refine below_set ?_ GE117.out) | exact HB.out)⟩⟩
      · rw [if_neg c5] at H
        have c5b0 : decide (x2_1 < 2) = false := decide_eq_false c5
        clear c5
        replace H := Option.bind_eq_some_iff.mp H
        obtain ⟨⟨t118, t119, t120, t121, t122, t123, t124, t125⟩, A190, H⟩ := H
        replace H : (if t123 = 49152 then (if t124 = 0 then (if t125 = true then (if t118 = true then (if t120 = 1 then ((dma_Source.f 254 3).bind fun t126 => (some (t126 == 56835))) else (some false)) else (some false)) else (some false)) else (some false)) else (some false)) = some r := H
        have A19 := Aside0.mk A190
        clear A190
        by_cases c20 : t123 = 49152
        · rw [if_pos c20] at H
          have c20b0 : (t123 == 49152) = true := beq_iff_eq.mpr c20
          have c20b1 : (t123 != 49152) = false := bne_eq_false_iff_eq.mpr c20
          clear c20
          by_cases c21 : t124 = 0
          · rw [if_pos c21] at H
            have c21b0 : (t124 == 0) = true := beq_iff_eq.mpr c21
            have c21b1 : (t124 != 0) = false := bne_eq_false_iff_eq.mpr c21
            clear c21
            by_cases c22 : t125 = true
            · subst c22
              have H1 : (if t118 = true then (if t120 = 1 then ((dma_Source.f 254 3).bind fun t126 => (some (t126 == 56835))) else (some false)) else (some false)) = some r := by rw [if_pos rfl] at H; exact H
              clear H
              have H := H1
              clear H1
              by_cases c23 : t118 = true
              · subst c23
                have H1 : (if t120 = 1 then ((dma_Source.f 254 3).bind fun t126 => (some (t126 == 56835))) else (some false)) = some r := by rw [if_pos rfl] at H; exact H
                clear H
                have H := H1
                clear H1
                by_cases c24 : t120 = 1
                · rw [if_pos c24] at H
                  have c24b0 : (t120 == 1) = true := beq_iff_eq.mpr c24
                  have c24b1 : (t120 != 1) = false := bne_eq_false_iff_eq.mpr c24
                  clear c24
                  replace H := Option.bind_eq_some_iff.mp H
                  obtain ⟨t126, A250, H⟩ := H
                  replace H : (some (t126 == 56835)) = some r := H
                  have A25 := Aside0.mk A250
                  clear A250
                  obtain rfl := Option.some.inj H
                  have hcz26_0 : wr.cell? ⟨gb108, 0, none⟩ = some (.bool x109000_1) := (blk_cell BK108.out 0).trans rfl
                  have hcz26_1 : wr.cell? ⟨gb108, 1, none⟩ = some (.int .u8 x109001_1) := (blk_cell BK108.out 1).trans rfl
                  have hcz26_2 : wr.cell? ⟨gb108, 2, none⟩ = some (.int .u8 x109002_1) := (blk_cell BK108.out 2).trans rfl
                  have hcz26_3 : wr.cell? ⟨gb108, 3, none⟩ = some (.int .u8 x109003_1) := (blk_cell BK108.out 3).trans rfl
                  have hcz26_4 : wr.cell? ⟨gb108, 4, none⟩ = some (.int .u8 x109004_1) := (blk_cell BK108.out 4).trans rfl
                  have hfz26_0 := blk_frozen BK108.out 0
                  have hfz26_1 := blk_frozen BK108.out 1
                  have hfz26_2 := blk_frozen BK108.out 2
                  have hfz26_3 := blk_frozen BK108.out 3
                  have hfz26_4 := blk_frozen BK108.out 4
                  go_wp2_with (first | ((with_reducible refine gate_callee (f := 11) rfl ?_); refine goesL_ (some 27) rfl rfl Try.func11 (by kernel_rfl) rfl #[.agg #[.bool x109000_1, .int .u8 x109001_1, .int .u8 x109002_1, .int .u8 x109003_1, .int .u8 x109004_1]] rfl (by (try simp only [List.map_toArray, List.map_cons, List.map_nil]); first | done | rfl | (simp only [List.length_drop, List.length_take]; rfl)) ?_; (with_reducible refine (dma_Step.calls x109000_1 x109001_1 x109002_1 x109003_1 x109004_1 true t119 t120 t121 t122 t123 t124 true _ A19.out).mono ?_); rintro e w27 ⟨rfl, hb⟩; refine ⟨_, rfl, ?_⟩; have n0_ := Aside0.mk (blk_below (g := gb108) (o := .cells #[.bool x109000_1, .int .u8 x109001_1, .int .u8 x109002_1, .int .u8 x109003_1, .int .u8 x109004_1] 27 (0, 0)) (by (with_reducible repeat (first | refine blk_drewN ?_ _ | refine blk_drew ?_ | refine blk_alloc ?_ _)); exact BK108.out) hb); have n1_ := Aside0.mk (below_step (by repeat (first | (with_reducible first | exact HB.out | apply below_alloc | apply pw_below_drewN | apply below_drew1 | refine below_set ?_ GE108.out) | exact HB.out)) hb); clear BK108; clear HB; have BK108 := n0_; have HB := n1_; clear n0_ n1_; (try clear hb); (try clear hb2); (try clear hk); (try clear hi); have hcz28_0 : w27.cell? ⟨gb108, 0, none⟩ = some (.bool x109000_1) := (blk_cell BK108.out 0).trans rfl; have hcz28_1 : w27.cell? ⟨gb108, 1, none⟩ = some (.int .u8 x109001_1) := (blk_cell BK108.out 1).trans rfl; have hcz28_2 : w27.cell? ⟨gb108, 2, none⟩ = some (.int .u8 x109002_1) := (blk_cell BK108.out 2).trans rfl; have hcz28_3 : w27.cell? ⟨gb108, 3, none⟩ = some (.int .u8 x109003_1) := (blk_cell BK108.out 3).trans rfl; have hcz28_4 : w27.cell? ⟨gb108, 4, none⟩ = some (.int .u8 x109004_1) := (blk_cell BK108.out 4).trans rfl; have hfz28_0 := blk_frozen BK108.out 0; have hfz28_1 := blk_frozen BK108.out 1; have hfz28_2 := blk_frozen BK108.out 2; have hfz28_3 := blk_frozen BK108.out 3; have hfz28_4 := blk_frozen BK108.out 4) | (go_at_call 9; (with_reducible refine (dma_Source.calls 254 3 t126 _ A25.out).mono ?_); rintro e w' ⟨rfl, ⟨nd, rfl⟩⟩))
                  go_ret
                  exact ⟨by first | rfl | (simp [errW_none, errW_some] <;> rfl) | (simp [*, errW_none, errW_some] <;> rfl), by repeat (first | (with_reducible first | exact HB.out | apply below_alloc | apply pw_below_drewN | apply below_drew1 | refine below_set ?_ GE108.out) | exact HB.out)⟩
                · rw [if_neg c24] at H
                  have c24b0 : (t120 == 1) = false := beq_eq_false_iff_ne.mpr c24
                  have c24b1 : (t120 != 1) = true := bne_iff_ne.mpr c24
                  obtain rfl := Option.some.inj H
                  have hcz29_0 : wr.cell? ⟨gb108, 0, none⟩ = some (.bool x109000_1) := (blk_cell BK108.out 0).trans rfl
                  have hcz29_1 : wr.cell? ⟨gb108, 1, none⟩ = some (.int .u8 x109001_1) := (blk_cell BK108.out 1).trans rfl
                  have hcz29_2 : wr.cell? ⟨gb108, 2, none⟩ = some (.int .u8 x109002_1) := (blk_cell BK108.out 2).trans rfl
                  have hcz29_3 : wr.cell? ⟨gb108, 3, none⟩ = some (.int .u8 x109003_1) := (blk_cell BK108.out 3).trans rfl
                  have hcz29_4 : wr.cell? ⟨gb108, 4, none⟩ = some (.int .u8 x109004_1) := (blk_cell BK108.out 4).trans rfl
                  have hfz29_0 := blk_frozen BK108.out 0
                  have hfz29_1 := blk_frozen BK108.out 1
                  have hfz29_2 := blk_frozen BK108.out 2
                  have hfz29_3 := blk_frozen BK108.out 3
                  have hfz29_4 := blk_frozen BK108.out 4
                  go_wp2_with (first | ((with_reducible refine gate_callee (f := 11) rfl ?_); refine goesL_ (some 27) rfl rfl Try.func11 (by kernel_rfl) rfl #[.agg #[.bool x109000_1, .int .u8 x109001_1, .int .u8 x109002_1, .int .u8 x109003_1, .int .u8 x109004_1]] rfl (by (try simp only [List.map_toArray, List.map_cons, List.map_nil]); first | done | rfl | (simp only [List.length_drop, List.length_take]; rfl)) ?_; (with_reducible refine (dma_Step.calls x109000_1 x109001_1 x109002_1 x109003_1 x109004_1 true t119 t120 t121 t122 t123 t124 true _ A19.out).mono ?_); rintro e w30 ⟨rfl, hb⟩; refine ⟨_, rfl, ?_⟩; have n0_ := Aside0.mk (blk_below (g := gb108) (o := .cells #[.bool x109000_1, .int .u8 x109001_1, .int .u8 x109002_1, .int .u8 x109003_1, .int .u8 x109004_1] 27 (0, 0)) (by (with_reducible repeat (first | refine blk_drewN ?_ _ | refine blk_drew ?_ | refine blk_alloc ?_ _)); exact BK108.out) hb); have n1_ := Aside0.mk (below_step (by repeat (first | (with_reducible first | exact HB.out | apply below_alloc | apply pw_below_drewN | apply below_drew1 | refine below_set ?_ GE108.out) | exact HB.out)) hb); clear BK108; clear HB; have BK108 := n0_; have HB := n1_; clear n0_ n1_; (try clear hb); (try clear hb2); (try clear hk); (try clear hi); have hcz31_0 : w30.cell? ⟨gb108, 0, none⟩ = some (.bool x109000_1) := (blk_cell BK108.out 0).trans rfl; have hcz31_1 : w30.cell? ⟨gb108, 1, none⟩ = some (.int .u8 x109001_1) := (blk_cell BK108.out 1).trans rfl; have hcz31_2 : w30.cell? ⟨gb108, 2, none⟩ = some (.int .u8 x109002_1) := (blk_cell BK108.out 2).trans rfl; have hcz31_3 : w30.cell? ⟨gb108, 3, none⟩ = some (.int .u8 x109003_1) := (blk_cell BK108.out 3).trans rfl; have hcz31_4 : w30.cell? ⟨gb108, 4, none⟩ = some (.int .u8 x109004_1) := (blk_cell BK108.out 4).trans rfl; have hfz31_0 := blk_frozen BK108.out 0; have hfz31_1 := blk_frozen BK108.out 1; have hfz31_2 := blk_frozen BK108.out 2; have hfz31_3 := blk_frozen BK108.out 3; have hfz31_4 := blk_frozen BK108.out 4))
                  go_ret
                  exact ⟨by first | rfl | (simp [errW_none, errW_some] <;> rfl) | (simp [*, errW_none, errW_some] <;> rfl), by repeat (first | (with_reducible first | exact HB.out | apply below_alloc | apply pw_below_drewN | apply below_drew1 | refine below_set ?_ GE108.out) | exact HB.out)⟩
              · replace c23 := Bool.eq_false_iff.mpr c23
                subst c23
                have H1 : (some false) = some r := by rw [if_neg (show ¬ (false = true) by decide)] at H; exact H
                clear H
                have H := H1
                clear H1
                obtain rfl := Option.some.inj H
                have hcz32_0 : wr.cell? ⟨gb108, 0, none⟩ = some (.bool x109000_1) := (blk_cell BK108.out 0).trans rfl
                have hcz32_1 : wr.cell? ⟨gb108, 1, none⟩ = some (.int .u8 x109001_1) := (blk_cell BK108.out 1).trans rfl
                have hcz32_2 : wr.cell? ⟨gb108, 2, none⟩ = some (.int .u8 x109002_1) := (blk_cell BK108.out 2).trans rfl
                have hcz32_3 : wr.cell? ⟨gb108, 3, none⟩ = some (.int .u8 x109003_1) := (blk_cell BK108.out 3).trans rfl
                have hcz32_4 : wr.cell? ⟨gb108, 4, none⟩ = some (.int .u8 x109004_1) := (blk_cell BK108.out 4).trans rfl
                have hfz32_0 := blk_frozen BK108.out 0
                have hfz32_1 := blk_frozen BK108.out 1
                have hfz32_2 := blk_frozen BK108.out 2
                have hfz32_3 := blk_frozen BK108.out 3
                have hfz32_4 := blk_frozen BK108.out 4
                go_wp2_with (first | ((with_reducible refine gate_callee (f := 11) rfl ?_); refine goesL_ (some 27) rfl rfl Try.func11 (by kernel_rfl) rfl #[.agg #[.bool x109000_1, .int .u8 x109001_1, .int .u8 x109002_1, .int .u8 x109003_1, .int .u8 x109004_1]] rfl (by (try simp only [List.map_toArray, List.map_cons, List.map_nil]); first | done | rfl | (simp only [List.length_drop, List.length_take]; rfl)) ?_; (with_reducible refine (dma_Step.calls x109000_1 x109001_1 x109002_1 x109003_1 x109004_1 false t119 t120 t121 t122 t123 t124 true _ A19.out).mono ?_); rintro e w33 ⟨rfl, hb⟩; refine ⟨_, rfl, ?_⟩; have n0_ := Aside0.mk (blk_below (g := gb108) (o := .cells #[.bool x109000_1, .int .u8 x109001_1, .int .u8 x109002_1, .int .u8 x109003_1, .int .u8 x109004_1] 27 (0, 0)) (by (with_reducible repeat (first | refine blk_drewN ?_ _ | refine blk_drew ?_ | refine blk_alloc ?_ _)); exact BK108.out) hb); have n1_ := Aside0.mk (below_step (by repeat (first | (with_reducible first | exact HB.out | apply below_alloc | apply pw_below_drewN | apply below_drew1 | refine below_set ?_ GE108.out) | exact HB.out)) hb); clear BK108; clear HB; have BK108 := n0_; have HB := n1_; clear n0_ n1_; (try clear hb); (try clear hb2); (try clear hk); (try clear hi); have hcz34_0 : w33.cell? ⟨gb108, 0, none⟩ = some (.bool x109000_1) := (blk_cell BK108.out 0).trans rfl; have hcz34_1 : w33.cell? ⟨gb108, 1, none⟩ = some (.int .u8 x109001_1) := (blk_cell BK108.out 1).trans rfl; have hcz34_2 : w33.cell? ⟨gb108, 2, none⟩ = some (.int .u8 x109002_1) := (blk_cell BK108.out 2).trans rfl; have hcz34_3 : w33.cell? ⟨gb108, 3, none⟩ = some (.int .u8 x109003_1) := (blk_cell BK108.out 3).trans rfl; have hcz34_4 : w33.cell? ⟨gb108, 4, none⟩ = some (.int .u8 x109004_1) := (blk_cell BK108.out 4).trans rfl; have hfz34_0 := blk_frozen BK108.out 0; have hfz34_1 := blk_frozen BK108.out 1; have hfz34_2 := blk_frozen BK108.out 2; have hfz34_3 := blk_frozen BK108.out 3; have hfz34_4 := blk_frozen BK108.out 4))
                go_ret
                exact ⟨by first | rfl | (simp [errW_none, errW_some] <;> rfl) | (simp [*, errW_none, errW_some] <;> rfl), by repeat (first | (with_reducible first | exact HB.out | apply below_alloc | apply pw_below_drewN | apply below_drew1 | refine below_set ?_ GE108.out) | exact HB.out)⟩
            · replace c22 := Bool.eq_false_iff.mpr c22
              subst c22
              have H1 : (some false) = some r := by rw [if_neg (show ¬ (false = true) by decide)] at H; exact H
              clear H
              have H := H1
              clear H1
              obtain rfl := Option.some.inj H
              have hcz35_0 : wr.cell? ⟨gb108, 0, none⟩ = some (.bool x109000_1) := (blk_cell BK108.out 0).trans rfl
              have hcz35_1 : wr.cell? ⟨gb108, 1, none⟩ = some (.int .u8 x109001_1) := (blk_cell BK108.out 1).trans rfl
              have hcz35_2 : wr.cell? ⟨gb108, 2, none⟩ = some (.int .u8 x109002_1) := (blk_cell BK108.out 2).trans rfl
              have hcz35_3 : wr.cell? ⟨gb108, 3, none⟩ = some (.int .u8 x109003_1) := (blk_cell BK108.out 3).trans rfl
              have hcz35_4 : wr.cell? ⟨gb108, 4, none⟩ = some (.int .u8 x109004_1) := (blk_cell BK108.out 4).trans rfl
              have hfz35_0 := blk_frozen BK108.out 0
              have hfz35_1 := blk_frozen BK108.out 1
              have hfz35_2 := blk_frozen BK108.out 2
              have hfz35_3 := blk_frozen BK108.out 3
              have hfz35_4 := blk_frozen BK108.out 4
              go_wp2_with (first | ((with_reducible refine gate_callee (f := 11) rfl ?_); refine goesL_ (some 27) rfl rfl Try.func11 (by kernel_rfl) rfl #[.agg #[.bool x109000_1, .int .u8 x109001_1, .int .u8 x109002_1, .int .u8 x109003_1, .int .u8 x109004_1]] rfl (by (try simp only [List.map_toArray, List.map_cons, List.map_nil]); first | done | rfl | (simp only [List.length_drop, List.length_take]; rfl)) ?_; (with_reducible refine (dma_Step.calls x109000_1 x109001_1 x109002_1 x109003_1 x109004_1 t118 t119 t120 t121 t122 t123 t124 false _ A19.out).mono ?_); rintro e w36 ⟨rfl, hb⟩; refine ⟨_, rfl, ?_⟩; have n0_ := Aside0.mk (blk_below (g := gb108) (o := .cells #[.bool x109000_1, .int .u8 x109001_1, .int .u8 x109002_1, .int .u8 x109003_1, .int .u8 x109004_1] 27 (0, 0)) (by (with_reducible repeat (first | refine blk_drewN ?_ _ | refine blk_drew ?_ | refine blk_alloc ?_ _)); exact BK108.out) hb); have n1_ := Aside0.mk (below_step (by repeat (first | (with_reducible first | exact HB.out | apply below_alloc | apply pw_below_drewN | apply below_drew1 | refine below_set ?_ GE108.out) | exact HB.out)) hb); clear BK108; clear HB; have BK108 := n0_; have HB := n1_; clear n0_ n1_; (try clear hb); (try clear hb2); (try clear hk); (try clear hi); have hcz37_0 : w36.cell? ⟨gb108, 0, none⟩ = some (.bool x109000_1) := (blk_cell BK108.out 0).trans rfl; have hcz37_1 : w36.cell? ⟨gb108, 1, none⟩ = some (.int .u8 x109001_1) := (blk_cell BK108.out 1).trans rfl; have hcz37_2 : w36.cell? ⟨gb108, 2, none⟩ = some (.int .u8 x109002_1) := (blk_cell BK108.out 2).trans rfl; have hcz37_3 : w36.cell? ⟨gb108, 3, none⟩ = some (.int .u8 x109003_1) := (blk_cell BK108.out 3).trans rfl; have hcz37_4 : w36.cell? ⟨gb108, 4, none⟩ = some (.int .u8 x109004_1) := (blk_cell BK108.out 4).trans rfl; have hfz37_0 := blk_frozen BK108.out 0; have hfz37_1 := blk_frozen BK108.out 1; have hfz37_2 := blk_frozen BK108.out 2; have hfz37_3 := blk_frozen BK108.out 3; have hfz37_4 := blk_frozen BK108.out 4))
              go_ret
              exact ⟨by first | rfl | (simp [errW_none, errW_some] <;> rfl) | (simp [*, errW_none, errW_some] <;> rfl), by repeat (first | (with_reducible first | exact HB.out | apply below_alloc | apply pw_below_drewN | apply below_drew1 | refine below_set ?_ GE108.out) | exact HB.out)⟩
          · rw [if_neg c21] at H
            have c21b0 : (t124 == 0) = false := beq_eq_false_iff_ne.mpr c21
            have c21b1 : (t124 != 0) = true := bne_iff_ne.mpr c21
            obtain rfl := Option.some.inj H
            have hcz38_0 : wr.cell? ⟨gb108, 0, none⟩ = some (.bool x109000_1) := (blk_cell BK108.out 0).trans rfl
            have hcz38_1 : wr.cell? ⟨gb108, 1, none⟩ = some (.int .u8 x109001_1) := (blk_cell BK108.out 1).trans rfl
            have hcz38_2 : wr.cell? ⟨gb108, 2, none⟩ = some (.int .u8 x109002_1) := (blk_cell BK108.out 2).trans rfl
            have hcz38_3 : wr.cell? ⟨gb108, 3, none⟩ = some (.int .u8 x109003_1) := (blk_cell BK108.out 3).trans rfl
            have hcz38_4 : wr.cell? ⟨gb108, 4, none⟩ = some (.int .u8 x109004_1) := (blk_cell BK108.out 4).trans rfl
            have hfz38_0 := blk_frozen BK108.out 0
            have hfz38_1 := blk_frozen BK108.out 1
            have hfz38_2 := blk_frozen BK108.out 2
            have hfz38_3 := blk_frozen BK108.out 3
            have hfz38_4 := blk_frozen BK108.out 4
            go_wp2_with (first | ((with_reducible refine gate_callee (f := 11) rfl ?_); refine goesL_ (some 27) rfl rfl Try.func11 (by kernel_rfl) rfl #[.agg #[.bool x109000_1, .int .u8 x109001_1, .int .u8 x109002_1, .int .u8 x109003_1, .int .u8 x109004_1]] rfl (by (try simp only [List.map_toArray, List.map_cons, List.map_nil]); first | done | rfl | (simp only [List.length_drop, List.length_take]; rfl)) ?_; (with_reducible refine (dma_Step.calls x109000_1 x109001_1 x109002_1 x109003_1 x109004_1 t118 t119 t120 t121 t122 t123 t124 t125 _ A19.out).mono ?_); rintro e w39 ⟨rfl, hb⟩; refine ⟨_, rfl, ?_⟩; have n0_ := Aside0.mk (blk_below (g := gb108) (o := .cells #[.bool x109000_1, .int .u8 x109001_1, .int .u8 x109002_1, .int .u8 x109003_1, .int .u8 x109004_1] 27 (0, 0)) (by (with_reducible repeat (first | refine blk_drewN ?_ _ | refine blk_drew ?_ | refine blk_alloc ?_ _)); exact BK108.out) hb); have n1_ := Aside0.mk (below_step (by repeat (first | (with_reducible first | exact HB.out | apply below_alloc | apply pw_below_drewN | apply below_drew1 | refine below_set ?_ GE108.out) | exact HB.out)) hb); clear BK108; clear HB; have BK108 := n0_; have HB := n1_; clear n0_ n1_; (try clear hb); (try clear hb2); (try clear hk); (try clear hi); have hcz40_0 : w39.cell? ⟨gb108, 0, none⟩ = some (.bool x109000_1) := (blk_cell BK108.out 0).trans rfl; have hcz40_1 : w39.cell? ⟨gb108, 1, none⟩ = some (.int .u8 x109001_1) := (blk_cell BK108.out 1).trans rfl; have hcz40_2 : w39.cell? ⟨gb108, 2, none⟩ = some (.int .u8 x109002_1) := (blk_cell BK108.out 2).trans rfl; have hcz40_3 : w39.cell? ⟨gb108, 3, none⟩ = some (.int .u8 x109003_1) := (blk_cell BK108.out 3).trans rfl; have hcz40_4 : w39.cell? ⟨gb108, 4, none⟩ = some (.int .u8 x109004_1) := (blk_cell BK108.out 4).trans rfl; have hfz40_0 := blk_frozen BK108.out 0; have hfz40_1 := blk_frozen BK108.out 1; have hfz40_2 := blk_frozen BK108.out 2; have hfz40_3 := blk_frozen BK108.out 3; have hfz40_4 := blk_frozen BK108.out 4))
            go_ret
            exact ⟨by first | rfl | (simp [errW_none, errW_some] <;> rfl) | (simp [*, errW_none, errW_some] <;> rfl), by repeat (first | (with_reducible first | exact HB.out | apply below_alloc | apply pw_below_drewN | apply below_drew1 | refine below_set ?_ GE108.out) | exact HB.out)⟩
        · rw [if_neg c20] at H
          have c20b0 : (t123 == 49152) = false := beq_eq_false_iff_ne.mpr c20
          have c20b1 : (t123 != 49152) = true := bne_iff_ne.mpr c20
          obtain rfl := Option.some.inj H
          have hcz41_0 : wr.cell? ⟨gb108, 0, none⟩ = some (.bool x109000_1) := (blk_cell BK108.out 0).trans rfl
          have hcz41_1 : wr.cell? ⟨gb108, 1, none⟩ = some (.int .u8 x109001_1) := (blk_cell BK108.out 1).trans rfl
          have hcz41_2 : wr.cell? ⟨gb108, 2, none⟩ = some (.int .u8 x109002_1) := (blk_cell BK108.out 2).trans rfl
          have hcz41_3 : wr.cell? ⟨gb108, 3, none⟩ = some (.int .u8 x109003_1) := (blk_cell BK108.out 3).trans rfl
          have hcz41_4 : wr.cell? ⟨gb108, 4, none⟩ = some (.int .u8 x109004_1) := (blk_cell BK108.out 4).trans rfl
          have hfz41_0 := blk_frozen BK108.out 0
          have hfz41_1 := blk_frozen BK108.out 1
          have hfz41_2 := blk_frozen BK108.out 2
          have hfz41_3 := blk_frozen BK108.out 3
          have hfz41_4 := blk_frozen BK108.out 4
          go_wp2_with (first | ((with_reducible refine gate_callee (f := 11) rfl ?_); refine goesL_ (some 27) rfl rfl Try.func11 (by kernel_rfl) rfl #[.agg #[.bool x109000_1, .int .u8 x109001_1, .int .u8 x109002_1, .int .u8 x109003_1, .int .u8 x109004_1]] rfl (by (try simp only [List.map_toArray, List.map_cons, List.map_nil]); first | done | rfl | (simp only [List.length_drop, List.length_take]; rfl)) ?_; (with_reducible refine (dma_Step.calls x109000_1 x109001_1 x109002_1 x109003_1 x109004_1 t118 t119 t120 t121 t122 t123 t124 t125 _ A19.out).mono ?_); rintro e w42 ⟨rfl, hb⟩; refine ⟨_, rfl, ?_⟩; have n0_ := Aside0.mk (blk_below (g := gb108) (o := .cells #[.bool x109000_1, .int .u8 x109001_1, .int .u8 x109002_1, .int .u8 x109003_1, .int .u8 x109004_1] 27 (0, 0)) (by (with_reducible repeat (first | refine blk_drewN ?_ _ | refine blk_drew ?_ | refine blk_alloc ?_ _)); exact BK108.out) hb); have n1_ := Aside0.mk (below_step (by repeat (first | (with_reducible first | exact HB.out | apply below_alloc | apply pw_below_drewN | apply below_drew1 | refine below_set ?_ GE108.out) | exact HB.out)) hb); clear BK108; clear HB; have BK108 := n0_; have HB := n1_; clear n0_ n1_; (try clear hb); (try clear hb2); (try clear hk); (try clear hi); have hcz43_0 : w42.cell? ⟨gb108, 0, none⟩ = some (.bool x109000_1) := (blk_cell BK108.out 0).trans rfl; have hcz43_1 : w42.cell? ⟨gb108, 1, none⟩ = some (.int .u8 x109001_1) := (blk_cell BK108.out 1).trans rfl; have hcz43_2 : w42.cell? ⟨gb108, 2, none⟩ = some (.int .u8 x109002_1) := (blk_cell BK108.out 2).trans rfl; have hcz43_3 : w42.cell? ⟨gb108, 3, none⟩ = some (.int .u8 x109003_1) := (blk_cell BK108.out 3).trans rfl; have hcz43_4 : w42.cell? ⟨gb108, 4, none⟩ = some (.int .u8 x109004_1) := (blk_cell BK108.out 4).trans rfl; have hfz43_0 := blk_frozen BK108.out 0; have hfz43_1 := blk_frozen BK108.out 1; have hfz43_2 := blk_frozen BK108.out 2; have hfz43_3 := blk_frozen BK108.out 3; have hfz43_4 := blk_frozen BK108.out 4))
          go_ret
          exact ⟨by first | rfl | (simp [errW_none, errW_some] <;> rfl) | (simp [*, errW_none, errW_some] <;> rfl), by repeat (first | (with_reducible first | exact HB.out | apply below_alloc | apply pw_below_drewN | apply below_drew1 | refine below_set ?_ GE108.out) | exact HB.out)⟩

/-! ### whirligigref19_Source: function 10 -/
def whirligigref19_Source.f (a0 : Int) (a1 : Int) : Option (Int) := if a0 ≥ 224 then (some (IntKind.u16.wrap (wrap64 ((wrap64 ((wrap64 (256 * (wrap64 (a0)))) + (wrap64 (a1)))) - 8192)))) else (some (IntKind.u16.wrap (wrap64 ((wrap64 (256 * (wrap64 (a0)))) + (wrap64 (a1))))))
set_option maxHeartbeats 8000000 in
set_option maxRecDepth 100000 in
theorem whirligigref19_Source.calls (a0 : Int) (a1 : Int) (r : Int) (w : World) (h : whirligigref19_Source.f a0 a1 = some r) :
    Calls Try.prog 10 #[.int .u8 a0, .int .u8 a1] w fun e w' => e = .returned (.int .u16 r) ∧ Drawn0 w w' := by
  have H : (if a0 ≥ 224 then (some (IntKind.u16.wrap (wrap64 ((wrap64 ((wrap64 (256 * (wrap64 (a0)))) + (wrap64 (a1)))) - 8192)))) else (some (IntKind.u16.wrap (wrap64 ((wrap64 (256 * (wrap64 (a0)))) + (wrap64 (a1))))))) = some r := h
  clear h
  by_cases c3 : a0 ≥ 224
  · rw [if_pos c3] at H
    have c3b0 : decide (224 ≤ a0) = true := decide_eq_true c3
    clear c3
    obtain rfl := Option.some.inj H
    go_enter Try.func10, Try.ntmps10
    go_wp2
    go_ret
    exact ⟨by first | rfl | (simp; done) | (simp [*]; done), by repeat (first | exact Drawn0.refl _ | apply Drawn0.step)⟩
  · rw [if_neg c3] at H
    have c3b0 : decide (224 ≤ a0) = false := decide_eq_false c3
    clear c3
    obtain rfl := Option.some.inj H
    go_enter Try.func10, Try.ntmps10
    go_wp2
    go_ret
    exact ⟨by first | rfl | (simp; done) | (simp [*]; done), by repeat (first | exact Drawn0.refl _ | apply Drawn0.step)⟩

/-! ### whirligiglaw19_DmaSources: function 3 -/
def whirligiglaw19_DmaSources.f (k : Nat) (a0 : Int) (a1 : Int) : Option (Bool) := (whirligiglaw19_shown.f k).bind fun t127 => (if t127 = true then ((dma_Source.f a0 a1).bind fun t128 => ((whirligigref19_Source.f a0 a1).bind fun t129 => (some (t128 == t129)))) else (some false))
theorem whirligiglaw19_DmaSources.mono : ∀ a0 a1 k, LeO (whirligiglaw19_DmaSources.f k a0 a1) (whirligiglaw19_DmaSources.f (k + 1) a0 a1) := by
  intro a0 a1 k
  unfold whirligiglaw19_DmaSources.f
  repeat' first
      | (with_reducible exact whirligiglaw19_shown.mono _)
      | (with_reducible exact LeO.refl _)
      | (with_reducible exact LeO.none _)
      | (with_reducible refine LeO.ite ?_ ?_)
      | (with_reducible refine LeO.bind ?_ (fun _ => ?_))
      | exact whirligiglaw19_shown.mono _
      | exact LeO.none _
      | refine LeO.ite ?_ ?_
      | refine LeO.bind ?_ (fun _ => ?_)
set_option maxHeartbeats 8000000 in
set_option maxRecDepth 100000 in
theorem whirligiglaw19_DmaSources.calls (k : Nat) (a0 : Int) (a1 : Int) (r : Bool) (w : World) (h : whirligiglaw19_DmaSources.f k a0 a1 = some r) :
    Calls Try.prog 3 #[.int .u8 a0, .int .u8 a1] w fun e w' => e = .returned (.bool r) ∧ Below w.heap.size w w' := by
  have HB := Aside0.mk (Below.refl w.heap.size w)
  have H : ((whirligiglaw19_shown.f k).bind fun t127 => (if t127 = true then ((dma_Source.f a0 a1).bind fun t128 => ((whirligigref19_Source.f a0 a1).bind fun t129 => (some (t128 == t129)))) else (some false))) = some r := h
  clear h
  replace H := Option.bind_eq_some_iff.mp H
  obtain ⟨t127, A30, H⟩ := H
  replace H : (if t127 = true then ((dma_Source.f a0 a1).bind fun t128 => ((whirligigref19_Source.f a0 a1).bind fun t129 => (some (t128 == t129)))) else (some false)) = some r := H
  have A3 := Aside0.mk A30
  clear A30
  by_cases c4 : t127 = true
  · subst c4
    have H1 : ((dma_Source.f a0 a1).bind fun t128 => ((whirligigref19_Source.f a0 a1).bind fun t129 => (some (t128 == t129)))) = some r := by rw [if_pos rfl] at H; exact H
    clear H
    have H := H1
    clear H1
    replace H := Option.bind_eq_some_iff.mp H
    obtain ⟨t128, A50, H⟩ := H
    replace H : ((whirligigref19_Source.f a0 a1).bind fun t129 => (some (t128 == t129))) = some r := H
    have A5 := Aside0.mk A50
    clear A50
    replace H := Option.bind_eq_some_iff.mp H
    obtain ⟨t129, A60, H⟩ := H
    replace H : (some (t128 == t129)) = some r := H
    have A6 := Aside0.mk A60
    clear A60
    obtain rfl := Option.some.inj H
    go_enter Try.func3, Try.ntmps3
    go_wp2_with (first | ((with_reducible refine gate_callee (f := 8) rfl ?_); refine goesL_ (some 6) rfl rfl Try.func8 (by kernel_rfl) rfl #[] rfl (by (try simp only [List.map_toArray, List.map_cons, List.map_nil]); first | done | rfl | (simp only [List.length_drop, List.length_take]; rfl)) ?_; (with_reducible refine (whirligiglaw19_shown.calls k  true _ A3.out).mono ?_); rintro e w7 ⟨rfl, hb⟩; refine ⟨_, rfl, ?_⟩; have n0_ := Aside0.mk (below_step (by repeat (first | (with_reducible first | exact HB.out | apply below_alloc | apply pw_below_drewN | apply below_drew1) | exact HB.out)) hb); clear HB; have HB := n0_; clear n0_; (try clear hb); (try clear hb2); (try clear hk); (try clear hi)) | (go_at_call 9; (with_reducible refine (dma_Source.calls a0 a1 t128 _ A5.out).mono ?_); rintro e w' ⟨rfl, ⟨nd, rfl⟩⟩) | (go_at_call 10; (with_reducible refine (whirligigref19_Source.calls a0 a1 t129 _ A6.out).mono ?_); rintro e w' ⟨rfl, ⟨nd, rfl⟩⟩))
    go_ret
    exact ⟨by first | rfl | (simp [errW_none, errW_some] <;> rfl) | (simp [*, errW_none, errW_some] <;> rfl), by repeat (first | (with_reducible first | exact HB.out | apply below_alloc | apply pw_below_drewN | apply below_drew1) | exact HB.out)⟩
  · replace c4 := Bool.eq_false_iff.mpr c4
    subst c4
    have H1 : (some false) = some r := by rw [if_neg (show ¬ (false = true) by decide)] at H; exact H
    clear H
    have H := H1
    clear H1
    obtain rfl := Option.some.inj H
    go_enter Try.func3, Try.ntmps3
    go_wp2_with (first | ((with_reducible refine gate_callee (f := 8) rfl ?_); refine goesL_ (some 6) rfl rfl Try.func8 (by kernel_rfl) rfl #[] rfl (by (try simp only [List.map_toArray, List.map_cons, List.map_nil]); first | done | rfl | (simp only [List.length_drop, List.length_take]; rfl)) ?_; (with_reducible refine (whirligiglaw19_shown.calls k  false _ A3.out).mono ?_); rintro e w8 ⟨rfl, hb⟩; refine ⟨_, rfl, ?_⟩; have n0_ := Aside0.mk (below_step (by repeat (first | (with_reducible first | exact HB.out | apply below_alloc | apply pw_below_drewN | apply below_drew1) | exact HB.out)) hb); clear HB; have HB := n0_; clear n0_; (try clear hb); (try clear hb2); (try clear hk); (try clear hi)))
    go_ret
    exact ⟨by first | rfl | (simp [errW_none, errW_some] <;> rfl) | (simp [*, errW_none, errW_some] <;> rfl), by repeat (first | (with_reducible first | exact HB.out | apply below_alloc | apply pw_below_drewN | apply below_drew1) | exact HB.out)⟩

/-- THE ONE PURE STATEMENT of whirligiglaw19_DmaSources: yours. -/
def whirligiglaw19_DmaSources.Pure : Prop := ∀ (a0 : Int) (a1 : Int), (Lit.int .u8 a0).wf = true → (Lit.int .u8 a1).wf = true → ∃ k, whirligiglaw19_DmaSources.f k a0 a1 = some true
theorem whirligiglaw19_DmaSources.walk (P : whirligiglaw19_DmaSources.Pure) (a0 : Int) (a1 : Int) (w : World) (w0 : (Lit.int .u8 a0).wf = true) (w1 : (Lit.int .u8 a1).wf = true) :
    Calls Try.prog 3 #[.int .u8 a0, .int .u8 a1] w fun e w' => e = .returned (.bool true) ∧ Below w.heap.size w w' := by
  obtain ⟨k, h⟩ := P a0 a1 w0 w1
  refine (whirligiglaw19_DmaSources.calls k a0 a1 true w h).mono ?_
  rintro e w' ⟨rfl, hd⟩
  exact ⟨rfl, hd⟩

end Go.Proofs.Ytofcicdomkaigaa.P
