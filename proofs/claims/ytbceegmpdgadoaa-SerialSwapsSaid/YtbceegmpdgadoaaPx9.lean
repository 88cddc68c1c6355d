/- Contracts of Go functions of this seat: each Lean function here is what the Go function of its name answers, in every memory; no condition but the equations that each theorem states. Written by a program of this session (wip/given.py); Lean checks it. -/
import Derived.Test.YtbceegmpdgadoaaPx0
import Derived.Test.YtbceegmpdgadoaaPx2
import Derived.Test.YtbceegmpdgadoaaPx3
import Derived.Test.YtbceegmpdgadoaaPx7
namespace Go.Proofs.Ytbceegmpdgadoaa.P
open Go.RowKit Go.Proofs.YtbceegmpdgadoaaW.PrintWords Go.Proofs.YtbceegmpdgadoaaW.PrintLast Go.Proofs.YtbceegmpdgadoaaW.PrintMore
attribute [local go_sem] max2_int min2_int max_two min_two max_three min_three max_four min_four   -- for this text's walks alone
set_option linter.unusedVariables false
set_option linter.unusedSimpArgs false

/-! ### whirligiglaw12_SerialEight: function 8 -/
def whirligiglaw12_SerialEight.l0 : Nat → Int → Int → Int → Bool → Int → Int → Int → Int → Int → Option (Bool)
  | 0, _, _, _, _, _, _, _, _, _ => none
  | k + 1, x0, x1, x2, x7, x9, x216000, x216001, x216002, x216003 => if x9 < 1024 then (if 0 ≤ (wrap64 (7 - (wrap64 (Int.tdiv x9 128)))) then (if 0 ≤ (Int.tmod x9 8) then ((serial_Step.f x216000 x216001 x216002 x216003 ((Go.bits .and .u8 (shr .u8 x1 (wrap64 (7 - (wrap64 (Int.tdiv x9 128))))) 1) == 1) ((Go.bits .and .u8 (shr .u8 x2 (Int.tmod x9 8)) 1) == 1)).bind fun bt216 => (if (bt216.2.2.2.2.1 != ((Go.bits .and .u8 (shr .u8 x0 (wrap64 (7 - (wrap64 (Int.tdiv x9 128))))) 1) == 1)) = true then (some false) else (if (bt216.2.2.2.2.2 != (x9 == 1023)) = true then (some false) else (whirligiglaw12_SerialEight.l0 k x0 x1 x2 x7 (wrap64 (x9 + 1)) bt216.1 bt216.2.1 bt216.2.2.1 bt216.2.2.2.1)))) else (none)) else (none)) else (if x7 = true then ((serial_Read.f x216000 x216001 x216002 x216003 65281).bind fun t223 => (if t223 = x1 then ((serial_Read.f x216000 x216001 x216002 x216003 65282).bind fun t224 => (some (t224 == 127))) else (some false))) else (some false))
def whirligiglaw12_SerialEight.f (k : Nat) (a0 : Int) (a1 : Int) (a2 : Int) : Option (Bool) := (whirligiglaw12_shown.f).bind fun t206 => ((serial_Write.f 0 0 0 0 65281 a0).bind fun bt207 => ((serial_Write.f bt207.1 bt207.2.1 bt207.2.2.1 bt207.2.2.2 65282 129).bind fun bt211 => (whirligiglaw12_SerialEight.l0 k a0 a1 a2 t206 0 bt211.1 bt211.2.1 bt211.2.2.1 bt211.2.2.2)))
theorem whirligiglaw12_SerialEight.mono_l : ∀ k, (∀ y0 y1 y2 y3 y4 y5 y6 y7 y8, LeO (whirligiglaw12_SerialEight.l0 k y0 y1 y2 y3 y4 y5 y6 y7 y8) (whirligiglaw12_SerialEight.l0 (k + 1) y0 y1 y2 y3 y4 y5 y6 y7 y8))
  | 0 => fun _ _ _ _ _ _ _ _ _ r h => by simp [whirligiglaw12_SerialEight.l0] at h
  | k + 1 => by
    have ih0 := whirligiglaw12_SerialEight.mono_l k
    · intro y0 y1 y2 y3 y4 y5 y6 y7 y8
      unfold whirligiglaw12_SerialEight.l0
      repeat' first
      | (with_reducible exact ih0 _ _ _ _ _ _ _ _ _)
      | (with_reducible exact LeO.refl _)
      | (with_reducible exact LeO.none _)
      | (with_reducible refine LeO.ite ?_ ?_)
      | (with_reducible refine LeO.bind ?_ (fun _ => ?_))
      | exact ih0 _ _ _ _ _ _ _ _ _
      | exact LeO.none _
      | refine LeO.ite ?_ ?_
      | refine LeO.bind ?_ (fun _ => ?_)
theorem whirligiglaw12_SerialEight.mono : ∀ a0 a1 a2 k, LeO (whirligiglaw12_SerialEight.f k a0 a1 a2) (whirligiglaw12_SerialEight.f (k + 1) a0 a1 a2) := by
  intro a0 a1 a2 k
  have ih0 := whirligiglaw12_SerialEight.mono_l k
  unfold whirligiglaw12_SerialEight.f
  repeat' first
      | (with_reducible exact ih0 _ _ _ _ _ _ _ _ _)
      | (with_reducible exact LeO.refl _)
      | (with_reducible exact LeO.none _)
      | (with_reducible refine LeO.ite ?_ ?_)
      | (with_reducible refine LeO.bind ?_ (fun _ => ?_))
      | exact ih0 _ _ _ _ _ _ _ _ _
      | exact LeO.none _
      | refine LeO.ite ?_ ?_
      | refine LeO.bind ?_ (fun _ => ?_)
def whirligiglaw12_SerialEight.T8 : Bool × List (List Nat × List Nat) := (true, [([], []), ([], []), ([], []), ([], []), ([3], [3]), ([2, 4], [2, 4]), ([5], [5]), ([6], [6]), ([0, 1, 7], [0, 1, 7]), ([8], [8]), ([9], [9]), ([9], [9]), ([9], [9]), ([], []), ([13, 10, 8, 0, 1, 2, 3, 4, 5, 6, 7, 8, 9, 10, 13], [10, 13]), ([11, 14, 0, 1, 2, 3, 4, 5, 6, 7, 8, 9, 10, 11, 13, 14], [11]), ([12, 15, 0, 1, 2, 3, 4, 5, 6, 7, 8, 9, 10, 11, 12, 13, 14, 15], [12])])
def whirligiglaw12_SerialEight.B8 : List Nat := [0, 0, 0, 0, 8, 28, 60, 124, 255, 511, 1023, 1023, 1023, 0, 10239, 28671, 65535]
theorem whirligiglaw12_SerialEight.tab8 : rtab .any (opsOf Try.f8 8) = whirligiglaw12_SerialEight.T8 := by kernel_rfl
theorem whirligiglaw12_SerialEight.bits8 : waitsOk whirligiglaw12_SerialEight.T8.2 whirligiglaw12_SerialEight.B8 = true := by kernel_rfl
set_option maxHeartbeats 8000000 in
set_option maxRecDepth 100000 in
theorem whirligiglaw12_SerialEight.calls (k : Nat) (a0 : Int) (a1 : Int) (a2 : Int) (r : Bool) (w : World) (h : whirligiglaw12_SerialEight.f k a0 a1 a2 = some r) :
    Calls Try.prog 8 #[.int .u8 a0, .int .u8 a1, .int .u8 a2] w fun e w' => e = .returned (.bool r) ∧ Below w.heap.size w w' := by
  have hu23 := Try.underlying23
  have HB := Aside0.mk (Below.refl w.heap.size w)
  have H : ((whirligiglaw12_shown.f).bind fun t206 => ((serial_Write.f 0 0 0 0 65281 a0).bind fun bt207 => ((serial_Write.f bt207.1 bt207.2.1 bt207.2.2.1 bt207.2.2.2 65282 129).bind fun bt211 => (whirligiglaw12_SerialEight.l0 k a0 a1 a2 t206 0 bt211.1 bt211.2.1 bt211.2.2.1 bt211.2.2.2)))) = some r := h
  clear h
  replace H := Option.bind_eq_some_iff.mp H
  obtain ⟨t206, A40, H⟩ := H
  replace H : ((serial_Write.f 0 0 0 0 65281 a0).bind fun bt207 => ((serial_Write.f bt207.1 bt207.2.1 bt207.2.2.1 bt207.2.2.2 65282 129).bind fun bt211 => (whirligiglaw12_SerialEight.l0 k a0 a1 a2 t206 0 bt211.1 bt211.2.1 bt211.2.2.1 bt211.2.2.2))) = some r := H
  have A4 := Aside0.mk A40
  clear A40
  replace H := Option.bind_eq_some_iff.mp H
  obtain ⟨⟨t207, t208, t209, t210⟩, A50, H⟩ := H
  replace H : ((serial_Write.f t207 t208 t209 t210 65282 129).bind fun bt211 => (whirligiglaw12_SerialEight.l0 k a0 a1 a2 t206 0 bt211.1 bt211.2.1 bt211.2.2.1 bt211.2.2.2)) = some r := H
  have A5 := Aside0.mk A50
  clear A50
  replace H := Option.bind_eq_some_iff.mp H
  obtain ⟨⟨t211, t212, t213, t214⟩, A60, H⟩ := H
  replace H : (whirligiglaw12_SerialEight.l0 k a0 a1 a2 t206 0 t211 t212 t213 t214) = some r := H
  have A6 := Aside0.mk A60
  clear A60
  have H' := Aside0.mk H
  clear H
  go_enter Try.func8, Try.ntmps8
  go_wp2_with (first | ((with_reducible refine gate_callee (f := 9) rfl ?_); refine goesL_ (some 15) rfl rfl Try.func9 (by kernel_rfl) rfl #[] rfl (by (try simp only [List.map_toArray, List.map_cons, List.map_nil]); first | done | rfl | (simp only [List.length_drop, List.length_take]; rfl)) ?_; (with_reducible refine (whirligiglaw12_shown.calls  t206 _ A4.out).mono ?_); rintro e w7 ⟨rfl, hb⟩; refine ⟨_, rfl, ?_⟩; have n0_ := Aside0.mk (below_step (by repeat (first | (with_reducible first | exact HB.out | apply below_alloc | apply pw_below_drewN | apply below_drew1) | exact HB.out)) hb); clear HB; have HB := n0_; clear n0_; (try clear hb); (try clear hb2); (try clear hk); (try clear hi)) | ((with_reducible refine gate_callee (f := 12) rfl ?_); refine goesL_ (some 18) rfl rfl Try.func12 (by kernel_rfl) rfl #[.agg #[.int .u8 0, .int .u8 0, .int .u8 0, .int .u8 0], .int .u16 65281, .int .u8 a0] rfl (by (try simp only [List.map_toArray, List.map_cons, List.map_nil]); first | done | rfl | (simp only [List.length_drop, List.length_take]; rfl)) ?_; (with_reducible refine (serial_Write.calls 0 0 0 0 65281 a0 t207 t208 t209 t210 _ A5.out).mono ?_); rintro e w8 ⟨rfl, hb⟩; refine ⟨_, rfl, ?_⟩; have n0_ := Aside0.mk (below_step (by repeat (first | (with_reducible first | exact HB.out | apply below_alloc | apply pw_below_drewN | apply below_drew1) | exact HB.out)) hb); clear HB; have HB := n0_; clear n0_; (try clear hb); (try clear hb2); (try clear hk); (try clear hi)) | ((with_reducible refine gate_callee (f := 12) rfl ?_); refine goesL_ (some 19) rfl rfl Try.func12 (by kernel_rfl) rfl #[.agg #[.int .u8 t207, .int .u8 t208, .int .u8 t209, .int .u8 t210], .int .u16 65282, .int .u8 129] rfl (by (try simp only [List.map_toArray, List.map_cons, List.map_nil]); first | done | rfl | (simp only [List.length_drop, List.length_take]; rfl)) ?_; (with_reducible refine (serial_Write.calls t207 t208 t209 t210 65282 129 t211 t212 t213 t214 _ A6.out).mono ?_); rintro e w9 ⟨rfl, hb⟩; refine ⟨_, rfl, ?_⟩; have n0_ := Aside0.mk (below_step (by repeat (first | (with_reducible first | exact HB.out | apply below_alloc | apply pw_below_drewN | apply below_drew1) | exact HB.out)) hb); clear HB; have HB := n0_; clear n0_; (try clear hb); (try clear hb2); (try clear hk); (try clear hi)) | ((with_reducible refine gate_dst (N := 8) rfl ?_); refine box_event ?hg (N := 8) ?hd (cs := #[.int .u8 0, .int .u8 0, .int .u8 0, .int .u8 0]) (t := 23) ?hr ?_; (case hd => rfl); (case hg => rfl); (case hr => first | (go_simp; done) | (go_simp; rfl)); intro gb215 hg w10 hbox hb; have n0_ := Aside0.mk (below_step (by repeat (first | (with_reducible first | exact HB.out | apply below_alloc | apply pw_below_drewN | apply below_drew1) | exact HB.out)) hb); have n1_ := Aside0.mk (hbox); have n2_ := Aside0.mk ((by rw [hg]; exact (below_size (by repeat (first | (with_reducible first | exact HB.out | apply below_alloc | apply pw_below_drewN | apply below_drew1) | exact HB.out))) : w.heap.size ≤ gb215)); have n3_ := Aside0.mk ((by rw [hg]; exact (below_size (by repeat (first | (with_reducible first | exact HB.out | apply below_alloc | apply pw_below_drewN | apply below_drew1) | exact HB.out))) : w.heap.size ≤ gb215)); clear HB; have HB := n0_; have BK215 := n1_; have GW215 := n2_; have GE215 := n3_; clear n0_ n1_ n2_ n3_; clear hb hbox hg; have hcz11_0 : w10.cell? ⟨gb215, 0, none⟩ = some (.int .u8 0) := (blk_cell BK215.out 0).trans rfl; have hcz11_1 : w10.cell? ⟨gb215, 1, none⟩ = some (.int .u8 0) := (blk_cell BK215.out 1).trans rfl; have hcz11_2 : w10.cell? ⟨gb215, 2, none⟩ = some (.int .u8 0) := (blk_cell BK215.out 2).trans rfl; have hcz11_3 : w10.cell? ⟨gb215, 3, none⟩ = some (.int .u8 0) := (blk_cell BK215.out 3).trans rfl; have hfz11_0 := blk_frozen BK215.out 0; have hfz11_1 := blk_frozen BK215.out 1; have hfz11_2 := blk_frozen BK215.out 2; have hfz11_3 := blk_frozen BK215.out 3))
  go_loopg [9] k (fun kq v9 w' => ∃ (x9_1 : Int) (x216000_1 : Int) (x216001_1 : Int) (x216002_1 : Int) (x216003_1 : Int), v9 = .int .i64 x9_1 ∧ Aside0 (whirligiglaw12_SerialEight.l0 kq a0 a1 a2 t206 x9_1 x216000_1 x216001_1 x216002_1 x216003_1 = some r) ∧ Aside0 (kq ≤ k) ∧ Aside0 (w'.heap[gb215]? = some (.cells #[.int .u8 x216000_1, .int .u8 x216001_1, .int .u8 x216002_1, .int .u8 x216003_1] 23 (0, 0))) ∧ Aside0 (Below w.heap.size w w'))
  case atStart => exact ⟨(0), (t211), (t212), (t213), (t214), (by first | rfl | (simp; done) | (simp [*]; done)), H', ⟨Nat.le_refl _⟩, ⟨by (with_reducible repeat (first | refine blk_drewN ?_ _ | refine blk_drew ?_ | refine blk_alloc ?_ _)); refine blk_put (cs := #[.int .u8 t211, .int .u8 t212, .int .u8 t213, .int .u8 0]) ?_ 3 _ rfl; (with_reducible repeat (first | refine blk_drewN ?_ _ | refine blk_drew ?_ | refine blk_alloc ?_ _)); refine blk_put (cs := #[.int .u8 t211, .int .u8 t212, .int .u8 0, .int .u8 0]) ?_ 2 _ rfl; (with_reducible repeat (first | refine blk_drewN ?_ _ | refine blk_drew ?_ | refine blk_alloc ?_ _)); refine blk_put (cs := #[.int .u8 t211, .int .u8 0, .int .u8 0, .int .u8 0]) ?_ 1 _ rfl; (with_reducible repeat (first | refine blk_drewN ?_ _ | refine blk_drew ?_ | refine blk_alloc ?_ _)); refine blk_put (cs := #[.int .u8 0, .int .u8 0, .int .u8 0, .int .u8 0]) ?_ 0 _ rfl; (with_reducible repeat (first | refine blk_drewN ?_ _ | refine blk_drew ?_ | refine blk_alloc ?_ _)); exact BK215.out⟩, ⟨by repeat (first | (with_reducible first | exact HB.out | apply below_alloc | apply pw_below_drewN | apply below_drew1 | refine below_set ?_ GE215.out) | exact HB.out)⟩⟩
  case round =>
    clear H'
    try clear c1
    try clear p2
    try clear c8
    try clear c9
    try clear hcz11_0
    try clear hcz11_1
    try clear hcz11_2
    try clear hcz11_3
    try clear hfz11_0
    try clear hfz11_1
    try clear hfz11_2
    try clear hfz11_3
    obtain ⟨x9_1, x216000_1, x216001_1, x216002_1, x216003_1, rfl, HA, HK1, BK215, HB⟩ := hrel
    cases gk with
    | zero => exact absurd HA.out (by simp [whirligiglaw12_SerialEight.l0])
    | succ k1 =>
      have H := HA.out
      clear HA
      simp only [whirligiglaw12_SerialEight.l0] at H
      by_cases c12 : x9_1 < 1024
      · rw [if_pos c12] at H
        have c12b0 : decide (x9_1 < 1024) = true := decide_eq_true c12
        clear c12
        obtain ⟨ji13, hji13⟩ : ∃ j_ : Int, (wrap64 (7 - (wrap64 (Int.tdiv x9_1 128)))) = j_ := ⟨_, rfl⟩
        replace H : (if 0 ≤ (ji13) then (if 0 ≤ (Int.tmod x9_1 8) then ((serial_Step.f x216000_1 x216001_1 x216002_1 x216003_1 ((Go.bits .and .u8 (shr .u8 a1 (ji13)) 1) == 1) ((Go.bits .and .u8 (shr .u8 a2 (Int.tmod x9_1 8)) 1) == 1)).bind fun bt216 => (if (bt216.2.2.2.2.1 != ((Go.bits .and .u8 (shr .u8 a0 (ji13)) 1) == 1)) = true then (some false) else (if (bt216.2.2.2.2.2 != (x9_1 == 1023)) = true then (some false) else (whirligiglaw12_SerialEight.l0 k1 a0 a1 a2 t206 (wrap64 (x9_1 + 1)) bt216.1 bt216.2.1 bt216.2.2.1 bt216.2.2.2.1)))) else (none)) else (none)) = some r := by first | (rw [hji13] at H; exact H) | (simp only [hji13] at H ⊢; exact H)
        have hji13w : (IntKind.i64.wrap (7 - (wrap64 (Int.tdiv x9_1 128)))) = ji13 := (i64_w _).trans hji13
        by_cases c14 : 0 ≤ (ji13)
        · rw [if_pos c14] at H
          have c14b0 := eq_true c14
          have c14b1 : decide (0 ≤ (ji13)) = true := decide_eq_true c14
          clear c14
          obtain ⟨ji15, hji15⟩ : ∃ j_ : Int, (shr .u8 a1 (ji13)) = j_ := ⟨_, rfl⟩
          replace H : (if 0 ≤ (Int.tmod x9_1 8) then ((serial_Step.f x216000_1 x216001_1 x216002_1 x216003_1 ((Go.bits .and .u8 (ji15) 1) == 1) ((Go.bits .and .u8 (shr .u8 a2 (Int.tmod x9_1 8)) 1) == 1)).bind fun bt216 => (if (bt216.2.2.2.2.1 != ((Go.bits .and .u8 (shr .u8 a0 (ji13)) 1) == 1)) = true then (some false) else (if (bt216.2.2.2.2.2 != (x9_1 == 1023)) = true then (some false) else (whirligiglaw12_SerialEight.l0 k1 a0 a1 a2 t206 (wrap64 (x9_1 + 1)) bt216.1 bt216.2.1 bt216.2.2.1 bt216.2.2.2.1)))) else (none)) = some r := by first | (rw [hji15] at H; exact H) | (simp only [hji15] at H ⊢; exact H)
          have hji15_ : (a1 / 2 ^ min (ji13).toNat 8) = ji15 := hji15
          have hji15z : (ji13) ≤ 8 → (a1 / 2 ^ (ji13).toNat) = ji15 := shr_small hji15
          obtain ⟨ji16, hji16⟩ : ∃ j_ : Int, (Int.tmod x9_1 8) = j_ := ⟨_, rfl⟩
          replace H : (if 0 ≤ (ji16) then ((serial_Step.f x216000_1 x216001_1 x216002_1 x216003_1 ((Go.bits .and .u8 (ji15) 1) == 1) ((Go.bits .and .u8 (shr .u8 a2 (ji16)) 1) == 1)).bind fun bt216 => (if (bt216.2.2.2.2.1 != ((Go.bits .and .u8 (shr .u8 a0 (ji13)) 1) == 1)) = true then (some false) else (if (bt216.2.2.2.2.2 != (x9_1 == 1023)) = true then (some false) else (whirligiglaw12_SerialEight.l0 k1 a0 a1 a2 t206 (wrap64 (x9_1 + 1)) bt216.1 bt216.2.1 bt216.2.2.1 bt216.2.2.2.1)))) else (none)) = some r := by first | (rw [hji16] at H; exact H) | (simp only [hji16] at H ⊢; exact H)
          by_cases c17 : 0 ≤ (ji16)
          · rw [if_pos c17] at H
            have c17b0 := eq_true c17
            have c17b1 : decide (0 ≤ (ji16)) = true := decide_eq_true c17
            clear c17
            obtain ⟨ji18, hji18⟩ : ∃ j_ : Int, (shr .u8 a2 (ji16)) = j_ := ⟨_, rfl⟩
            replace H : ((serial_Step.f x216000_1 x216001_1 x216002_1 x216003_1 ((Go.bits .and .u8 (ji15) 1) == 1) ((Go.bits .and .u8 (ji18) 1) == 1)).bind fun bt216 => (if (bt216.2.2.2.2.1 != ((Go.bits .and .u8 (shr .u8 a0 (ji13)) 1) == 1)) = true then (some false) else (if (bt216.2.2.2.2.2 != (x9_1 == 1023)) = true then (some false) else (whirligiglaw12_SerialEight.l0 k1 a0 a1 a2 t206 (wrap64 (x9_1 + 1)) bt216.1 bt216.2.1 bt216.2.2.1 bt216.2.2.2.1)))) = some r := by first | (rw [hji18] at H; exact H) | (simp only [hji18] at H ⊢; exact H)
            have hji18_ : (a2 / 2 ^ min (ji16).toNat 8) = ji18 := hji18
            have hji18z : (ji16) ≤ 8 → (a2 / 2 ^ (ji16).toNat) = ji18 := shr_small hji18
            replace H := Option.bind_eq_some_iff.mp H
            obtain ⟨⟨t216, t217, t218, t219, t220, t221⟩, A190, H⟩ := H
            replace H : (if (t220 != ((Go.bits .and .u8 (shr .u8 a0 (ji13)) 1) == 1)) = true then (some false) else (if (t221 != (x9_1 == 1023)) = true then (some false) else (whirligiglaw12_SerialEight.l0 k1 a0 a1 a2 t206 (wrap64 (x9_1 + 1)) t216 t217 t218 t219))) = some r := H
            have A19 := Aside0.mk A190
            clear A190
            have c20b0 := eq_true (of_decide_eq_true (by first | (with_reducible assumption) | assumption) : 0 ≤ (ji13))
            obtain ⟨ji21, hji21⟩ : ∃ j_ : Int, (shr .u8 a0 (ji13)) = j_ := ⟨_, rfl⟩
            replace H : (if (t220 != ((Go.bits .and .u8 (ji21) 1) == 1)) = true then (some false) else (if (t221 != (x9_1 == 1023)) = true then (some false) else (whirligiglaw12_SerialEight.l0 k1 a0 a1 a2 t206 (wrap64 (x9_1 + 1)) t216 t217 t218 t219))) = some r := by first | (rw [hji21] at H; exact H) | (simp only [hji21] at H ⊢; exact H)
            (try rw [hji21] at A19)
            have hji21_ : (a0 / 2 ^ min (ji13).toNat 8) = ji21 := hji21
            have hji21z : (ji13) ≤ 8 → (a0 / 2 ^ (ji13).toNat) = ji21 := shr_small hji21
            by_cases c22 : (t220 != ((Go.bits .and .u8 (ji21) 1) == 1)) = true
            · rw [if_pos c22] at H
              have c22b0 : (t220 != ((Go.bits .and .u8 (ji21) 1) == 1)) = true := c22
              (try (have c22b1 : decide (t220 = ((Go.bits .and .u8 (ji21) 1) == 1)) = false := by simpa using c22))
              (try (have c22b2 : (t220 == ((Go.bits .and .u8 (ji21) 1) == 1)) = false := by simpa using c22))
              (try (have c22b3 : ¬ (t220 = ((Go.bits .and .u8 (ji21) 1) == 1)) := by simpa using c22))
              clear c22
              obtain rfl := Option.some.inj H
              try go_wp2
              have n0_ := Aside0.mk (blk_drew BK215.out)
              have n1_ := Aside0.mk (below_drew1 HB.out)
              clear BK215
              clear HB
              have BK215 := n0_
              have HB := n1_
              clear n0_ n1_
              refine start_ (n := 17) (S := fun w' => w'.cell? ⟨gb215, 0, none⟩ = some (.int .u8 x216000_1) ∧ w'.cell? ⟨gb215, 1, none⟩ = some (.int .u8 x216001_1) ∧ w'.cell? ⟨gb215, 2, none⟩ = some (.int .u8 x216002_1) ∧ w'.cell? ⟨gb215, 3, none⟩ = some (.int .u8 x216003_1)) (ds := []) #[false, false, false, false, false, false, false, false, false, false, false, false, false, false, false, false, false] (by kernel_rfl) rfl rfl ⟨(blk_cell BK215.out 0).trans rfl, (blk_cell BK215.out 1).trans rfl, (blk_cell BK215.out 2).trans rfl, (blk_cell BK215.out 3).trans rfl⟩ (fun hHeld => ?_); refine with_tabW whirligiglaw12_SerialEight.tab8 whirligiglaw12_SerialEight.bits8 (fun HT_ HW_ => ?_)
              generalize wr.drew = w23 at BK215 HB hHeld ⊢
              refine pure_ (i := 1) (N := some 34) (v := ?_) (a' := ?_) #[false, true, false, false, false, false, false, false, false, false, false, false, false, false, false, false, false] rfl rfl (any_of HT_.out (by kernel_rfl)) (fun _ _ _ h => h) (Or.inl ⟨by rfl, ?_⟩) ?_ ?_
              rotate_left
              · intro w'
                go_simp
                with_reducible rfl
              rotate_left
              · simp only [Act.put, List.setIfInBounds_toArray, List.set_cons_zero, List.set_cons_succ, i64_w, i32_w]
                rfl
              refine pure_ (i := 2) (N := some 35) (v := ?_) (a' := ?_) #[false, true, true, false, false, false, false, false, false, false, false, false, false, false, false, false, false] rfl rfl (any_of HT_.out (by kernel_rfl)) (fun _ _ _ h => h) (Or.inl ⟨by rfl, ?_⟩) ?_ ?_
              rotate_left
              · intro w'
                go_simp
                with_reducible rfl
              rotate_left
              · simp only [Act.put, List.setIfInBounds_toArray, List.set_cons_zero, List.set_cons_succ, i64_w, i32_w]
                rfl
              refine pure_ (i := 3) (N := some 36) (v := ?_) (a' := ?_) #[false, true, true, true, false, false, false, false, false, false, false, false, false, false, false, false, false] rfl rfl (any_of HT_.out (by kernel_rfl)) (fun _ _ _ h => h) (Or.inl ⟨by rfl, ?_⟩) ?_ ?_
              rotate_left
              · intro w'
                go_simp
                with_reducible rfl
              rotate_left
              · simp only [Act.put, List.setIfInBounds_toArray, List.set_cons_zero, List.set_cons_succ, i64_w, i32_w]
                rfl
              refine pure_ (i := 4) (N := some 37) (v := ?_) (a' := ?_) #[false, true, true, true, true, false, false, false, false, false, false, false, false, false, false, false, false] rfl rfl (any_of HT_.out (by kernel_rfl)) (fun _ _ _ h => h) (Or.inl ⟨by rfl, ?_⟩) ?_ ?_
              rotate_left
              · intro w'
                go_simp
                with_reducible rfl
              rotate_left
              · simp only [Act.put, List.setIfInBounds_toArray, List.set_cons_zero, List.set_cons_succ, i64_w, i32_w]
                rfl
              refine pure_ (i := 5) (N := some 38) (v := ?_) (a' := ?_) #[false, true, true, true, true, true, false, false, false, false, false, false, false, false, false, false, false] rfl rfl (any_of HT_.out (by kernel_rfl)) (fun _ _ _ h => h) (Or.inl ⟨by rfl, ?_⟩) ?_ ?_
              rotate_left
              · intro w'
                go_simp
                with_reducible rfl
              rotate_left
              · simp only [Act.put, List.setIfInBounds_toArray, List.set_cons_zero, List.set_cons_succ, i64_w, i32_w]
                rfl
              refine pure_ (i := 6) (N := some 39) (v := ?_) (a' := ?_) #[false, true, true, true, true, true, true, false, false, false, false, false, false, false, false, false, false] rfl rfl (any_of HT_.out (by kernel_rfl)) (fun _ _ _ h => h) (Or.inl ⟨by rfl, ?_⟩) ?_ ?_
              rotate_left
              · intro w'
                go_simp
                with_reducible rfl
              rotate_left
              · simp only [Act.put, List.setIfInBounds_toArray, List.set_cons_zero, List.set_cons_succ, i64_w, i32_w]
                rfl
              refine pure_ (i := 7) (N := some 40) (v := ?_) (a' := ?_) #[false, true, true, true, true, true, true, true, false, false, false, false, false, false, false, false, false] rfl rfl (any_of HT_.out (by kernel_rfl)) (fun _ _ _ h => h) (Or.inl ⟨by rfl, ?_⟩) ?_ ?_
              rotate_left
              · intro w'
                go_simp
                with_reducible rfl
              rotate_left
              · simp only [Act.put, List.setIfInBounds_toArray, List.set_cons_zero, List.set_cons_succ, i64_w, i32_w]
                rfl
              refine take_ (i := 0) (N := some 33) (v := ?_) (a' := ?_) #[true, true, true, true, true, true, true, true, false, false, false, false, false, false, false, false, false] rfl rfl (take_ofW HT_.out HW_.out (by kernel_rfl)) (fun _ _ _ h => h) (Or.inl ⟨by rfl, ?_⟩) hHeld ?_ ?_
              rotate_left
              · rintro w' ⟨s0, s1, s2, s3⟩
                go_simp
                with_reducible rfl
              rotate_left
              · simp only [Act.put, List.setIfInBounds_toArray, List.set_cons_zero, List.set_cons_succ, i64_w, i32_w]
                rfl
              refine join_ (σ := Nat) 3 #[true, true, true, true, true, true, true, true, true, true, true, true, true, true, false, false, false] (fun s_ => [(41, .tuple #[.agg #[.int .u8 t216, .int .u8 t217, .int .u8 t218, .int .u8 t219], .bool t220, .bool t221]), (12, .pointer (some ⟨s_, 0, none⟩)), (32, .tuple #[.agg #[.int .u8 t216, .int .u8 t217, .int .u8 t218, .int .u8 t219], .bool t220, .bool t221]), (42, .agg #[.int .u8 t216, .int .u8 t217, .int .u8 t218, .int .u8 t219]), (43, .bool t220), (44, .bool t221)]) (fun s_ w' => (w'.cell? ⟨gb215, 0, none⟩ = some (.int .u8 x216000_1) ∧ w'.cell? ⟨gb215, 1, none⟩ = some (.int .u8 x216001_1) ∧ w'.cell? ⟨gb215, 2, none⟩ = some (.int .u8 x216002_1) ∧ w'.cell? ⟨gb215, 3, none⟩ = some (.int .u8 x216003_1)) ∧ (w'.heap[gb215]? = some (.cells #[.int .u8 x216000_1, .int .u8 x216001_1, .int .u8 x216002_1, .int .u8 x216003_1] 23 (0, 0))) ∧ (w'.heap[s_]? = some (.cells #[.int .u8 0, .int .u8 0, .int .u8 0, .int .u8 0] 23 (0, 0))) ∧ (w.heap.size ≤ s_) ∧ (w.heap.size ≤ s_) ∧ (gb215 ≠ s_) ∧ (s_ ≠ gb215) ∧ (Below w.heap.size w w')) ?_ ?_
              rotate_left
              · intro hCont
                refine two_ (i := 8) (j := 13) (Ni := some 41) (Nj := some 12) #[true, true, true, true, true, true, true, true, true, false, false, false, false, false, false, false, false] #[true, true, true, true, true, true, true, true, false, false, false, false, false, true, false, false, false] rfl rfl rfl rfl (two_of HT_.out (by kernel_rfl)) (by decide) (by decide) (fun K hK => ?_) (fun K hK => ?_)
                · skip
                  refine goes_ Try.func10 (by kernel_rfl) rfl #[.agg #[.int .u8 x216000_1, .int .u8 x216001_1, .int .u8 x216002_1, .int .u8 x216003_1], .bool ((Go.bits .and .u8 (ji15) 1) == 1), .bool ((Go.bits .and .u8 (ji18) 1) == 1)] (by rfl) rfl rfl (by (try simp only [List.map_toArray, List.map_cons, List.map_nil]); first | done | (simp only [hji15, hji18]; rfl) | rfl | (simp only [List.length_drop, List.length_take]; rfl)) ?_
                  with_reducible refine (serial_Step.calls x216000_1 x216001_1 x216002_1 x216003_1 ((Go.bits .and .u8 (ji15) 1) == 1) ((Go.bits .and .u8 (ji18) 1) == 1) t216 t217 t218 t219 t220 t221 _ A19.out).mono ?_
                  rintro e w24 ⟨rfl, hb⟩
                  refine ⟨_, rfl, ?_⟩
                  have n0_ := Aside0.mk (blk_below (g := gb215) (o := .cells #[.int .u8 x216000_1, .int .u8 x216001_1, .int .u8 x216002_1, .int .u8 x216003_1] 23 (0, 0)) (by (with_reducible repeat (first | refine blk_drewN ?_ _ | refine blk_drew ?_ | refine blk_alloc ?_ _)); exact BK215.out) hb)
                  have n1_ := Aside0.mk (below_step (by repeat (first | (with_reducible first | exact HB.out | apply below_alloc | apply pw_below_drewN | apply below_drew1 | refine below_set ?_ GE215.out) | exact HB.out)) hb)
                  clear BK215
                  clear HB
                  have BK215 := n0_
                  have HB := n1_
                  clear n0_ n1_
                  (try clear hb)
                  (try clear hb2)
                  (try clear hk)
                  (try clear hi)
                  refine hK.out _ _ ⟨(blk_cell BK215.out 0).trans rfl, (blk_cell BK215.out 1).trans rfl, (blk_cell BK215.out 2).trans rfl, (blk_cell BK215.out 3).trans rfl⟩ (fun hHeld => ?_)
                  clear hK K
                  refine norm_ (a' := ?_) ?_ ?_
                  rotate_left
                  · show Act.put _ (some 41) _ = _
                    simp only [Act.put, List.setIfInBounds_toArray, List.set_cons_zero, List.set_cons_succ, i64_w, i32_w]
                    rfl
                  refine pure_ (i := 9) (N := some 32) (v := ?_) (a' := ?_) #[true, true, true, true, true, true, true, true, true, true, false, false, false, false, false, false, false] rfl rfl (any_of HT_.out (by kernel_rfl)) (fun _ _ _ h => h) (Or.inl ⟨by rfl, ?_⟩) ?_ ?_
                  rotate_left
                  · intro w'
                    go_simp
                    with_reducible rfl
                  rotate_left
                  · simp only [Act.put, List.setIfInBounds_toArray, List.set_cons_zero, List.set_cons_succ, i64_w, i32_w]
                    rfl
                  refine pure_ (i := 10) (N := some 42) (v := ?_) (a' := ?_) #[true, true, true, true, true, true, true, true, true, true, true, false, false, false, false, false, false] rfl rfl (any_of HT_.out (by kernel_rfl)) (fun _ _ _ h => h) (Or.inl ⟨by rfl, ?_⟩) ?_ ?_
                  rotate_left
                  · intro w'
                    go_simp
                    with_reducible rfl
                  rotate_left
                  · simp only [Act.put, List.setIfInBounds_toArray, List.set_cons_zero, List.set_cons_succ, i64_w, i32_w]
                    rfl
                  refine pure_ (i := 11) (N := some 43) (v := ?_) (a' := ?_) #[true, true, true, true, true, true, true, true, true, true, true, true, false, false, false, false, false] rfl rfl (any_of HT_.out (by kernel_rfl)) (fun _ _ _ h => h) (Or.inl ⟨by rfl, ?_⟩) ?_ ?_
                  rotate_left
                  · intro w'
                    go_simp
                    with_reducible rfl
                  rotate_left
                  · simp only [Act.put, List.setIfInBounds_toArray, List.set_cons_zero, List.set_cons_succ, i64_w, i32_w]
                    rfl
                  refine pure_ (i := 12) (N := some 44) (v := ?_) (a' := ?_) #[true, true, true, true, true, true, true, true, true, true, true, true, true, false, false, false, false] rfl rfl (any_of HT_.out (by kernel_rfl)) (fun _ _ _ h => h) (Or.inl ⟨by rfl, ?_⟩) ?_ ?_
                  rotate_left
                  · intro w'
                    go_simp
                    with_reducible rfl
                  rotate_left
                  · simp only [Act.put, List.setIfInBounds_toArray, List.set_cons_zero, List.set_cons_succ, i64_w, i32_w]
                    rfl
                  refine one_ (i := 13) (N := some 12) #[true, true, true, true, true, true, true, true, true, true, true, true, true, true, false, false, false] rfl rfl (one_of HT_.out (by kernel_rfl)) (by decide) (fun K hK => ?_)
                  refine box_step ?hg (N := 12) ?hd (cs := #[.int .u8 0, .int .u8 0, .int .u8 0, .int .u8 0]) (t := 23) ?hr ?_; (case hd => rfl); (case hg => rfl); (case hr => first | (go_simp; done) | (go_simp; rfl))
                  intro gb222 hg w25 hbox hb
                  have n0_ := Aside0.mk (blk_below (g := gb215) (o := .cells #[.int .u8 x216000_1, .int .u8 x216001_1, .int .u8 x216002_1, .int .u8 x216003_1] 23 (0, 0)) (by (with_reducible repeat (first | refine blk_drewN ?_ _ | refine blk_drew ?_ | refine blk_alloc ?_ _)); exact BK215.out) hb)
                  have n1_ := Aside0.mk (below_step (by repeat (first | (with_reducible first | exact HB.out | apply below_alloc | apply pw_below_drewN | apply below_drew1 | refine below_set ?_ GE215.out) | exact HB.out)) hb)
                  have n2_ := Aside0.mk (hbox)
                  have n3_ := Aside0.mk ((by rw [hg]; exact (below_size (by repeat (first | (with_reducible first | exact HB.out | apply below_alloc | apply pw_below_drewN | apply below_drew1 | refine below_set ?_ GE215.out) | exact HB.out))) : w.heap.size ≤ gb222))
                  have n4_ := Aside0.mk ((by rw [hg]; exact (below_size (by repeat (first | (with_reducible first | exact HB.out | apply below_alloc | apply pw_below_drewN | apply below_drew1 | refine below_set ?_ GE215.out) | exact HB.out))) : w.heap.size ≤ gb222))
                  have n5_ := Aside0.mk ((by rw [hg]; exact Nat.ne_of_lt (blk_lt (g := gb215) (o := .cells #[.int .u8 x216000_1, .int .u8 x216001_1, .int .u8 x216002_1, .int .u8 x216003_1] 23 (0, 0)) (by (with_reducible repeat (first | refine blk_drewN ?_ _ | refine blk_drew ?_ | refine blk_alloc ?_ _)); exact BK215.out)) : gb215 ≠ gb222))
                  have n6_ := Aside0.mk ((by rw [hg]; exact Nat.ne_of_gt (blk_lt (g := gb215) (o := .cells #[.int .u8 x216000_1, .int .u8 x216001_1, .int .u8 x216002_1, .int .u8 x216003_1] 23 (0, 0)) (by (with_reducible repeat (first | refine blk_drewN ?_ _ | refine blk_drew ?_ | refine blk_alloc ?_ _)); exact BK215.out)) : gb222 ≠ gb215))
                  clear BK215
                  clear HB
                  have BK215 := n0_
                  have HB := n1_
                  have BK222 := n2_
                  have GW222 := n3_
                  have GE222 := n4_
                  have NB215_222 := n5_
                  have NB222_215 := n6_
                  clear n0_ n1_ n2_ n3_ n4_ n5_ n6_
                  clear hb hbox hg
                  refine hK.out _ _ ⟨(blk_cell BK215.out 0).trans rfl, (blk_cell BK215.out 1).trans rfl, (blk_cell BK215.out 2).trans rfl, (blk_cell BK215.out 3).trans rfl⟩ (fun hHeld => ?_)
                  clear hK K
                  refine norm_ (a' := ?_) ?_ ?_
                  rotate_left
                  · show Act.put _ (some 12) _ = _
                    simp only [Act.put, List.setIfInBounds_toArray, List.set_cons_zero, List.set_cons_succ, i64_w, i32_w]
                    rfl
                  exact norm_ (by simp only [putAll, Act.put, List.setIfInBounds_toArray, List.set_cons_zero, List.set_cons_succ]) (hCont (gb222) _ ⟨hHeld, (by (with_reducible repeat (first | refine blk_drewN ?_ _ | refine blk_drew ?_ | refine blk_alloc ?_ _)); exact BK215.out), (by (with_reducible repeat (first | refine blk_drewN ?_ _ | refine blk_drew ?_ | refine blk_alloc ?_ _)); exact BK222.out), GW222.out, GE222.out, NB215_222.out, NB222_215.out, (by repeat (first | (with_reducible first | exact HB.out | apply below_alloc | apply pw_below_drewN | apply below_drew1 | refine below_set ?_ GE215.out | refine below_set ?_ GE222.out) | exact HB.out))⟩)
                · skip
                  refine box_step ?hg (N := 12) ?hd (cs := #[.int .u8 0, .int .u8 0, .int .u8 0, .int .u8 0]) (t := 23) ?hr ?_; (case hd => rfl); (case hg => rfl); (case hr => first | (go_simp; done) | (go_simp; rfl))
                  intro gb222 hg w24 hbox hb
                  have n0_ := Aside0.mk (blk_below (g := gb215) (o := .cells #[.int .u8 x216000_1, .int .u8 x216001_1, .int .u8 x216002_1, .int .u8 x216003_1] 23 (0, 0)) (by (with_reducible repeat (first | refine blk_drewN ?_ _ | refine blk_drew ?_ | refine blk_alloc ?_ _)); exact BK215.out) hb)
                  have n1_ := Aside0.mk (below_step (by repeat (first | (with_reducible first | exact HB.out | apply below_alloc | apply pw_below_drewN | apply below_drew1 | refine below_set ?_ GE215.out) | exact HB.out)) hb)
                  have n2_ := Aside0.mk (hbox)
                  have n3_ := Aside0.mk ((by rw [hg]; exact (below_size (by repeat (first | (with_reducible first | exact HB.out | apply below_alloc | apply pw_below_drewN | apply below_drew1 | refine below_set ?_ GE215.out) | exact HB.out))) : w.heap.size ≤ gb222))
                  have n4_ := Aside0.mk ((by rw [hg]; exact (below_size (by repeat (first | (with_reducible first | exact HB.out | apply below_alloc | apply pw_below_drewN | apply below_drew1 | refine below_set ?_ GE215.out) | exact HB.out))) : w.heap.size ≤ gb222))
                  have n5_ := Aside0.mk ((by rw [hg]; exact Nat.ne_of_lt (blk_lt (g := gb215) (o := .cells #[.int .u8 x216000_1, .int .u8 x216001_1, .int .u8 x216002_1, .int .u8 x216003_1] 23 (0, 0)) (by (with_reducible repeat (first | refine blk_drewN ?_ _ | refine blk_drew ?_ | refine blk_alloc ?_ _)); exact BK215.out)) : gb215 ≠ gb222))
                  have n6_ := Aside0.mk ((by rw [hg]; exact Nat.ne_of_gt (blk_lt (g := gb215) (o := .cells #[.int .u8 x216000_1, .int .u8 x216001_1, .int .u8 x216002_1, .int .u8 x216003_1] 23 (0, 0)) (by (with_reducible repeat (first | refine blk_drewN ?_ _ | refine blk_drew ?_ | refine blk_alloc ?_ _)); exact BK215.out)) : gb222 ≠ gb215))
                  clear BK215
                  clear HB
                  have BK215 := n0_
                  have HB := n1_
                  have BK222 := n2_
                  have GW222 := n3_
                  have GE222 := n4_
                  have NB215_222 := n5_
                  have NB222_215 := n6_
                  clear n0_ n1_ n2_ n3_ n4_ n5_ n6_
                  clear hb hbox hg
                  refine hK.out _ _ ⟨(blk_cell BK215.out 0).trans rfl, (blk_cell BK215.out 1).trans rfl, (blk_cell BK215.out 2).trans rfl, (blk_cell BK215.out 3).trans rfl⟩ (fun hHeld => ?_)
                  clear hK K
                  refine norm_ (a' := ?_) ?_ ?_
                  rotate_left
                  · show Act.put _ (some 12) _ = _
                    simp only [Act.put, List.setIfInBounds_toArray, List.set_cons_zero, List.set_cons_succ, i64_w, i32_w]
                    rfl
                  refine one_ (i := 8) (N := some 41) #[true, true, true, true, true, true, true, true, true, false, false, false, false, true, false, false, false] rfl rfl (one_of HT_.out (by kernel_rfl)) (by decide) (fun K hK => ?_)
                  refine goes_ Try.func10 (by kernel_rfl) rfl #[.agg #[.int .u8 x216000_1, .int .u8 x216001_1, .int .u8 x216002_1, .int .u8 x216003_1], .bool ((Go.bits .and .u8 (ji15) 1) == 1), .bool ((Go.bits .and .u8 (ji18) 1) == 1)] (by rfl) rfl rfl (by (try simp only [List.map_toArray, List.map_cons, List.map_nil]); first | done | (simp only [hji15, hji18]; rfl) | rfl | (simp only [List.length_drop, List.length_take]; rfl)) ?_
                  with_reducible refine (serial_Step.calls x216000_1 x216001_1 x216002_1 x216003_1 ((Go.bits .and .u8 (ji15) 1) == 1) ((Go.bits .and .u8 (ji18) 1) == 1) t216 t217 t218 t219 t220 t221 _ A19.out).mono ?_
                  rintro e w25 ⟨rfl, hb⟩
                  refine ⟨_, rfl, ?_⟩
                  have n0_ := Aside0.mk (blk_below (g := gb215) (o := .cells #[.int .u8 x216000_1, .int .u8 x216001_1, .int .u8 x216002_1, .int .u8 x216003_1] 23 (0, 0)) (by (with_reducible repeat (first | refine blk_drewN ?_ _ | refine blk_drew ?_ | refine blk_alloc ?_ _)); exact BK215.out) hb)
                  have n1_ := Aside0.mk (blk_below (g := gb222) (o := .cells #[.int .u8 0, .int .u8 0, .int .u8 0, .int .u8 0] 23 (0, 0)) (by (with_reducible repeat (first | refine blk_drewN ?_ _ | refine blk_drew ?_ | refine blk_alloc ?_ _)); exact BK222.out) hb)
                  have n2_ := Aside0.mk (below_step (by repeat (first | (with_reducible first | exact HB.out | apply below_alloc | apply pw_below_drewN | apply below_drew1 | refine below_set ?_ GE215.out | refine below_set ?_ GE222.out) | exact HB.out)) hb)
                  clear BK215
                  clear BK222
                  clear HB
                  have BK215 := n0_
                  have BK222 := n1_
                  have HB := n2_
                  clear n0_ n1_ n2_
                  (try clear hb)
                  (try clear hb2)
                  (try clear hk)
                  (try clear hi)
                  refine hK.out _ _ ⟨(blk_cell BK215.out 0).trans rfl, (blk_cell BK215.out 1).trans rfl, (blk_cell BK215.out 2).trans rfl, (blk_cell BK215.out 3).trans rfl⟩ (fun hHeld => ?_)
                  clear hK K
                  refine norm_ (a' := ?_) ?_ ?_
                  rotate_left
                  · show Act.put _ (some 41) _ = _
                    simp only [Act.put, List.setIfInBounds_toArray, List.set_cons_zero, List.set_cons_succ, i64_w, i32_w]
                    rfl
                  refine pure_ (i := 9) (N := some 32) (v := ?_) (a' := ?_) #[true, true, true, true, true, true, true, true, true, true, false, false, false, true, false, false, false] rfl rfl (any_of HT_.out (by kernel_rfl)) (fun _ _ _ h => h) (Or.inl ⟨by rfl, ?_⟩) ?_ ?_
                  rotate_left
                  · intro w'
                    go_simp
                    with_reducible rfl
                  rotate_left
                  · simp only [Act.put, List.setIfInBounds_toArray, List.set_cons_zero, List.set_cons_succ, i64_w, i32_w]
                    rfl
                  refine pure_ (i := 10) (N := some 42) (v := ?_) (a' := ?_) #[true, true, true, true, true, true, true, true, true, true, true, false, false, true, false, false, false] rfl rfl (any_of HT_.out (by kernel_rfl)) (fun _ _ _ h => h) (Or.inl ⟨by rfl, ?_⟩) ?_ ?_
                  rotate_left
                  · intro w'
                    go_simp
                    with_reducible rfl
                  rotate_left
                  · simp only [Act.put, List.setIfInBounds_toArray, List.set_cons_zero, List.set_cons_succ, i64_w, i32_w]
                    rfl
                  refine pure_ (i := 11) (N := some 43) (v := ?_) (a' := ?_) #[true, true, true, true, true, true, true, true, true, true, true, true, false, true, false, false, false] rfl rfl (any_of HT_.out (by kernel_rfl)) (fun _ _ _ h => h) (Or.inl ⟨by rfl, ?_⟩) ?_ ?_
                  rotate_left
                  · intro w'
                    go_simp
                    with_reducible rfl
                  rotate_left
                  · simp only [Act.put, List.setIfInBounds_toArray, List.set_cons_zero, List.set_cons_succ, i64_w, i32_w]
                    rfl
                  refine pure_ (i := 12) (N := some 44) (v := ?_) (a' := ?_) #[true, true, true, true, true, true, true, true, true, true, true, true, true, true, false, false, false] rfl rfl (any_of HT_.out (by kernel_rfl)) (fun _ _ _ h => h) (Or.inl ⟨by rfl, ?_⟩) ?_ ?_
                  rotate_left
                  · intro w'
                    go_simp
                    with_reducible rfl
                  rotate_left
                  · simp only [Act.put, List.setIfInBounds_toArray, List.set_cons_zero, List.set_cons_succ, i64_w, i32_w]
                    rfl
                  exact norm_ (by simp only [putAll, Act.put, List.setIfInBounds_toArray, List.set_cons_zero, List.set_cons_succ]) (hCont (gb222) _ ⟨hHeld, (by (with_reducible repeat (first | refine blk_drewN ?_ _ | refine blk_drew ?_ | refine blk_alloc ?_ _)); exact BK215.out), (by (with_reducible repeat (first | refine blk_drewN ?_ _ | refine blk_drew ?_ | refine blk_alloc ?_ _)); exact BK222.out), GW222.out, GE222.out, NB215_222.out, NB222_215.out, (by repeat (first | (with_reducible first | exact HB.out | apply below_alloc | apply pw_below_drewN | apply below_drew1 | refine below_set ?_ GE215.out | refine below_set ?_ GE222.out) | exact HB.out))⟩)
              rintro gb222 w26 ⟨hS_, h0_, h1_, h2_, h3_, h4_, h5_, h6_⟩
              have n0_ : Aside0 (w26.heap[gb215]? = some (.cells #[.int .u8 x216000_1, .int .u8 x216001_1, .int .u8 x216002_1, .int .u8 x216003_1] 23 (0, 0))) := ⟨h0_⟩
              have n1_ : Aside0 (w26.heap[gb222]? = some (.cells #[.int .u8 0, .int .u8 0, .int .u8 0, .int .u8 0] 23 (0, 0))) := ⟨h1_⟩
              have n2_ : Aside0 (w.heap.size ≤ gb222) := ⟨h2_⟩
              have n3_ : Aside0 (w.heap.size ≤ gb222) := ⟨h3_⟩
              have n4_ : Aside0 (gb215 ≠ gb222) := ⟨h4_⟩
              have n5_ : Aside0 (gb222 ≠ gb215) := ⟨h5_⟩
              have n6_ : Aside0 (Below w.heap.size w w26) := ⟨h6_⟩
              clear BK215
              clear HB
              clear h0_ h1_ h2_ h3_ h4_ h5_ h6_
              have BK215 := n0_
              have BK222 := n1_
              have GW222 := n2_
              have GE222 := n3_
              have NB215_222 := n4_
              have NB222_215 := n5_
              have HB := n6_
              clear n0_ n1_ n2_ n3_ n4_ n5_ n6_
              have hHeld : w26.cell? ⟨gb215, 0, none⟩ = some (.int .u8 x216000_1) ∧ w26.cell? ⟨gb215, 1, none⟩ = some (.int .u8 x216001_1) ∧ w26.cell? ⟨gb215, 2, none⟩ = some (.int .u8 x216002_1) ∧ w26.cell? ⟨gb215, 3, none⟩ = some (.int .u8 x216003_1) := hS_
              refine norm_ (a' := ?_) ?_ ?_
              rotate_left
              · simp only [putAll, Act.put, List.setIfInBounds_toArray, List.set_cons_zero, List.set_cons_succ]
                rfl
              refine one_ (i := 14) (N := none) #[true, true, true, true, true, true, true, true, true, true, true, true, true, true, true, false, false] rfl rfl (one_of HT_.out (by kernel_rfl)) (by decide) (fun K hK => ?_)
              have hs27 : w26.cell? ⟨gb222, 0, none⟩ = some (.int .u8 0) := (blk_cell BK222.out 0).trans rfl
              have hfs27 := blk_frozen BK222.out 0
              have hns27_0 := NB215_222.out
              have hms27_0 := NB222_215.out
              have hs28 : w26.cell? ⟨gb222, 1, none⟩ = some (.int .u8 0) := (blk_cell BK222.out 1).trans rfl
              have hfs28 := blk_frozen BK222.out 1
              have hns28_0 := NB215_222.out
              have hms28_0 := NB222_215.out
              have hs29 : w26.cell? ⟨gb222, 2, none⟩ = some (.int .u8 0) := (blk_cell BK222.out 2).trans rfl
              have hfs29 := blk_frozen BK222.out 2
              have hns29_0 := NB215_222.out
              have hms29_0 := NB222_215.out
              have hs30 : w26.cell? ⟨gb222, 3, none⟩ = some (.int .u8 0) := (blk_cell BK222.out 3).trans rfl
              have hfs30 := blk_frozen BK222.out 3
              have hns30_0 := NB215_222.out
              have hms30_0 := NB222_215.out
              refine skip_ (w1 := ?_) (by rfl) rfl ?_ ?_
              rotate_left
              · go_simp
                rfl
              refine hK.out _ _ ⟨((cell_far (p := ⟨gb222, _, none⟩) NB215_222.out _).trans (((cell_far (p := ⟨gb222, _, none⟩) NB215_222.out _).trans (((cell_far (p := ⟨gb222, _, none⟩) NB215_222.out _).trans (((cell_far (p := ⟨gb222, _, none⟩) NB215_222.out _).trans (hHeld.1)))))))), ((cell_far (p := ⟨gb222, _, none⟩) NB215_222.out _).trans (((cell_far (p := ⟨gb222, _, none⟩) NB215_222.out _).trans (((cell_far (p := ⟨gb222, _, none⟩) NB215_222.out _).trans (((cell_far (p := ⟨gb222, _, none⟩) NB215_222.out _).trans (hHeld.2.1)))))))), ((cell_far (p := ⟨gb222, _, none⟩) NB215_222.out _).trans (((cell_far (p := ⟨gb222, _, none⟩) NB215_222.out _).trans (((cell_far (p := ⟨gb222, _, none⟩) NB215_222.out _).trans (((cell_far (p := ⟨gb222, _, none⟩) NB215_222.out _).trans (hHeld.2.2.1)))))))), ((cell_far (p := ⟨gb222, _, none⟩) NB215_222.out _).trans (((cell_far (p := ⟨gb222, _, none⟩) NB215_222.out _).trans (((cell_far (p := ⟨gb222, _, none⟩) NB215_222.out _).trans (((cell_far (p := ⟨gb222, _, none⟩) NB215_222.out _).trans (hHeld.2.2.2))))))))⟩ (fun hHeld => ?_)
              clear hK K
              refine pure_ (i := 15) (N := some 13) (v := ?_) (a' := ?_) #[true, true, true, true, true, true, true, true, true, true, true, true, true, true, true, true, false] rfl rfl (any_of HT_.out (by kernel_rfl)) (fun _ _ _ h => h) (Or.inl ⟨by rfl, ?_⟩) ?_ ?_
              rotate_left
              · intro w'
                go_simp
                with_reducible rfl
              rotate_left
              · simp only [Act.put, List.setIfInBounds_toArray, List.set_cons_zero, List.set_cons_succ, i64_w, i32_w]
                rfl
              refine pure_ (i := 16) (N := some 14) (v := ?_) (a' := ?_) #[true, true, true, true, true, true, true, true, true, true, true, true, true, true, true, true, true] rfl rfl (any_of HT_.out (by kernel_rfl)) (fun _ _ _ h => h) (Or.inl ⟨by rfl, ?_⟩) ?_ ?_
              rotate_left
              · intro w'
                go_simp
                with_reducible rfl
              rotate_left
              · simp only [Act.put, List.setIfInBounds_toArray, List.set_cons_zero, List.set_cons_succ, i64_w, i32_w]
                rfl
              refine done_ (done_of HT_.out (by kernel_rfl)) ?_
              try go_wp2
              go_ret
              exact ⟨by first | rfl | (simp [errW_none, errW_some] <;> rfl) | (simp only [← hji13, ← hji15, ← hji16, ← hji18, ← hji21]; first | rfl | (simp [errW_none, errW_some] <;> rfl)) | (simp [*, errW_none, errW_some] <;> rfl), by repeat (first | (with_reducible first | exact HB.out | apply below_alloc | apply pw_below_drewN | apply below_drew1 | refine below_set ?_ GE215.out | refine below_set ?_ GE222.out) | exact HB.out)⟩
            · rw [if_neg c22] at H
              have c22b0 : (t220 != ((Go.bits .and .u8 (ji21) 1) == 1)) = false := by simpa using c22
              (try (have c22b1 : decide (t220 = ((Go.bits .and .u8 (ji21) 1) == 1)) = true := by simpa using c22))
              (try (have c22b2 : (t220 == ((Go.bits .and .u8 (ji21) 1) == 1)) = true := by simpa using c22))
              clear c22
              by_cases c31 : (t221 != (x9_1 == 1023)) = true
              · rw [if_pos c31] at H
                have c31b0 : (t221 != (x9_1 == 1023)) = true := c31
                (try (have c31b1 : decide (t221 = (x9_1 == 1023)) = false := by simpa using c31))
                (try (have c31b2 : (t221 == (x9_1 == 1023)) = false := by simpa using c31))
                (try (have c31b3 : ¬ (t221 = (x9_1 == 1023)) := by simpa using c31))
                clear c31
                obtain rfl := Option.some.inj H
                try go_wp2
                have n0_ := Aside0.mk (blk_drew BK215.out)
                have n1_ := Aside0.mk (below_drew1 HB.out)
                clear BK215
                clear HB
                have BK215 := n0_
                have HB := n1_
                clear n0_ n1_
                refine start_ (n := 17) (S := fun w' => w'.cell? ⟨gb215, 0, none⟩ = some (.int .u8 x216000_1) ∧ w'.cell? ⟨gb215, 1, none⟩ = some (.int .u8 x216001_1) ∧ w'.cell? ⟨gb215, 2, none⟩ = some (.int .u8 x216002_1) ∧ w'.cell? ⟨gb215, 3, none⟩ = some (.int .u8 x216003_1)) (ds := []) #[false, false, false, false, false, false, false, false, false, false, false, false, false, false, false, false, false] (by kernel_rfl) rfl rfl ⟨(blk_cell BK215.out 0).trans rfl, (blk_cell BK215.out 1).trans rfl, (blk_cell BK215.out 2).trans rfl, (blk_cell BK215.out 3).trans rfl⟩ (fun hHeld => ?_); refine with_tabW whirligiglaw12_SerialEight.tab8 whirligiglaw12_SerialEight.bits8 (fun HT_ HW_ => ?_)
                generalize wr.drew = w32 at BK215 HB hHeld ⊢
                refine pure_ (i := 1) (N := some 34) (v := ?_) (a' := ?_) #[false, true, false, false, false, false, false, false, false, false, false, false, false, false, false, false, false] rfl rfl (any_of HT_.out (by kernel_rfl)) (fun _ _ _ h => h) (Or.inl ⟨by rfl, ?_⟩) ?_ ?_
                rotate_left
                · intro w'
                  go_simp
                  with_reducible rfl
                rotate_left
                · simp only [Act.put, List.setIfInBounds_toArray, List.set_cons_zero, List.set_cons_succ, i64_w, i32_w]
                  rfl
                refine pure_ (i := 2) (N := some 35) (v := ?_) (a' := ?_) #[false, true, true, false, false, false, false, false, false, false, false, false, false, false, false, false, false] rfl rfl (any_of HT_.out (by kernel_rfl)) (fun _ _ _ h => h) (Or.inl ⟨by rfl, ?_⟩) ?_ ?_
                rotate_left
                · intro w'
                  go_simp
                  with_reducible rfl
                rotate_left
                · simp only [Act.put, List.setIfInBounds_toArray, List.set_cons_zero, List.set_cons_succ, i64_w, i32_w]
                  rfl
                refine pure_ (i := 3) (N := some 36) (v := ?_) (a' := ?_) #[false, true, true, true, false, false, false, false, false, false, false, false, false, false, false, false, false] rfl rfl (any_of HT_.out (by kernel_rfl)) (fun _ _ _ h => h) (Or.inl ⟨by rfl, ?_⟩) ?_ ?_
                rotate_left
                · intro w'
                  go_simp
                  with_reducible rfl
                rotate_left
                · simp only [Act.put, List.setIfInBounds_toArray, List.set_cons_zero, List.set_cons_succ, i64_w, i32_w]
                  rfl
                refine pure_ (i := 4) (N := some 37) (v := ?_) (a' := ?_) #[false, true, true, true, true, false, false, false, false, false, false, false, false, false, false, false, false] rfl rfl (any_of HT_.out (by kernel_rfl)) (fun _ _ _ h => h) (Or.inl ⟨by rfl, ?_⟩) ?_ ?_
                rotate_left
                · intro w'
                  go_simp
                  with_reducible rfl
                rotate_left
                · simp only [Act.put, List.setIfInBounds_toArray, List.set_cons_zero, List.set_cons_succ, i64_w, i32_w]
                  rfl
                refine pure_ (i := 5) (N := some 38) (v := ?_) (a' := ?_) #[false, true, true, true, true, true, false, false, false, false, false, false, false, false, false, false, false] rfl rfl (any_of HT_.out (by kernel_rfl)) (fun _ _ _ h => h) (Or.inl ⟨by rfl, ?_⟩) ?_ ?_
                rotate_left
                · intro w'
                  go_simp
                  with_reducible rfl
                rotate_left
                · simp only [Act.put, List.setIfInBounds_toArray, List.set_cons_zero, List.set_cons_succ, i64_w, i32_w]
                  rfl
                refine pure_ (i := 6) (N := some 39) (v := ?_) (a' := ?_) #[false, true, true, true, true, true, true, false, false, false, false, false, false, false, false, false, false] rfl rfl (any_of HT_.out (by kernel_rfl)) (fun _ _ _ h => h) (Or.inl ⟨by rfl, ?_⟩) ?_ ?_
                rotate_left
                · intro w'
                  go_simp
                  with_reducible rfl
                rotate_left
                · simp only [Act.put, List.setIfInBounds_toArray, List.set_cons_zero, List.set_cons_succ, i64_w, i32_w]
                  rfl
                refine pure_ (i := 7) (N := some 40) (v := ?_) (a' := ?_) #[false, true, true, true, true, true, true, true, false, false, false, false, false, false, false, false, false] rfl rfl (any_of HT_.out (by kernel_rfl)) (fun _ _ _ h => h) (Or.inl ⟨by rfl, ?_⟩) ?_ ?_
                rotate_left
                · intro w'
                  go_simp
                  with_reducible rfl
                rotate_left
                · simp only [Act.put, List.setIfInBounds_toArray, List.set_cons_zero, List.set_cons_succ, i64_w, i32_w]
                  rfl
                refine take_ (i := 0) (N := some 33) (v := ?_) (a' := ?_) #[true, true, true, true, true, true, true, true, false, false, false, false, false, false, false, false, false] rfl rfl (take_ofW HT_.out HW_.out (by kernel_rfl)) (fun _ _ _ h => h) (Or.inl ⟨by rfl, ?_⟩) hHeld ?_ ?_
                rotate_left
                · rintro w' ⟨s0, s1, s2, s3⟩
                  go_simp
                  with_reducible rfl
                rotate_left
                · simp only [Act.put, List.setIfInBounds_toArray, List.set_cons_zero, List.set_cons_succ, i64_w, i32_w]
                  rfl
                refine join_ (σ := Nat) 3 #[true, true, true, true, true, true, true, true, true, true, true, true, true, true, false, false, false] (fun s_ => [(41, .tuple #[.agg #[.int .u8 t216, .int .u8 t217, .int .u8 t218, .int .u8 t219], .bool t220, .bool t221]), (12, .pointer (some ⟨s_, 0, none⟩)), (32, .tuple #[.agg #[.int .u8 t216, .int .u8 t217, .int .u8 t218, .int .u8 t219], .bool t220, .bool t221]), (42, .agg #[.int .u8 t216, .int .u8 t217, .int .u8 t218, .int .u8 t219]), (43, .bool t220), (44, .bool t221)]) (fun s_ w' => (w'.cell? ⟨gb215, 0, none⟩ = some (.int .u8 x216000_1) ∧ w'.cell? ⟨gb215, 1, none⟩ = some (.int .u8 x216001_1) ∧ w'.cell? ⟨gb215, 2, none⟩ = some (.int .u8 x216002_1) ∧ w'.cell? ⟨gb215, 3, none⟩ = some (.int .u8 x216003_1)) ∧ (w'.heap[gb215]? = some (.cells #[.int .u8 x216000_1, .int .u8 x216001_1, .int .u8 x216002_1, .int .u8 x216003_1] 23 (0, 0))) ∧ (w'.heap[s_]? = some (.cells #[.int .u8 0, .int .u8 0, .int .u8 0, .int .u8 0] 23 (0, 0))) ∧ (w.heap.size ≤ s_) ∧ (w.heap.size ≤ s_) ∧ (gb215 ≠ s_) ∧ (s_ ≠ gb215) ∧ (Below w.heap.size w w')) ?_ ?_
                rotate_left
                · intro hCont
                  refine two_ (i := 8) (j := 13) (Ni := some 41) (Nj := some 12) #[true, true, true, true, true, true, true, true, true, false, false, false, false, false, false, false, false] #[true, true, true, true, true, true, true, true, false, false, false, false, false, true, false, false, false] rfl rfl rfl rfl (two_of HT_.out (by kernel_rfl)) (by decide) (by decide) (fun K hK => ?_) (fun K hK => ?_)
                  · skip
                    refine goes_ Try.func10 (by kernel_rfl) rfl #[.agg #[.int .u8 x216000_1, .int .u8 x216001_1, .int .u8 x216002_1, .int .u8 x216003_1], .bool ((Go.bits .and .u8 (ji15) 1) == 1), .bool ((Go.bits .and .u8 (ji18) 1) == 1)] (by rfl) rfl rfl (by (try simp only [List.map_toArray, List.map_cons, List.map_nil]); first | done | (simp only [hji15, hji18]; rfl) | rfl | (simp only [List.length_drop, List.length_take]; rfl)) ?_
                    with_reducible refine (serial_Step.calls x216000_1 x216001_1 x216002_1 x216003_1 ((Go.bits .and .u8 (ji15) 1) == 1) ((Go.bits .and .u8 (ji18) 1) == 1) t216 t217 t218 t219 t220 t221 _ A19.out).mono ?_
                    rintro e w33 ⟨rfl, hb⟩
                    refine ⟨_, rfl, ?_⟩
                    have n0_ := Aside0.mk (blk_below (g := gb215) (o := .cells #[.int .u8 x216000_1, .int .u8 x216001_1, .int .u8 x216002_1, .int .u8 x216003_1] 23 (0, 0)) (by (with_reducible repeat (first | refine blk_drewN ?_ _ | refine blk_drew ?_ | refine blk_alloc ?_ _)); exact BK215.out) hb)
                    have n1_ := Aside0.mk (below_step (by repeat (first | (with_reducible first | exact HB.out | apply below_alloc | apply pw_below_drewN | apply below_drew1 | refine below_set ?_ GE215.out) | exact HB.out)) hb)
                    clear BK215
                    clear HB
                    have BK215 := n0_
                    have HB := n1_
                    clear n0_ n1_
                    (try clear hb)
                    (try clear hb2)
                    (try clear hk)
                    (try clear hi)
                    refine hK.out _ _ ⟨(blk_cell BK215.out 0).trans rfl, (blk_cell BK215.out 1).trans rfl, (blk_cell BK215.out 2).trans rfl, (blk_cell BK215.out 3).trans rfl⟩ (fun hHeld => ?_)
                    clear hK K
                    refine norm_ (a' := ?_) ?_ ?_
                    rotate_left
                    · show Act.put _ (some 41) _ = _
                      simp only [Act.put, List.setIfInBounds_toArray, List.set_cons_zero, List.set_cons_succ, i64_w, i32_w]
                      rfl
                    refine pure_ (i := 9) (N := some 32) (v := ?_) (a' := ?_) #[true, true, true, true, true, true, true, true, true, true, false, false, false, false, false, false, false] rfl rfl (any_of HT_.out (by kernel_rfl)) (fun _ _ _ h => h) (Or.inl ⟨by rfl, ?_⟩) ?_ ?_
                    rotate_left
                    · intro w'
                      go_simp
                      with_reducible rfl
                    rotate_left
                    · simp only [Act.put, List.setIfInBounds_toArray, List.set_cons_zero, List.set_cons_succ, i64_w, i32_w]
                      rfl
                    refine pure_ (i := 10) (N := some 42) (v := ?_) (a' := ?_) #[true, true, true, true, true, true, true, true, true, true, true, false, false, false, false, false, false] rfl rfl (any_of HT_.out (by kernel_rfl)) (fun _ _ _ h => h) (Or.inl ⟨by rfl, ?_⟩) ?_ ?_
                    rotate_left
                    · intro w'
                      go_simp
                      with_reducible rfl
                    rotate_left
                    · simp only [Act.put, List.setIfInBounds_toArray, List.set_cons_zero, List.set_cons_succ, i64_w, i32_w]
                      rfl
                    refine pure_ (i := 11) (N := some 43) (v := ?_) (a' := ?_) #[true, true, true, true, true, true, true, true, true, true, true, true, false, false, false, false, false] rfl rfl (any_of HT_.out (by kernel_rfl)) (fun _ _ _ h => h) (Or.inl ⟨by rfl, ?_⟩) ?_ ?_
                    rotate_left
                    · intro w'
                      go_simp
                      with_reducible rfl
                    rotate_left
                    · simp only [Act.put, List.setIfInBounds_toArray, List.set_cons_zero, List.set_cons_succ, i64_w, i32_w]
                      rfl
                    refine pure_ (i := 12) (N := some 44) (v := ?_) (a' := ?_) #[true, true, true, true, true, true, true, true, true, true, true, true, true, false, false, false, false] rfl rfl (any_of HT_.out (by kernel_rfl)) (fun _ _ _ h => h) (Or.inl ⟨by rfl, ?_⟩) ?_ ?_
                    rotate_left
                    · intro w'
                      go_simp
                      with_reducible rfl
                    rotate_left
                    · simp only [Act.put, List.setIfInBounds_toArray, List.set_cons_zero, List.set_cons_succ, i64_w, i32_w]
                      rfl
                    refine one_ (i := 13) (N := some 12) #[true, true, true, true, true, true, true, true, true, true, true, true, true, true, false, false, false] rfl rfl (one_of HT_.out (by kernel_rfl)) (by decide) (fun K hK => ?_)
                    refine box_step ?hg (N := 12) ?hd (cs := #[.int .u8 0, .int .u8 0, .int .u8 0, .int .u8 0]) (t := 23) ?hr ?_; (case hd => rfl); (case hg => rfl); (case hr => first | (go_simp; done) | (go_simp; rfl))
                    intro gb222 hg w34 hbox hb
                    have n0_ := Aside0.mk (blk_below (g := gb215) (o := .cells #[.int .u8 x216000_1, .int .u8 x216001_1, .int .u8 x216002_1, .int .u8 x216003_1] 23 (0, 0)) (by (with_reducible repeat (first | refine blk_drewN ?_ _ | refine blk_drew ?_ | refine blk_alloc ?_ _)); exact BK215.out) hb)
                    have n1_ := Aside0.mk (below_step (by repeat (first | (with_reducible first | exact HB.out | apply below_alloc | apply pw_below_drewN | apply below_drew1 | refine below_set ?_ GE215.out) | exact HB.out)) hb)
                    have n2_ := Aside0.mk (hbox)
                    have n3_ := Aside0.mk ((by rw [hg]; exact (below_size (by repeat (first | (with_reducible first | exact HB.out | apply below_alloc | apply pw_below_drewN | apply below_drew1 | refine below_set ?_ GE215.out) | exact HB.out))) : w.heap.size ≤ gb222))
                    have n4_ := Aside0.mk ((by rw [hg]; exact (below_size (by repeat (first | (with_reducible first | exact HB.out | apply below_alloc | apply pw_below_drewN | apply below_drew1 | refine below_set ?_ GE215.out) | exact HB.out))) : w.heap.size ≤ gb222))
                    have n5_ := Aside0.mk ((by rw [hg]; exact Nat.ne_of_lt (blk_lt (g := gb215) (o := .cells #[.int .u8 x216000_1, .int .u8 x216001_1, .int .u8 x216002_1, .int .u8 x216003_1] 23 (0, 0)) (by (with_reducible repeat (first | refine blk_drewN ?_ _ | refine blk_drew ?_ | refine blk_alloc ?_ _)); exact BK215.out)) : gb215 ≠ gb222))
                    have n6_ := Aside0.mk ((by rw [hg]; exact Nat.ne_of_gt (blk_lt (g := gb215) (o := .cells #[.int .u8 x216000_1, .int .u8 x216001_1, .int .u8 x216002_1, .int .u8 x216003_1] 23 (0, 0)) (by (with_reducible repeat (first | refine blk_drewN ?_ _ | refine blk_drew ?_ | refine blk_alloc ?_ _)); exact BK215.out)) : gb222 ≠ gb215))
                    clear BK215
                    clear HB
                    have BK215 := n0_
                    have HB := n1_
                    have BK222 := n2_
                    have GW222 := n3_
                    have GE222 := n4_
                    have NB215_222 := n5_
                    have NB222_215 := n6_
                    clear n0_ n1_ n2_ n3_ n4_ n5_ n6_
                    clear hb hbox hg
                    refine hK.out _ _ ⟨(blk_cell BK215.out 0).trans rfl, (blk_cell BK215.out 1).trans rfl, (blk_cell BK215.out 2).trans rfl, (blk_cell BK215.out 3).trans rfl⟩ (fun hHeld => ?_)
                    clear hK K
                    refine norm_ (a' := ?_) ?_ ?_
                    rotate_left
                    · show Act.put _ (some 12) _ = _
                      simp only [Act.put, List.setIfInBounds_toArray, List.set_cons_zero, List.set_cons_succ, i64_w, i32_w]
                      rfl
                    exact norm_ (by simp only [putAll, Act.put, List.setIfInBounds_toArray, List.set_cons_zero, List.set_cons_succ]) (hCont (gb222) _ ⟨hHeld, (by (with_reducible repeat (first | refine blk_drewN ?_ _ | refine blk_drew ?_ | refine blk_alloc ?_ _)); exact BK215.out), (by (with_reducible repeat (first | refine blk_drewN ?_ _ | refine blk_drew ?_ | refine blk_alloc ?_ _)); exact BK222.out), GW222.out, GE222.out, NB215_222.out, NB222_215.out, (by repeat (first | (with_reducible first | exact HB.out | apply below_alloc | apply pw_below_drewN | apply below_drew1 | refine below_set ?_ GE215.out | refine below_set ?_ GE222.out) | exact HB.out))⟩)
                  · skip
                    refine box_step ?hg (N := 12) ?hd (cs := #[.int .u8 0, .int .u8 0, .int .u8 0, .int .u8 0]) (t := 23) ?hr ?_; (case hd => rfl); (case hg => rfl); (case hr => first | (go_simp; done) | (go_simp; rfl))
                    intro gb222 hg w33 hbox hb
                    have n0_ := Aside0.mk (blk_below (g := gb215) (o := .cells #[.int .u8 x216000_1, .int .u8 x216001_1, .int .u8 x216002_1, .int .u8 x216003_1] 23 (0, 0)) (by (with_reducible repeat (first | refine blk_drewN ?_ _ | refine blk_drew ?_ | refine blk_alloc ?_ _)); exact BK215.out) hb)
                    have n1_ := Aside0.mk (below_step (by repeat (first | (with_reducible first | exact HB.out | apply below_alloc | apply pw_below_drewN | apply below_drew1 | refine below_set ?_ GE215.out) | exact HB.out)) hb)
                    have n2_ := Aside0.mk (hbox)
                    have n3_ := Aside0.mk ((by rw [hg]; exact (below_size (by repeat (first | (with_reducible first | exact HB.out | apply below_alloc | apply pw_below_drewN | apply below_drew1 | refine below_set ?_ GE215.out) | exact HB.out))) : w.heap.size ≤ gb222))
                    have n4_ := Aside0.mk ((by rw [hg]; exact (below_size (by repeat (first | (with_reducible first | exact HB.out | apply below_alloc | apply pw_below_drewN | apply below_drew1 | refine below_set ?_ GE215.out) | exact HB.out))) : w.heap.size ≤ gb222))
                    have n5_ := Aside0.mk ((by rw [hg]; exact Nat.ne_of_lt (blk_lt (g := gb215) (o := .cells #[.int .u8 x216000_1, .int .u8 x216001_1, .int .u8 x216002_1, .int .u8 x216003_1] 23 (0, 0)) (by (with_reducible repeat (first | refine blk_drewN ?_ _ | refine blk_drew ?_ | refine blk_alloc ?_ _)); exact BK215.out)) : gb215 ≠ gb222))
                    have n6_ := Aside0.mk ((by rw [hg]; exact Nat.ne_of_gt (blk_lt (g := gb215) (o := .cells #[.int .u8 x216000_1, .int .u8 x216001_1, .int .u8 x216002_1, .int .u8 x216003_1] 23 (0, 0)) (by (with_reducible repeat (first | refine blk_drewN ?_ _ | refine blk_drew ?_ | refine blk_alloc ?_ _)); exact BK215.out)) : gb222 ≠ gb215))
                    clear BK215
                    clear HB
                    have BK215 := n0_
                    have HB := n1_
                    have BK222 := n2_
                    have GW222 := n3_
                    have GE222 := n4_
                    have NB215_222 := n5_
                    have NB222_215 := n6_
                    clear n0_ n1_ n2_ n3_ n4_ n5_ n6_
                    clear hb hbox hg
                    refine hK.out _ _ ⟨(blk_cell BK215.out 0).trans rfl, (blk_cell BK215.out 1).trans rfl, (blk_cell BK215.out 2).trans rfl, (blk_cell BK215.out 3).trans rfl⟩ (fun hHeld => ?_)
                    clear hK K
                    refine norm_ (a' := ?_) ?_ ?_
                    rotate_left
                    · show Act.put _ (some 12) _ = _
                      simp only [Act.put, List.setIfInBounds_toArray, List.set_cons_zero, List.set_cons_succ, i64_w, i32_w]
                      rfl
                    refine one_ (i := 8) (N := some 41) #[true, true, true, true, true, true, true, true, true, false, false, false, false, true, false, false, false] rfl rfl (one_of HT_.out (by kernel_rfl)) (by decide) (fun K hK => ?_)
                    refine goes_ Try.func10 (by kernel_rfl) rfl #[.agg #[.int .u8 x216000_1, .int .u8 x216001_1, .int .u8 x216002_1, .int .u8 x216003_1], .bool ((Go.bits .and .u8 (ji15) 1) == 1), .bool ((Go.bits .and .u8 (ji18) 1) == 1)] (by rfl) rfl rfl (by (try simp only [List.map_toArray, List.map_cons, List.map_nil]); first | done | (simp only [hji15, hji18]; rfl) | rfl | (simp only [List.length_drop, List.length_take]; rfl)) ?_
                    with_reducible refine (serial_Step.calls x216000_1 x216001_1 x216002_1 x216003_1 ((Go.bits .and .u8 (ji15) 1) == 1) ((Go.bits .and .u8 (ji18) 1) == 1) t216 t217 t218 t219 t220 t221 _ A19.out).mono ?_
                    rintro e w34 ⟨rfl, hb⟩
                    refine ⟨_, rfl, ?_⟩
                    have n0_ := Aside0.mk (blk_below (g := gb215) (o := .cells #[.int .u8 x216000_1, .int .u8 x216001_1, .int .u8 x216002_1, .int .u8 x216003_1] 23 (0, 0)) (by (with_reducible repeat (first | refine blk_drewN ?_ _ | refine blk_drew ?_ | refine blk_alloc ?_ _)); exact BK215.out) hb)
                    have n1_ := Aside0.mk (blk_below (g := gb222) (o := .cells #[.int .u8 0, .int .u8 0, .int .u8 0, .int .u8 0] 23 (0, 0)) (by (with_reducible repeat (first | refine blk_drewN ?_ _ | refine blk_drew ?_ | refine blk_alloc ?_ _)); exact BK222.out) hb)
                    have n2_ := Aside0.mk (below_step (by repeat (first | (with_reducible first | exact HB.out | apply below_alloc | apply pw_below_drewN | apply below_drew1 | refine below_set ?_ GE215.out | refine below_set ?_ GE222.out) | exact HB.out)) hb)
                    clear BK215
                    clear BK222
                    clear HB
                    have BK215 := n0_
                    have BK222 := n1_
                    have HB := n2_
                    clear n0_ n1_ n2_
                    (try clear hb)
                    (try clear hb2)
                    (try clear hk)
                    (try clear hi)
                    refine hK.out _ _ ⟨(blk_cell BK215.out 0).trans rfl, (blk_cell BK215.out 1).trans rfl, (blk_cell BK215.out 2).trans rfl, (blk_cell BK215.out 3).trans rfl⟩ (fun hHeld => ?_)
                    clear hK K
                    refine norm_ (a' := ?_) ?_ ?_
                    rotate_left
                    · show Act.put _ (some 41) _ = _
                      simp only [Act.put, List.setIfInBounds_toArray, List.set_cons_zero, List.set_cons_succ, i64_w, i32_w]
                      rfl
                    refine pure_ (i := 9) (N := some 32) (v := ?_) (a' := ?_) #[true, true, true, true, true, true, true, true, true, true, false, false, false, true, false, false, false] rfl rfl (any_of HT_.out (by kernel_rfl)) (fun _ _ _ h => h) (Or.inl ⟨by rfl, ?_⟩) ?_ ?_
                    rotate_left
                    · intro w'
                      go_simp
                      with_reducible rfl
                    rotate_left
                    · simp only [Act.put, List.setIfInBounds_toArray, List.set_cons_zero, List.set_cons_succ, i64_w, i32_w]
                      rfl
                    refine pure_ (i := 10) (N := some 42) (v := ?_) (a' := ?_) #[true, true, true, true, true, true, true, true, true, true, true, false, false, true, false, false, false] rfl rfl (any_of HT_.out (by kernel_rfl)) (fun _ _ _ h => h) (Or.inl ⟨by rfl, ?_⟩) ?_ ?_
                    rotate_left
                    · intro w'
                      go_simp
                      with_reducible rfl
                    rotate_left
                    · simp only [Act.put, List.setIfInBounds_toArray, List.set_cons_zero, List.set_cons_succ, i64_w, i32_w]
                      rfl
                    refine pure_ (i := 11) (N := some 43) (v := ?_) (a' := ?_) #[true, true, true, true, true, true, true, true, true, true, true, true, false, true, false, false, false] rfl rfl (any_of HT_.out (by kernel_rfl)) (fun _ _ _ h => h) (Or.inl ⟨by rfl, ?_⟩) ?_ ?_
                    rotate_left
                    · intro w'
                      go_simp
                      with_reducible rfl
                    rotate_left
                    · simp only [Act.put, List.setIfInBounds_toArray, List.set_cons_zero, List.set_cons_succ, i64_w, i32_w]
                      rfl
                    refine pure_ (i := 12) (N := some 44) (v := ?_) (a' := ?_) #[true, true, true, true, true, true, true, true, true, true, true, true, true, true, false, false, false] rfl rfl (any_of HT_.out (by kernel_rfl)) (fun _ _ _ h => h) (Or.inl ⟨by rfl, ?_⟩) ?_ ?_
                    rotate_left
                    · intro w'
                      go_simp
                      with_reducible rfl
                    rotate_left
                    · simp only [Act.put, List.setIfInBounds_toArray, List.set_cons_zero, List.set_cons_succ, i64_w, i32_w]
                      rfl
                    exact norm_ (by simp only [putAll, Act.put, List.setIfInBounds_toArray, List.set_cons_zero, List.set_cons_succ]) (hCont (gb222) _ ⟨hHeld, (by (with_reducible repeat (first | refine blk_drewN ?_ _ | refine blk_drew ?_ | refine blk_alloc ?_ _)); exact BK215.out), (by (with_reducible repeat (first | refine blk_drewN ?_ _ | refine blk_drew ?_ | refine blk_alloc ?_ _)); exact BK222.out), GW222.out, GE222.out, NB215_222.out, NB222_215.out, (by repeat (first | (with_reducible first | exact HB.out | apply below_alloc | apply pw_below_drewN | apply below_drew1 | refine below_set ?_ GE215.out | refine below_set ?_ GE222.out) | exact HB.out))⟩)
                rintro gb222 w35 ⟨hS_, h0_, h1_, h2_, h3_, h4_, h5_, h6_⟩
                have n0_ : Aside0 (w35.heap[gb215]? = some (.cells #[.int .u8 x216000_1, .int .u8 x216001_1, .int .u8 x216002_1, .int .u8 x216003_1] 23 (0, 0))) := ⟨h0_⟩
                have n1_ : Aside0 (w35.heap[gb222]? = some (.cells #[.int .u8 0, .int .u8 0, .int .u8 0, .int .u8 0] 23 (0, 0))) := ⟨h1_⟩
                have n2_ : Aside0 (w.heap.size ≤ gb222) := ⟨h2_⟩
                have n3_ : Aside0 (w.heap.size ≤ gb222) := ⟨h3_⟩
                have n4_ : Aside0 (gb215 ≠ gb222) := ⟨h4_⟩
                have n5_ : Aside0 (gb222 ≠ gb215) := ⟨h5_⟩
                have n6_ : Aside0 (Below w.heap.size w w35) := ⟨h6_⟩
                clear BK215
                clear HB
                clear h0_ h1_ h2_ h3_ h4_ h5_ h6_
                have BK215 := n0_
                have BK222 := n1_
                have GW222 := n2_
                have GE222 := n3_
                have NB215_222 := n4_
                have NB222_215 := n5_
                have HB := n6_
                clear n0_ n1_ n2_ n3_ n4_ n5_ n6_
                have hHeld : w35.cell? ⟨gb215, 0, none⟩ = some (.int .u8 x216000_1) ∧ w35.cell? ⟨gb215, 1, none⟩ = some (.int .u8 x216001_1) ∧ w35.cell? ⟨gb215, 2, none⟩ = some (.int .u8 x216002_1) ∧ w35.cell? ⟨gb215, 3, none⟩ = some (.int .u8 x216003_1) := hS_
                refine norm_ (a' := ?_) ?_ ?_
                rotate_left
                · simp only [putAll, Act.put, List.setIfInBounds_toArray, List.set_cons_zero, List.set_cons_succ]
                  rfl
                refine one_ (i := 14) (N := none) #[true, true, true, true, true, true, true, true, true, true, true, true, true, true, true, false, false] rfl rfl (one_of HT_.out (by kernel_rfl)) (by decide) (fun K hK => ?_)
                have hs36 : w35.cell? ⟨gb222, 0, none⟩ = some (.int .u8 0) := (blk_cell BK222.out 0).trans rfl
                have hfs36 := blk_frozen BK222.out 0
                have hns36_0 := NB215_222.out
                have hms36_0 := NB222_215.out
                have hs37 : w35.cell? ⟨gb222, 1, none⟩ = some (.int .u8 0) := (blk_cell BK222.out 1).trans rfl
                have hfs37 := blk_frozen BK222.out 1
                have hns37_0 := NB215_222.out
                have hms37_0 := NB222_215.out
                have hs38 : w35.cell? ⟨gb222, 2, none⟩ = some (.int .u8 0) := (blk_cell BK222.out 2).trans rfl
                have hfs38 := blk_frozen BK222.out 2
                have hns38_0 := NB215_222.out
                have hms38_0 := NB222_215.out
                have hs39 : w35.cell? ⟨gb222, 3, none⟩ = some (.int .u8 0) := (blk_cell BK222.out 3).trans rfl
                have hfs39 := blk_frozen BK222.out 3
                have hns39_0 := NB215_222.out
                have hms39_0 := NB222_215.out
                refine skip_ (w1 := ?_) (by rfl) rfl ?_ ?_
                rotate_left
                · go_simp
                  rfl
                refine hK.out _ _ ⟨((cell_far (p := ⟨gb222, _, none⟩) NB215_222.out _).trans (((cell_far (p := ⟨gb222, _, none⟩) NB215_222.out _).trans (((cell_far (p := ⟨gb222, _, none⟩) NB215_222.out _).trans (((cell_far (p := ⟨gb222, _, none⟩) NB215_222.out _).trans (hHeld.1)))))))), ((cell_far (p := ⟨gb222, _, none⟩) NB215_222.out _).trans (((cell_far (p := ⟨gb222, _, none⟩) NB215_222.out _).trans (((cell_far (p := ⟨gb222, _, none⟩) NB215_222.out _).trans (((cell_far (p := ⟨gb222, _, none⟩) NB215_222.out _).trans (hHeld.2.1)))))))), ((cell_far (p := ⟨gb222, _, none⟩) NB215_222.out _).trans (((cell_far (p := ⟨gb222, _, none⟩) NB215_222.out _).trans (((cell_far (p := ⟨gb222, _, none⟩) NB215_222.out _).trans (((cell_far (p := ⟨gb222, _, none⟩) NB215_222.out _).trans (hHeld.2.2.1)))))))), ((cell_far (p := ⟨gb222, _, none⟩) NB215_222.out _).trans (((cell_far (p := ⟨gb222, _, none⟩) NB215_222.out _).trans (((cell_far (p := ⟨gb222, _, none⟩) NB215_222.out _).trans (((cell_far (p := ⟨gb222, _, none⟩) NB215_222.out _).trans (hHeld.2.2.2))))))))⟩ (fun hHeld => ?_)
                clear hK K
                refine pure_ (i := 15) (N := some 13) (v := ?_) (a' := ?_) #[true, true, true, true, true, true, true, true, true, true, true, true, true, true, true, true, false] rfl rfl (any_of HT_.out (by kernel_rfl)) (fun _ _ _ h => h) (Or.inl ⟨by rfl, ?_⟩) ?_ ?_
                rotate_left
                · intro w'
                  go_simp
                  with_reducible rfl
                rotate_left
                · simp only [Act.put, List.setIfInBounds_toArray, List.set_cons_zero, List.set_cons_succ, i64_w, i32_w]
                  rfl
                refine pure_ (i := 16) (N := some 14) (v := ?_) (a' := ?_) #[true, true, true, true, true, true, true, true, true, true, true, true, true, true, true, true, true] rfl rfl (any_of HT_.out (by kernel_rfl)) (fun _ _ _ h => h) (Or.inl ⟨by rfl, ?_⟩) ?_ ?_
                rotate_left
                · intro w'
                  go_simp
                  with_reducible rfl
                rotate_left
                · simp only [Act.put, List.setIfInBounds_toArray, List.set_cons_zero, List.set_cons_succ, i64_w, i32_w]
                  rfl
                refine done_ (done_of HT_.out (by kernel_rfl)) ?_
                try go_wp2
                go_ret
                exact ⟨by first | rfl | (simp [errW_none, errW_some] <;> rfl) | (simp only [← hji13, ← hji15, ← hji16, ← hji18, ← hji21]; first | rfl | (simp [errW_none, errW_some] <;> rfl)) | (simp [*, errW_none, errW_some] <;> rfl), by repeat (first | (with_reducible first | exact HB.out | apply below_alloc | apply pw_below_drewN | apply below_drew1 | refine below_set ?_ GE215.out | refine below_set ?_ GE222.out) | exact HB.out)⟩
              · rw [if_neg c31] at H
                have c31b0 : (t221 != (x9_1 == 1023)) = false := by simpa using c31
                (try (have c31b1 : decide (t221 = (x9_1 == 1023)) = true := by simpa using c31))
                (try (have c31b2 : (t221 == (x9_1 == 1023)) = true := by simpa using c31))
                clear c31
                have H' := Aside0.mk H
                clear H
                try go_wp2
                have n0_ := Aside0.mk (blk_drew BK215.out)
                have n1_ := Aside0.mk (below_drew1 HB.out)
                clear BK215
                clear HB
                have BK215 := n0_
                have HB := n1_
                clear n0_ n1_
                refine start_ (n := 17) (S := fun w' => w'.cell? ⟨gb215, 0, none⟩ = some (.int .u8 x216000_1) ∧ w'.cell? ⟨gb215, 1, none⟩ = some (.int .u8 x216001_1) ∧ w'.cell? ⟨gb215, 2, none⟩ = some (.int .u8 x216002_1) ∧ w'.cell? ⟨gb215, 3, none⟩ = some (.int .u8 x216003_1)) (ds := []) #[false, false, false, false, false, false, false, false, false, false, false, false, false, false, false, false, false] (by kernel_rfl) rfl rfl ⟨(blk_cell BK215.out 0).trans rfl, (blk_cell BK215.out 1).trans rfl, (blk_cell BK215.out 2).trans rfl, (blk_cell BK215.out 3).trans rfl⟩ (fun hHeld => ?_); refine with_tabW whirligiglaw12_SerialEight.tab8 whirligiglaw12_SerialEight.bits8 (fun HT_ HW_ => ?_)
                generalize wr.drew = w40 at BK215 HB hHeld ⊢
                refine pure_ (i := 1) (N := some 34) (v := ?_) (a' := ?_) #[false, true, false, false, false, false, false, false, false, false, false, false, false, false, false, false, false] rfl rfl (any_of HT_.out (by kernel_rfl)) (fun _ _ _ h => h) (Or.inl ⟨by rfl, ?_⟩) ?_ ?_
                rotate_left
                · intro w'
                  go_simp
                  with_reducible rfl
                rotate_left
                · simp only [Act.put, List.setIfInBounds_toArray, List.set_cons_zero, List.set_cons_succ, i64_w, i32_w]
                  rfl
                refine pure_ (i := 2) (N := some 35) (v := ?_) (a' := ?_) #[false, true, true, false, false, false, false, false, false, false, false, false, false, false, false, false, false] rfl rfl (any_of HT_.out (by kernel_rfl)) (fun _ _ _ h => h) (Or.inl ⟨by rfl, ?_⟩) ?_ ?_
                rotate_left
                · intro w'
                  go_simp
                  with_reducible rfl
                rotate_left
                · simp only [Act.put, List.setIfInBounds_toArray, List.set_cons_zero, List.set_cons_succ, i64_w, i32_w]
                  rfl
                refine pure_ (i := 3) (N := some 36) (v := ?_) (a' := ?_) #[false, true, true, true, false, false, false, false, false, false, false, false, false, false, false, false, false] rfl rfl (any_of HT_.out (by kernel_rfl)) (fun _ _ _ h => h) (Or.inl ⟨by rfl, ?_⟩) ?_ ?_
                rotate_left
                · intro w'
                  go_simp
                  with_reducible rfl
                rotate_left
                · simp only [Act.put, List.setIfInBounds_toArray, List.set_cons_zero, List.set_cons_succ, i64_w, i32_w]
                  rfl
                refine pure_ (i := 4) (N := some 37) (v := ?_) (a' := ?_) #[false, true, true, true, true, false, false, false, false, false, false, false, false, false, false, false, false] rfl rfl (any_of HT_.out (by kernel_rfl)) (fun _ _ _ h => h) (Or.inl ⟨by rfl, ?_⟩) ?_ ?_
                rotate_left
                · intro w'
                  go_simp
                  with_reducible rfl
                rotate_left
                · simp only [Act.put, List.setIfInBounds_toArray, List.set_cons_zero, List.set_cons_succ, i64_w, i32_w]
                  rfl
                refine pure_ (i := 5) (N := some 38) (v := ?_) (a' := ?_) #[false, true, true, true, true, true, false, false, false, false, false, false, false, false, false, false, false] rfl rfl (any_of HT_.out (by kernel_rfl)) (fun _ _ _ h => h) (Or.inl ⟨by rfl, ?_⟩) ?_ ?_
                rotate_left
                · intro w'
                  go_simp
                  with_reducible rfl
                rotate_left
                · simp only [Act.put, List.setIfInBounds_toArray, List.set_cons_zero, List.set_cons_succ, i64_w, i32_w]
                  rfl
                refine pure_ (i := 6) (N := some 39) (v := ?_) (a' := ?_) #[false, true, true, true, true, true, true, false, false, false, false, false, false, false, false, false, false] rfl rfl (any_of HT_.out (by kernel_rfl)) (fun _ _ _ h => h) (Or.inl ⟨by rfl, ?_⟩) ?_ ?_
                rotate_left
                · intro w'
                  go_simp
                  with_reducible rfl
                rotate_left
                · simp only [Act.put, List.setIfInBounds_toArray, List.set_cons_zero, List.set_cons_succ, i64_w, i32_w]
                  rfl
                refine pure_ (i := 7) (N := some 40) (v := ?_) (a' := ?_) #[false, true, true, true, true, true, true, true, false, false, false, false, false, false, false, false, false] rfl rfl (any_of HT_.out (by kernel_rfl)) (fun _ _ _ h => h) (Or.inl ⟨by rfl, ?_⟩) ?_ ?_
                rotate_left
                · intro w'
                  go_simp
                  with_reducible rfl
                rotate_left
                · simp only [Act.put, List.setIfInBounds_toArray, List.set_cons_zero, List.set_cons_succ, i64_w, i32_w]
                  rfl
                refine take_ (i := 0) (N := some 33) (v := ?_) (a' := ?_) #[true, true, true, true, true, true, true, true, false, false, false, false, false, false, false, false, false] rfl rfl (take_ofW HT_.out HW_.out (by kernel_rfl)) (fun _ _ _ h => h) (Or.inl ⟨by rfl, ?_⟩) hHeld ?_ ?_
                rotate_left
                · rintro w' ⟨s0, s1, s2, s3⟩
                  go_simp
                  with_reducible rfl
                rotate_left
                · simp only [Act.put, List.setIfInBounds_toArray, List.set_cons_zero, List.set_cons_succ, i64_w, i32_w]
                  rfl
                refine join_ (σ := Nat) 3 #[true, true, true, true, true, true, true, true, true, true, true, true, true, true, false, false, false] (fun s_ => [(41, .tuple #[.agg #[.int .u8 t216, .int .u8 t217, .int .u8 t218, .int .u8 t219], .bool t220, .bool t221]), (12, .pointer (some ⟨s_, 0, none⟩)), (32, .tuple #[.agg #[.int .u8 t216, .int .u8 t217, .int .u8 t218, .int .u8 t219], .bool t220, .bool t221]), (42, .agg #[.int .u8 t216, .int .u8 t217, .int .u8 t218, .int .u8 t219]), (43, .bool t220), (44, .bool t221)]) (fun s_ w' => (w'.cell? ⟨gb215, 0, none⟩ = some (.int .u8 x216000_1) ∧ w'.cell? ⟨gb215, 1, none⟩ = some (.int .u8 x216001_1) ∧ w'.cell? ⟨gb215, 2, none⟩ = some (.int .u8 x216002_1) ∧ w'.cell? ⟨gb215, 3, none⟩ = some (.int .u8 x216003_1)) ∧ (w'.heap[gb215]? = some (.cells #[.int .u8 x216000_1, .int .u8 x216001_1, .int .u8 x216002_1, .int .u8 x216003_1] 23 (0, 0))) ∧ (w'.heap[s_]? = some (.cells #[.int .u8 0, .int .u8 0, .int .u8 0, .int .u8 0] 23 (0, 0))) ∧ (w.heap.size ≤ s_) ∧ (w.heap.size ≤ s_) ∧ (gb215 ≠ s_) ∧ (s_ ≠ gb215) ∧ (Below w.heap.size w w')) ?_ ?_
                rotate_left
                · intro hCont
                  refine two_ (i := 8) (j := 13) (Ni := some 41) (Nj := some 12) #[true, true, true, true, true, true, true, true, true, false, false, false, false, false, false, false, false] #[true, true, true, true, true, true, true, true, false, false, false, false, false, true, false, false, false] rfl rfl rfl rfl (two_of HT_.out (by kernel_rfl)) (by decide) (by decide) (fun K hK => ?_) (fun K hK => ?_)
                  · skip
                    refine goes_ Try.func10 (by kernel_rfl) rfl #[.agg #[.int .u8 x216000_1, .int .u8 x216001_1, .int .u8 x216002_1, .int .u8 x216003_1], .bool ((Go.bits .and .u8 (ji15) 1) == 1), .bool ((Go.bits .and .u8 (ji18) 1) == 1)] (by rfl) rfl rfl (by (try simp only [List.map_toArray, List.map_cons, List.map_nil]); first | done | (simp only [hji15, hji18]; rfl) | rfl | (simp only [List.length_drop, List.length_take]; rfl)) ?_
                    with_reducible refine (serial_Step.calls x216000_1 x216001_1 x216002_1 x216003_1 ((Go.bits .and .u8 (ji15) 1) == 1) ((Go.bits .and .u8 (ji18) 1) == 1) t216 t217 t218 t219 t220 t221 _ A19.out).mono ?_
                    rintro e w41 ⟨rfl, hb⟩
                    refine ⟨_, rfl, ?_⟩
                    have n0_ := Aside0.mk (blk_below (g := gb215) (o := .cells #[.int .u8 x216000_1, .int .u8 x216001_1, .int .u8 x216002_1, .int .u8 x216003_1] 23 (0, 0)) (by (with_reducible repeat (first | refine blk_drewN ?_ _ | refine blk_drew ?_ | refine blk_alloc ?_ _)); exact BK215.out) hb)
                    have n1_ := Aside0.mk (below_step (by repeat (first | (with_reducible first | exact HB.out | apply below_alloc | apply pw_below_drewN | apply below_drew1 | refine below_set ?_ GE215.out) | exact HB.out)) hb)
                    clear BK215
                    clear HB
                    have BK215 := n0_
                    have HB := n1_
                    clear n0_ n1_
                    (try clear hb)
                    (try clear hb2)
                    (try clear hk)
                    (try clear hi)
                    refine hK.out _ _ ⟨(blk_cell BK215.out 0).trans rfl, (blk_cell BK215.out 1).trans rfl, (blk_cell BK215.out 2).trans rfl, (blk_cell BK215.out 3).trans rfl⟩ (fun hHeld => ?_)
                    clear hK K
                    refine norm_ (a' := ?_) ?_ ?_
                    rotate_left
                    · show Act.put _ (some 41) _ = _
                      simp only [Act.put, List.setIfInBounds_toArray, List.set_cons_zero, List.set_cons_succ, i64_w, i32_w]
                      rfl
                    refine pure_ (i := 9) (N := some 32) (v := ?_) (a' := ?_) #[true, true, true, true, true, true, true, true, true, true, false, false, false, false, false, false, false] rfl rfl (any_of HT_.out (by kernel_rfl)) (fun _ _ _ h => h) (Or.inl ⟨by rfl, ?_⟩) ?_ ?_
                    rotate_left
                    · intro w'
                      go_simp
                      with_reducible rfl
                    rotate_left
                    · simp only [Act.put, List.setIfInBounds_toArray, List.set_cons_zero, List.set_cons_succ, i64_w, i32_w]
                      rfl
                    refine pure_ (i := 10) (N := some 42) (v := ?_) (a' := ?_) #[true, true, true, true, true, true, true, true, true, true, true, false, false, false, false, false, false] rfl rfl (any_of HT_.out (by kernel_rfl)) (fun _ _ _ h => h) (Or.inl ⟨by rfl, ?_⟩) ?_ ?_
                    rotate_left
                    · intro w'
                      go_simp
                      with_reducible rfl
                    rotate_left
                    · simp only [Act.put, List.setIfInBounds_toArray, List.set_cons_zero, List.set_cons_succ, i64_w, i32_w]
                      rfl
                    refine pure_ (i := 11) (N := some 43) (v := ?_) (a' := ?_) #[true, true, true, true, true, true, true, true, true, true, true, true, false, false, false, false, false] rfl rfl (any_of HT_.out (by kernel_rfl)) (fun _ _ _ h => h) (Or.inl ⟨by rfl, ?_⟩) ?_ ?_
                    rotate_left
                    · intro w'
                      go_simp
                      with_reducible rfl
                    rotate_left
                    · simp only [Act.put, List.setIfInBounds_toArray, List.set_cons_zero, List.set_cons_succ, i64_w, i32_w]
                      rfl
                    refine pure_ (i := 12) (N := some 44) (v := ?_) (a' := ?_) #[true, true, true, true, true, true, true, true, true, true, true, true, true, false, false, false, false] rfl rfl (any_of HT_.out (by kernel_rfl)) (fun _ _ _ h => h) (Or.inl ⟨by rfl, ?_⟩) ?_ ?_
                    rotate_left
                    · intro w'
                      go_simp
                      with_reducible rfl
                    rotate_left
                    · simp only [Act.put, List.setIfInBounds_toArray, List.set_cons_zero, List.set_cons_succ, i64_w, i32_w]
                      rfl
                    refine one_ (i := 13) (N := some 12) #[true, true, true, true, true, true, true, true, true, true, true, true, true, true, false, false, false] rfl rfl (one_of HT_.out (by kernel_rfl)) (by decide) (fun K hK => ?_)
                    refine box_step ?hg (N := 12) ?hd (cs := #[.int .u8 0, .int .u8 0, .int .u8 0, .int .u8 0]) (t := 23) ?hr ?_; (case hd => rfl); (case hg => rfl); (case hr => first | (go_simp; done) | (go_simp; rfl))
                    intro gb222 hg w42 hbox hb
                    have n0_ := Aside0.mk (blk_below (g := gb215) (o := .cells #[.int .u8 x216000_1, .int .u8 x216001_1, .int .u8 x216002_1, .int .u8 x216003_1] 23 (0, 0)) (by (with_reducible repeat (first | refine blk_drewN ?_ _ | refine blk_drew ?_ | refine blk_alloc ?_ _)); exact BK215.out) hb)
                    have n1_ := Aside0.mk (below_step (by repeat (first | (with_reducible first | exact HB.out | apply below_alloc | apply pw_below_drewN | apply below_drew1 | refine below_set ?_ GE215.out) | exact HB.out)) hb)
                    have n2_ := Aside0.mk (hbox)
                    have n3_ := Aside0.mk ((by rw [hg]; exact (below_size (by repeat (first | (with_reducible first | exact HB.out | apply below_alloc | apply pw_below_drewN | apply below_drew1 | refine below_set ?_ GE215.out) | exact HB.out))) : w.heap.size ≤ gb222))
                    have n4_ := Aside0.mk ((by rw [hg]; exact (below_size (by repeat (first | (with_reducible first | exact HB.out | apply below_alloc | apply pw_below_drewN | apply below_drew1 | refine below_set ?_ GE215.out) | exact HB.out))) : w.heap.size ≤ gb222))
                    have n5_ := Aside0.mk ((by rw [hg]; exact Nat.ne_of_lt (blk_lt (g := gb215) (o := .cells #[.int .u8 x216000_1, .int .u8 x216001_1, .int .u8 x216002_1, .int .u8 x216003_1] 23 (0, 0)) (by (with_reducible repeat (first | refine blk_drewN ?_ _ | refine blk_drew ?_ | refine blk_alloc ?_ _)); exact BK215.out)) : gb215 ≠ gb222))
                    have n6_ := Aside0.mk ((by rw [hg]; exact Nat.ne_of_gt (blk_lt (g := gb215) (o := .cells #[.int .u8 x216000_1, .int .u8 x216001_1, .int .u8 x216002_1, .int .u8 x216003_1] 23 (0, 0)) (by (with_reducible repeat (first | refine blk_drewN ?_ _ | refine blk_drew ?_ | refine blk_alloc ?_ _)); exact BK215.out)) : gb222 ≠ gb215))
                    clear BK215
                    clear HB
                    have BK215 := n0_
                    have HB := n1_
                    have BK222 := n2_
                    have GW222 := n3_
                    have GE222 := n4_
                    have NB215_222 := n5_
                    have NB222_215 := n6_
                    clear n0_ n1_ n2_ n3_ n4_ n5_ n6_
                    clear hb hbox hg
                    refine hK.out _ _ ⟨(blk_cell BK215.out 0).trans rfl, (blk_cell BK215.out 1).trans rfl, (blk_cell BK215.out 2).trans rfl, (blk_cell BK215.out 3).trans rfl⟩ (fun hHeld => ?_)
                    clear hK K
                    refine norm_ (a' := ?_) ?_ ?_
                    rotate_left
                    · show Act.put _ (some 12) _ = _
                      simp only [Act.put, List.setIfInBounds_toArray, List.set_cons_zero, List.set_cons_succ, i64_w, i32_w]
                      rfl
                    exact norm_ (by simp only [putAll, Act.put, List.setIfInBounds_toArray, List.set_cons_zero, List.set_cons_succ]) (hCont (gb222) _ ⟨hHeld, (by (with_reducible repeat (first | refine blk_drewN ?_ _ | refine blk_drew ?_ | refine blk_alloc ?_ _)); exact BK215.out), (by (with_reducible repeat (first | refine blk_drewN ?_ _ | refine blk_drew ?_ | refine blk_alloc ?_ _)); exact BK222.out), GW222.out, GE222.out, NB215_222.out, NB222_215.out, (by repeat (first | (with_reducible first | exact HB.out | apply below_alloc | apply pw_below_drewN | apply below_drew1 | refine below_set ?_ GE215.out | refine below_set ?_ GE222.out) | exact HB.out))⟩)
                  · skip
                    refine box_step ?hg (N := 12) ?hd (cs := #[.int .u8 0, .int .u8 0, .int .u8 0, .int .u8 0]) (t := 23) ?hr ?_; (case hd => rfl); (case hg => rfl); (case hr => first | (go_simp; done) | (go_simp; rfl))
                    intro gb222 hg w41 hbox hb
                    have n0_ := Aside0.mk (blk_below (g := gb215) (o := .cells #[.int .u8 x216000_1, .int .u8 x216001_1, .int .u8 x216002_1, .int .u8 x216003_1] 23 (0, 0)) (by (with_reducible repeat (first | refine blk_drewN ?_ _ | refine blk_drew ?_ | refine blk_alloc ?_ _)); exact BK215.out) hb)
                    have n1_ := Aside0.mk (below_step (by repeat (first | (with_reducible first | exact HB.out | apply below_alloc | apply pw_below_drewN | apply below_drew1 | refine below_set ?_ GE215.out) | exact HB.out)) hb)
                    have n2_ := Aside0.mk (hbox)
                    have n3_ := Aside0.mk ((by rw [hg]; exact (below_size (by repeat (first | (with_reducible first | exact HB.out | apply below_alloc | apply pw_below_drewN | apply below_drew1 | refine below_set ?_ GE215.out) | exact HB.out))) : w.heap.size ≤ gb222))
                    have n4_ := Aside0.mk ((by rw [hg]; exact (below_size (by repeat (first | (with_reducible first | exact HB.out | apply below_alloc | apply pw_below_drewN | apply below_drew1 | refine below_set ?_ GE215.out) | exact HB.out))) : w.heap.size ≤ gb222))
                    have n5_ := Aside0.mk ((by rw [hg]; exact Nat.ne_of_lt (blk_lt (g := gb215) (o := .cells #[.int .u8 x216000_1, .int .u8 x216001_1, .int .u8 x216002_1, .int .u8 x216003_1] 23 (0, 0)) (by (with_reducible repeat (first | refine blk_drewN ?_ _ | refine blk_drew ?_ | refine blk_alloc ?_ _)); exact BK215.out)) : gb215 ≠ gb222))
                    have n6_ := Aside0.mk ((by rw [hg]; exact Nat.ne_of_gt (blk_lt (g := gb215) (o := .cells #[.int .u8 x216000_1, .int .u8 x216001_1, .int .u8 x216002_1, .int .u8 x216003_1] 23 (0, 0)) (by (with_reducible repeat (first | refine blk_drewN ?_ _ | refine blk_drew ?_ | refine blk_alloc ?_ _)); exact BK215.out)) : gb222 ≠ gb215))
                    clear BK215
                    clear HB
                    have BK215 := n0_
                    have HB := n1_
                    have BK222 := n2_
                    have GW222 := n3_
                    have GE222 := n4_
                    have NB215_222 := n5_
                    have NB222_215 := n6_
                    clear n0_ n1_ n2_ n3_ n4_ n5_ n6_
                    clear hb hbox hg
                    refine hK.out _ _ ⟨(blk_cell BK215.out 0).trans rfl, (blk_cell BK215.out 1).trans rfl, (blk_cell BK215.out 2).trans rfl, (blk_cell BK215.out 3).trans rfl⟩ (fun hHeld => ?_)
                    clear hK K
                    refine norm_ (a' := ?_) ?_ ?_
                    rotate_left
                    · show Act.put _ (some 12) _ = _
                      simp only [Act.put, List.setIfInBounds_toArray, List.set_cons_zero, List.set_cons_succ, i64_w, i32_w]
                      rfl
                    refine one_ (i := 8) (N := some 41) #[true, true, true, true, true, true, true, true, true, false, false, false, false, true, false, false, false] rfl rfl (one_of HT_.out (by kernel_rfl)) (by decide) (fun K hK => ?_)
                    refine goes_ Try.func10 (by kernel_rfl) rfl #[.agg #[.int .u8 x216000_1, .int .u8 x216001_1, .int .u8 x216002_1, .int .u8 x216003_1], .bool ((Go.bits .and .u8 (ji15) 1) == 1), .bool ((Go.bits .and .u8 (ji18) 1) == 1)] (by rfl) rfl rfl (by (try simp only [List.map_toArray, List.map_cons, List.map_nil]); first | done | (simp only [hji15, hji18]; rfl) | rfl | (simp only [List.length_drop, List.length_take]; rfl)) ?_
                    with_reducible refine (serial_Step.calls x216000_1 x216001_1 x216002_1 x216003_1 ((Go.bits .and .u8 (ji15) 1) == 1) ((Go.bits .and .u8 (ji18) 1) == 1) t216 t217 t218 t219 t220 t221 _ A19.out).mono ?_
                    rintro e w42 ⟨rfl, hb⟩
                    refine ⟨_, rfl, ?_⟩
                    have n0_ := Aside0.mk (blk_below (g := gb215) (o := .cells #[.int .u8 x216000_1, .int .u8 x216001_1, .int .u8 x216002_1, .int .u8 x216003_1] 23 (0, 0)) (by (with_reducible repeat (first | refine blk_drewN ?_ _ | refine blk_drew ?_ | refine blk_alloc ?_ _)); exact BK215.out) hb)
                    have n1_ := Aside0.mk (blk_below (g := gb222) (o := .cells #[.int .u8 0, .int .u8 0, .int .u8 0, .int .u8 0] 23 (0, 0)) (by (with_reducible repeat (first | refine blk_drewN ?_ _ | refine blk_drew ?_ | refine blk_alloc ?_ _)); exact BK222.out) hb)
                    have n2_ := Aside0.mk (below_step (by repeat (first | (with_reducible first | exact HB.out | apply below_alloc | apply pw_below_drewN | apply below_drew1 | refine below_set ?_ GE215.out | refine below_set ?_ GE222.out) | exact HB.out)) hb)
                    clear BK215
                    clear BK222
                    clear HB
                    have BK215 := n0_
                    have BK222 := n1_
                    have HB := n2_
                    clear n0_ n1_ n2_
                    (try clear hb)
                    (try clear hb2)
                    (try clear hk)
                    (try clear hi)
                    refine hK.out _ _ ⟨(blk_cell BK215.out 0).trans rfl, (blk_cell BK215.out 1).trans rfl, (blk_cell BK215.out 2).trans rfl, (blk_cell BK215.out 3).trans rfl⟩ (fun hHeld => ?_)
                    clear hK K
                    refine norm_ (a' := ?_) ?_ ?_
                    rotate_left
                    · show Act.put _ (some 41) _ = _
                      simp only [Act.put, List.setIfInBounds_toArray, List.set_cons_zero, List.set_cons_succ, i64_w, i32_w]
                      rfl
                    refine pure_ (i := 9) (N := some 32) (v := ?_) (a' := ?_) #[true, true, true, true, true, true, true, true, true, true, false, false, false, true, false, false, false] rfl rfl (any_of HT_.out (by kernel_rfl)) (fun _ _ _ h => h) (Or.inl ⟨by rfl, ?_⟩) ?_ ?_
                    rotate_left
                    · intro w'
                      go_simp
                      with_reducible rfl
                    rotate_left
                    · simp only [Act.put, List.setIfInBounds_toArray, List.set_cons_zero, List.set_cons_succ, i64_w, i32_w]
                      rfl
                    refine pure_ (i := 10) (N := some 42) (v := ?_) (a' := ?_) #[true, true, true, true, true, true, true, true, true, true, true, false, false, true, false, false, false] rfl rfl (any_of HT_.out (by kernel_rfl)) (fun _ _ _ h => h) (Or.inl ⟨by rfl, ?_⟩) ?_ ?_
                    rotate_left
                    · intro w'
                      go_simp
                      with_reducible rfl
                    rotate_left
                    · simp only [Act.put, List.setIfInBounds_toArray, List.set_cons_zero, List.set_cons_succ, i64_w, i32_w]
                      rfl
                    refine pure_ (i := 11) (N := some 43) (v := ?_) (a' := ?_) #[true, true, true, true, true, true, true, true, true, true, true, true, false, true, false, false, false] rfl rfl (any_of HT_.out (by kernel_rfl)) (fun _ _ _ h => h) (Or.inl ⟨by rfl, ?_⟩) ?_ ?_
                    rotate_left
                    · intro w'
                      go_simp
                      with_reducible rfl
                    rotate_left
                    · simp only [Act.put, List.setIfInBounds_toArray, List.set_cons_zero, List.set_cons_succ, i64_w, i32_w]
                      rfl
                    refine pure_ (i := 12) (N := some 44) (v := ?_) (a' := ?_) #[true, true, true, true, true, true, true, true, true, true, true, true, true, true, false, false, false] rfl rfl (any_of HT_.out (by kernel_rfl)) (fun _ _ _ h => h) (Or.inl ⟨by rfl, ?_⟩) ?_ ?_
                    rotate_left
                    · intro w'
                      go_simp
                      with_reducible rfl
                    rotate_left
                    · simp only [Act.put, List.setIfInBounds_toArray, List.set_cons_zero, List.set_cons_succ, i64_w, i32_w]
                      rfl
                    exact norm_ (by simp only [putAll, Act.put, List.setIfInBounds_toArray, List.set_cons_zero, List.set_cons_succ]) (hCont (gb222) _ ⟨hHeld, (by (with_reducible repeat (first | refine blk_drewN ?_ _ | refine blk_drew ?_ | refine blk_alloc ?_ _)); exact BK215.out), (by (with_reducible repeat (first | refine blk_drewN ?_ _ | refine blk_drew ?_ | refine blk_alloc ?_ _)); exact BK222.out), GW222.out, GE222.out, NB215_222.out, NB222_215.out, (by repeat (first | (with_reducible first | exact HB.out | apply below_alloc | apply pw_below_drewN | apply below_drew1 | refine below_set ?_ GE215.out | refine below_set ?_ GE222.out) | exact HB.out))⟩)
                rintro gb222 w43 ⟨hS_, h0_, h1_, h2_, h3_, h4_, h5_, h6_⟩
                have n0_ : Aside0 (w43.heap[gb215]? = some (.cells #[.int .u8 x216000_1, .int .u8 x216001_1, .int .u8 x216002_1, .int .u8 x216003_1] 23 (0, 0))) := ⟨h0_⟩
                have n1_ : Aside0 (w43.heap[gb222]? = some (.cells #[.int .u8 0, .int .u8 0, .int .u8 0, .int .u8 0] 23 (0, 0))) := ⟨h1_⟩
                have n2_ : Aside0 (w.heap.size ≤ gb222) := ⟨h2_⟩
                have n3_ : Aside0 (w.heap.size ≤ gb222) := ⟨h3_⟩
                have n4_ : Aside0 (gb215 ≠ gb222) := ⟨h4_⟩
                have n5_ : Aside0 (gb222 ≠ gb215) := ⟨h5_⟩
                have n6_ : Aside0 (Below w.heap.size w w43) := ⟨h6_⟩
                clear BK215
                clear HB
                clear h0_ h1_ h2_ h3_ h4_ h5_ h6_
                have BK215 := n0_
                have BK222 := n1_
                have GW222 := n2_
                have GE222 := n3_
                have NB215_222 := n4_
                have NB222_215 := n5_
                have HB := n6_
                clear n0_ n1_ n2_ n3_ n4_ n5_ n6_
                have hHeld : w43.cell? ⟨gb215, 0, none⟩ = some (.int .u8 x216000_1) ∧ w43.cell? ⟨gb215, 1, none⟩ = some (.int .u8 x216001_1) ∧ w43.cell? ⟨gb215, 2, none⟩ = some (.int .u8 x216002_1) ∧ w43.cell? ⟨gb215, 3, none⟩ = some (.int .u8 x216003_1) := hS_
                refine norm_ (a' := ?_) ?_ ?_
                rotate_left
                · simp only [putAll, Act.put, List.setIfInBounds_toArray, List.set_cons_zero, List.set_cons_succ]
                  rfl
                refine one_ (i := 14) (N := none) #[true, true, true, true, true, true, true, true, true, true, true, true, true, true, true, false, false] rfl rfl (one_of HT_.out (by kernel_rfl)) (by decide) (fun K hK => ?_)
                have hs44 : w43.cell? ⟨gb222, 0, none⟩ = some (.int .u8 0) := (blk_cell BK222.out 0).trans rfl
                have hfs44 := blk_frozen BK222.out 0
                have hns44_0 := NB215_222.out
                have hms44_0 := NB222_215.out
                have hs45 : w43.cell? ⟨gb222, 1, none⟩ = some (.int .u8 0) := (blk_cell BK222.out 1).trans rfl
                have hfs45 := blk_frozen BK222.out 1
                have hns45_0 := NB215_222.out
                have hms45_0 := NB222_215.out
                have hs46 : w43.cell? ⟨gb222, 2, none⟩ = some (.int .u8 0) := (blk_cell BK222.out 2).trans rfl
                have hfs46 := blk_frozen BK222.out 2
                have hns46_0 := NB215_222.out
                have hms46_0 := NB222_215.out
                have hs47 : w43.cell? ⟨gb222, 3, none⟩ = some (.int .u8 0) := (blk_cell BK222.out 3).trans rfl
                have hfs47 := blk_frozen BK222.out 3
                have hns47_0 := NB215_222.out
                have hms47_0 := NB222_215.out
                refine skip_ (w1 := ?_) (by rfl) rfl ?_ ?_
                rotate_left
                · go_simp
                  rfl
                refine hK.out _ _ ⟨((cell_far (p := ⟨gb222, _, none⟩) NB215_222.out _).trans (((cell_far (p := ⟨gb222, _, none⟩) NB215_222.out _).trans (((cell_far (p := ⟨gb222, _, none⟩) NB215_222.out _).trans (((cell_far (p := ⟨gb222, _, none⟩) NB215_222.out _).trans (hHeld.1)))))))), ((cell_far (p := ⟨gb222, _, none⟩) NB215_222.out _).trans (((cell_far (p := ⟨gb222, _, none⟩) NB215_222.out _).trans (((cell_far (p := ⟨gb222, _, none⟩) NB215_222.out _).trans (((cell_far (p := ⟨gb222, _, none⟩) NB215_222.out _).trans (hHeld.2.1)))))))), ((cell_far (p := ⟨gb222, _, none⟩) NB215_222.out _).trans (((cell_far (p := ⟨gb222, _, none⟩) NB215_222.out _).trans (((cell_far (p := ⟨gb222, _, none⟩) NB215_222.out _).trans (((cell_far (p := ⟨gb222, _, none⟩) NB215_222.out _).trans (hHeld.2.2.1)))))))), ((cell_far (p := ⟨gb222, _, none⟩) NB215_222.out _).trans (((cell_far (p := ⟨gb222, _, none⟩) NB215_222.out _).trans (((cell_far (p := ⟨gb222, _, none⟩) NB215_222.out _).trans (((cell_far (p := ⟨gb222, _, none⟩) NB215_222.out _).trans (hHeld.2.2.2))))))))⟩ (fun hHeld => ?_)
                clear hK K
                refine pure_ (i := 15) (N := some 13) (v := ?_) (a' := ?_) #[true, true, true, true, true, true, true, true, true, true, true, true, true, true, true, true, false] rfl rfl (any_of HT_.out (by kernel_rfl)) (fun _ _ _ h => h) (Or.inl ⟨by rfl, ?_⟩) ?_ ?_
                rotate_left
                · intro w'
                  go_simp
                  with_reducible rfl
                rotate_left
                · simp only [Act.put, List.setIfInBounds_toArray, List.set_cons_zero, List.set_cons_succ, i64_w, i32_w]
                  rfl
                refine pure_ (i := 16) (N := some 14) (v := ?_) (a' := ?_) #[true, true, true, true, true, true, true, true, true, true, true, true, true, true, true, true, true] rfl rfl (any_of HT_.out (by kernel_rfl)) (fun _ _ _ h => h) (Or.inl ⟨by rfl, ?_⟩) ?_ ?_
                rotate_left
                · intro w'
                  go_simp
                  with_reducible rfl
                rotate_left
                · simp only [Act.put, List.setIfInBounds_toArray, List.set_cons_zero, List.set_cons_succ, i64_w, i32_w]
                  rfl
                refine done_ (done_of HT_.out (by kernel_rfl)) ?_
                have hnb48 := NB222_215.out
                have hnc48 := NB215_222.out
                have hcz49_0 : w43.cell? ⟨gb222, 0, none⟩ = some (.int .u8 0) := (blk_cell BK222.out 0).trans rfl
                have hcz49_1 : w43.cell? ⟨gb222, 1, none⟩ = some (.int .u8 0) := (blk_cell BK222.out 1).trans rfl
                have hcz49_2 : w43.cell? ⟨gb222, 2, none⟩ = some (.int .u8 0) := (blk_cell BK222.out 2).trans rfl
                have hcz49_3 : w43.cell? ⟨gb222, 3, none⟩ = some (.int .u8 0) := (blk_cell BK222.out 3).trans rfl
                have hfz49_0 := blk_frozen BK222.out 0
                have hfz49_1 := blk_frozen BK222.out 1
                have hfz49_2 := blk_frozen BK222.out 2
                have hfz49_3 := blk_frozen BK222.out 3
                have hcz50_0 : w43.cell? ⟨gb215, 0, none⟩ = some (.int .u8 x216000_1) := (blk_cell BK215.out 0).trans rfl
                have hcz50_1 : w43.cell? ⟨gb215, 1, none⟩ = some (.int .u8 x216001_1) := (blk_cell BK215.out 1).trans rfl
                have hcz50_2 : w43.cell? ⟨gb215, 2, none⟩ = some (.int .u8 x216002_1) := (blk_cell BK215.out 2).trans rfl
                have hcz50_3 : w43.cell? ⟨gb215, 3, none⟩ = some (.int .u8 x216003_1) := (blk_cell BK215.out 3).trans rfl
                have hfz50_0 := blk_frozen BK215.out 0
                have hfz50_1 := blk_frozen BK215.out 1
                have hfz50_2 := blk_frozen BK215.out 2
                have hfz50_3 := blk_frozen BK215.out 3
                try go_wp2
                go_roundg k1
                case measure => have := HK1.out; omega
                case rel => exact ⟨(wrap64 (x9_1 + 1)), (t216), (t217), (t218), (t219), (by first | rfl | (simp; done) | (simp [*]; done)), H', ⟨by have := HK1.out; omega⟩, ⟨by (with_reducible repeat (first | refine blk_drewN ?_ _ | refine blk_drew ?_ | refine blk_alloc ?_ _)); refine blk_put (cs := #[.int .u8 t216, .int .u8 t217, .int .u8 t218, .int .u8 x216003_1]) ?_ 3 _ rfl; (with_reducible repeat (first | refine blk_drewN ?_ _ | refine blk_drew ?_ | refine blk_alloc ?_ _)); refine blk_put (cs := #[.int .u8 t216, .int .u8 t217, .int .u8 x216002_1, .int .u8 x216003_1]) ?_ 2 _ rfl; (with_reducible repeat (first | refine blk_drewN ?_ _ | refine blk_drew ?_ | refine blk_alloc ?_ _)); refine blk_put (cs := #[.int .u8 t216, .int .u8 x216001_1, .int .u8 x216002_1, .int .u8 x216003_1]) ?_ 1 _ rfl; (with_reducible repeat (first | refine blk_drewN ?_ _ | refine blk_drew ?_ | refine blk_alloc ?_ _)); refine blk_put (cs := #[.int .u8 x216000_1, .int .u8 x216001_1, .int .u8 x216002_1, .int .u8 x216003_1]) ?_ 0 _ rfl; (with_reducible repeat (first | refine blk_drewN ?_ _ | refine blk_drew ?_ | refine blk_alloc ?_ _)); refine blk_far ?_ NB215_222.out _; (with_reducible repeat (first | refine blk_drewN ?_ _ | refine blk_drew ?_ | refine blk_alloc ?_ _)); refine blk_far ?_ NB215_222.out _; (with_reducible repeat (first | refine blk_drewN ?_ _ | refine blk_drew ?_ | refine blk_alloc ?_ _)); refine blk_far ?_ NB215_222.out _; (with_reducible repeat (first | refine blk_drewN ?_ _ | refine blk_drew ?_ | refine blk_alloc ?_ _)); refine blk_far ?_ NB215_222.out _; (with_reducible repeat (first | refine blk_drewN ?_ _ | refine blk_drew ?_ | refine blk_alloc ?_ _)); exact BK215.out⟩, ⟨by repeat (first | (with_reducible first | exact HB.out | apply below_alloc | apply pw_below_drewN | apply below_drew1 | refine below_set ?_ GE215.out | refine below_set ?_ GE222.out) | exact HB.out)⟩⟩
          · rw [if_neg c17] at H
            exact absurd H (by simp)
        · rw [if_neg c14] at H
          exact absurd H (by simp)
      · rw [if_neg c12] at H
        have c12b0 : decide (x9_1 < 1024) = false := decide_eq_false c12
        clear c12
        by_cases c51 : t206 = true
        · subst c51
          have H1 : ((serial_Read.f x216000_1 x216001_1 x216002_1 x216003_1 65281).bind fun t223 => (if t223 = a1 then ((serial_Read.f x216000_1 x216001_1 x216002_1 x216003_1 65282).bind fun t224 => (some (t224 == 127))) else (some false))) = some r := by rw [if_pos rfl] at H; exact H
          clear H
          have H := H1
          clear H1
          replace H := Option.bind_eq_some_iff.mp H
          obtain ⟨t223, A520, H⟩ := H
          replace H : (if t223 = a1 then ((serial_Read.f x216000_1 x216001_1 x216002_1 x216003_1 65282).bind fun t224 => (some (t224 == 127))) else (some false)) = some r := H
          have A52 := Aside0.mk A520
          clear A520
          by_cases c53 : t223 = a1
          · rw [if_pos c53] at H
            have c53b0 : (t223 == a1) = true := beq_iff_eq.mpr c53
            have c53b1 : (t223 != a1) = false := bne_eq_false_iff_eq.mpr c53
            clear c53
            replace H := Option.bind_eq_some_iff.mp H
            obtain ⟨t224, A540, H⟩ := H
            replace H : (some (t224 == 127)) = some r := H
            have A54 := Aside0.mk A540
            clear A540
            obtain rfl := Option.some.inj H
            have hcz55_0 : wr.cell? ⟨gb215, 0, none⟩ = some (.int .u8 x216000_1) := (blk_cell BK215.out 0).trans rfl
            have hcz55_1 : wr.cell? ⟨gb215, 1, none⟩ = some (.int .u8 x216001_1) := (blk_cell BK215.out 1).trans rfl
            have hcz55_2 : wr.cell? ⟨gb215, 2, none⟩ = some (.int .u8 x216002_1) := (blk_cell BK215.out 2).trans rfl
            have hcz55_3 : wr.cell? ⟨gb215, 3, none⟩ = some (.int .u8 x216003_1) := (blk_cell BK215.out 3).trans rfl
            have hfz55_0 := blk_frozen BK215.out 0
            have hfz55_1 := blk_frozen BK215.out 1
            have hfz55_2 := blk_frozen BK215.out 2
            have hfz55_3 := blk_frozen BK215.out 3
            go_wp2_with (first | (go_at_call 14; (with_reducible refine (serial_Read.calls x216000_1 x216001_1 x216002_1 x216003_1 65281 t223 _ A52.out).mono ?_); rintro e w56 ⟨rfl, hb⟩; have n0_ := Aside0.mk (blk_below (g := gb215) (o := .cells #[.int .u8 x216000_1, .int .u8 x216001_1, .int .u8 x216002_1, .int .u8 x216003_1] 23 (0, 0)) (by (with_reducible repeat (first | refine blk_drewN ?_ _ | refine blk_drew ?_ | refine blk_alloc ?_ _)); exact BK215.out) hb); have n1_ := Aside0.mk (below_step (by repeat (first | (with_reducible first | exact HB.out | apply below_alloc | apply pw_below_drewN | apply below_drew1 | refine below_set ?_ GE215.out) | exact HB.out)) hb); clear BK215; clear HB; have BK215 := n0_; have HB := n1_; clear n0_ n1_; (try clear hb); (try clear hb2); (try clear hk); (try clear hi); have hcz57_0 : w56.cell? ⟨gb215, 0, none⟩ = some (.int .u8 x216000_1) := (blk_cell BK215.out 0).trans rfl; have hcz57_1 : w56.cell? ⟨gb215, 1, none⟩ = some (.int .u8 x216001_1) := (blk_cell BK215.out 1).trans rfl; have hcz57_2 : w56.cell? ⟨gb215, 2, none⟩ = some (.int .u8 x216002_1) := (blk_cell BK215.out 2).trans rfl; have hcz57_3 : w56.cell? ⟨gb215, 3, none⟩ = some (.int .u8 x216003_1) := (blk_cell BK215.out 3).trans rfl; have hfz57_0 := blk_frozen BK215.out 0; have hfz57_1 := blk_frozen BK215.out 1; have hfz57_2 := blk_frozen BK215.out 2; have hfz57_3 := blk_frozen BK215.out 3) | (go_at_call 14; (with_reducible refine (serial_Read.calls x216000_1 x216001_1 x216002_1 x216003_1 65282 t224 _ A54.out).mono ?_); rintro e w58 ⟨rfl, hb⟩; have n0_ := Aside0.mk (blk_below (g := gb215) (o := .cells #[.int .u8 x216000_1, .int .u8 x216001_1, .int .u8 x216002_1, .int .u8 x216003_1] 23 (0, 0)) (by (with_reducible repeat (first | refine blk_drewN ?_ _ | refine blk_drew ?_ | refine blk_alloc ?_ _)); exact BK215.out) hb); have n1_ := Aside0.mk (below_step (by repeat (first | (with_reducible first | exact HB.out | apply below_alloc | apply pw_below_drewN | apply below_drew1 | refine below_set ?_ GE215.out) | exact HB.out)) hb); clear BK215; clear HB; have BK215 := n0_; have HB := n1_; clear n0_ n1_; (try clear hb); (try clear hb2); (try clear hk); (try clear hi)))
            go_ret
            exact ⟨by first | rfl | (simp [errW_none, errW_some] <;> rfl) | (simp [*, errW_none, errW_some] <;> rfl), by repeat (first | (with_reducible first | exact HB.out | apply below_alloc | apply pw_below_drewN | apply below_drew1 | refine below_set ?_ GE215.out) | exact HB.out)⟩
          · rw [if_neg c53] at H
            have c53b0 : (t223 == a1) = false := beq_eq_false_iff_ne.mpr c53
            have c53b1 : (t223 != a1) = true := bne_iff_ne.mpr c53
            obtain rfl := Option.some.inj H
            have hcz59_0 : wr.cell? ⟨gb215, 0, none⟩ = some (.int .u8 x216000_1) := (blk_cell BK215.out 0).trans rfl
            have hcz59_1 : wr.cell? ⟨gb215, 1, none⟩ = some (.int .u8 x216001_1) := (blk_cell BK215.out 1).trans rfl
            have hcz59_2 : wr.cell? ⟨gb215, 2, none⟩ = some (.int .u8 x216002_1) := (blk_cell BK215.out 2).trans rfl
            have hcz59_3 : wr.cell? ⟨gb215, 3, none⟩ = some (.int .u8 x216003_1) := (blk_cell BK215.out 3).trans rfl
            have hfz59_0 := blk_frozen BK215.out 0
            have hfz59_1 := blk_frozen BK215.out 1
            have hfz59_2 := blk_frozen BK215.out 2
            have hfz59_3 := blk_frozen BK215.out 3
            go_wp2_with (first | (go_at_call 14; (with_reducible refine (serial_Read.calls x216000_1 x216001_1 x216002_1 x216003_1 65281 t223 _ A52.out).mono ?_); rintro e w60 ⟨rfl, hb⟩; have n0_ := Aside0.mk (blk_below (g := gb215) (o := .cells #[.int .u8 x216000_1, .int .u8 x216001_1, .int .u8 x216002_1, .int .u8 x216003_1] 23 (0, 0)) (by (with_reducible repeat (first | refine blk_drewN ?_ _ | refine blk_drew ?_ | refine blk_alloc ?_ _)); exact BK215.out) hb); have n1_ := Aside0.mk (below_step (by repeat (first | (with_reducible first | exact HB.out | apply below_alloc | apply pw_below_drewN | apply below_drew1 | refine below_set ?_ GE215.out) | exact HB.out)) hb); clear BK215; clear HB; have BK215 := n0_; have HB := n1_; clear n0_ n1_; (try clear hb); (try clear hb2); (try clear hk); (try clear hi)))
            go_ret
            exact ⟨by first | rfl | (simp [errW_none, errW_some] <;> rfl) | (simp [*, errW_none, errW_some] <;> rfl), by repeat (first | (with_reducible first | exact HB.out | apply below_alloc | apply pw_below_drewN | apply below_drew1 | refine below_set ?_ GE215.out) | exact HB.out)⟩
        · replace c51 := Bool.eq_false_iff.mpr c51
          subst c51
          have H1 : (some false) = some r := by rw [if_neg (show ¬ (false = true) by decide)] at H; exact H
          clear H
          have H := H1
          clear H1
          obtain rfl := Option.some.inj H
          go_wp2
          go_ret
          exact ⟨by first | rfl | (simp [errW_none, errW_some] <;> rfl) | (simp [*, errW_none, errW_some] <;> rfl), by repeat (first | (with_reducible first | exact HB.out | apply below_alloc | apply pw_below_drewN | apply below_drew1 | refine below_set ?_ GE215.out) | exact HB.out)⟩

/-- THE ONE PURE STATEMENT of whirligiglaw12_SerialEight: yours. -/
def whirligiglaw12_SerialEight.Pure : Prop := ∀ (a0 : Int) (a1 : Int) (a2 : Int), (Lit.int .u8 a0).wf = true → (Lit.int .u8 a1).wf = true → (Lit.int .u8 a2).wf = true → ∃ k, whirligiglaw12_SerialEight.f k a0 a1 a2 = some true
theorem whirligiglaw12_SerialEight.walk (P : whirligiglaw12_SerialEight.Pure) (a0 : Int) (a1 : Int) (a2 : Int) (w : World) (w0 : (Lit.int .u8 a0).wf = true) (w1 : (Lit.int .u8 a1).wf = true) (w2 : (Lit.int .u8 a2).wf = true) :
    Calls Try.prog 8 #[.int .u8 a0, .int .u8 a1, .int .u8 a2] w fun e w' => e = .returned (.bool true) ∧ Below w.heap.size w w' := by
  obtain ⟨k, h⟩ := P a0 a1 a2 w0 w1 w2
  refine (whirligiglaw12_SerialEight.calls k a0 a1 a2 true w h).mono ?_
  rintro e w' ⟨rfl, hd⟩
  exact ⟨rfl, hd⟩

end Go.Proofs.Ytbceegmpdgadoaa.P
