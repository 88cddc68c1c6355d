/- Contracts of Go functions of this seat: each Lean function here is what the Go function of its name answers, in every memory; no condition but the equations that each theorem states. Written by a program of this session (wip/given.py); Lean checks it. -/
import Derived.Test.YtbceegmpdgadoaaPx0
import Derived.Test.YtbceegmpdgadoaaPx2
import Derived.Test.YtbceegmpdgadoaaPx3
namespace Go.Proofs.Ytbceegmpdgadoaa.P
open Go.RowKit Go.Proofs.YtbceegmpdgadoaaW.PrintWords Go.Proofs.YtbceegmpdgadoaaW.PrintLast Go.Proofs.YtbceegmpdgadoaaW.PrintMore
attribute [local go_sem] max2_int min2_int max_two min_two max_three min_three max_four min_four   -- for this text's walks alone
set_option linter.unusedVariables false
set_option linter.unusedSimpArgs false

/-! ### whirligiglaw12_SerialSwaps: function 6 -/
mutual
def whirligiglaw12_SerialSwaps.l0 : Nat → Int → Int → Bool → Int → Int → Int → Int → Int → Int → Int → Int → Int → Int → Option (Bool)
  | 0, _, _, _, _, _, _, _, _, _, _, _, _, _ => none
  | k + 1, x0, x1, x5, x8, x9, x178000, x178001, x178002, x178003, x187000, x187001, x187002, x187003 => if x9 < 1024 then ((serial_Step.f x178000 x178001 x178002 x178003 (decide (x187000 > 127)) false).bind fun bt187 => ((serial_Step.f x187000 x187001 x187002 x187003 (decide (x178000 > 127)) (bt187.2.2.1 != x178002)).bind fun bt194 => (if (bt187.2.2.2.2.2 != bt194.2.2.2.2.2) = true then (whirligiglaw12_SerialSwaps.j1 k x0 x1 x5 x8 x9 bt187.2.2.2.2.2 true bt187.1 bt187.2.1 bt187.2.2.1 bt187.2.2.2.1 bt194.1 bt194.2.1 bt194.2.2.1 bt194.2.2.2.1) else (whirligiglaw12_SerialSwaps.j1 k x0 x1 x5 x8 x9 bt187.2.2.2.2.2 (bt187.2.2.2.2.2 != (x9 == 1023)) bt187.1 bt187.2.1 bt187.2.2.1 bt187.2.2.2.1 bt194.1 bt194.2.1 bt194.2.2.1 bt194.2.2.2.1)))) else (if x5 = true then (if x178000 = x1 then (if x187000 = x0 then (some (x8 == 1)) else (some false)) else (some false)) else (some false))
def whirligiglaw12_SerialSwaps.j1 : Nat → Int → Int → Bool → Int → Int → Bool → Bool → Int → Int → Int → Int → Int → Int → Int → Int → Option (Bool)
  | 0, _, _, _, _, _, _, _, _, _, _, _, _, _, _, _ => none
  | k + 1, x0, x1, x5, x8, x9, x13, x64, x178000, x178001, x178002, x178003, x187000, x187001, x187002, x187003 => if x64 = true then (some false) else (if x13 = true then (whirligiglaw12_SerialSwaps.l0 k x0 x1 x5 (wrap64 (x8 + 1)) (wrap64 (x9 + 1)) x178000 x178001 x178002 x178003 x187000 x187001 x187002 x187003) else (whirligiglaw12_SerialSwaps.l0 k x0 x1 x5 x8 (wrap64 (x9 + 1)) x178000 x178001 x178002 x178003 x187000 x187001 x187002 x187003))
end
def whirligiglaw12_SerialSwaps.f (k : Nat) (a0 : Int) (a1 : Int) : Option (Bool) := (whirligiglaw12_shown.f).bind fun t168 => ((serial_Write.f 0 0 0 0 65281 a0).bind fun bt169 => ((serial_Write.f bt169.1 bt169.2.1 bt169.2.2.1 bt169.2.2.2 65282 129).bind fun bt173 => ((serial_Write.f 0 0 0 0 65281 a1).bind fun bt178 => ((serial_Write.f bt178.1 bt178.2.1 bt178.2.2.1 bt178.2.2.2 65282 128).bind fun bt182 => (whirligiglaw12_SerialSwaps.l0 k a0 a1 t168 0 0 bt173.1 bt173.2.1 bt173.2.2.1 bt173.2.2.2 bt182.1 bt182.2.1 bt182.2.2.1 bt182.2.2.2)))))
theorem whirligiglaw12_SerialSwaps.mono_l : ∀ k, (∀ y0 y1 y2 y3 y4 y5 y6 y7 y8 y9 y10 y11 y12, LeO (whirligiglaw12_SerialSwaps.l0 k y0 y1 y2 y3 y4 y5 y6 y7 y8 y9 y10 y11 y12) (whirligiglaw12_SerialSwaps.l0 (k + 1) y0 y1 y2 y3 y4 y5 y6 y7 y8 y9 y10 y11 y12)) ∧ (∀ y0 y1 y2 y3 y4 y5 y6 y7 y8 y9 y10 y11 y12 y13 y14, LeO (whirligiglaw12_SerialSwaps.j1 k y0 y1 y2 y3 y4 y5 y6 y7 y8 y9 y10 y11 y12 y13 y14) (whirligiglaw12_SerialSwaps.j1 (k + 1) y0 y1 y2 y3 y4 y5 y6 y7 y8 y9 y10 y11 y12 y13 y14))
  | 0 => ⟨fun _ _ _ _ _ _ _ _ _ _ _ _ _ r h => by simp [whirligiglaw12_SerialSwaps.l0] at h, fun _ _ _ _ _ _ _ _ _ _ _ _ _ _ _ r h => by simp [whirligiglaw12_SerialSwaps.j1] at h⟩
  | k + 1 => by
    obtain ⟨ih0, ih1⟩ := whirligiglaw12_SerialSwaps.mono_l k
    refine ⟨?_, ?_⟩
    · intro y0 y1 y2 y3 y4 y5 y6 y7 y8 y9 y10 y11 y12
      unfold whirligiglaw12_SerialSwaps.l0
      repeat' first
      | (with_reducible exact ih0 _ _ _ _ _ _ _ _ _ _ _ _ _)
      | (with_reducible exact ih1 _ _ _ _ _ _ _ _ _ _ _ _ _ _ _)
      | (with_reducible exact LeO.refl _)
      | (with_reducible exact LeO.none _)
      | (with_reducible refine LeO.ite ?_ ?_)
      | (with_reducible refine LeO.bind ?_ (fun _ => ?_))
      | exact ih0 _ _ _ _ _ _ _ _ _ _ _ _ _
      | exact ih1 _ _ _ _ _ _ _ _ _ _ _ _ _ _ _
      | exact LeO.none _
      | refine LeO.ite ?_ ?_
      | refine LeO.bind ?_ (fun _ => ?_)
    · intro y0 y1 y2 y3 y4 y5 y6 y7 y8 y9 y10 y11 y12 y13 y14
      unfold whirligiglaw12_SerialSwaps.j1
      repeat' first
      | (with_reducible exact ih0 _ _ _ _ _ _ _ _ _ _ _ _ _)
      | (with_reducible exact ih1 _ _ _ _ _ _ _ _ _ _ _ _ _ _ _)
      | (with_reducible exact LeO.refl _)
      | (with_reducible exact LeO.none _)
      | (with_reducible refine LeO.ite ?_ ?_)
      | (with_reducible refine LeO.bind ?_ (fun _ => ?_))
      | exact ih0 _ _ _ _ _ _ _ _ _ _ _ _ _
      | exact ih1 _ _ _ _ _ _ _ _ _ _ _ _ _ _ _
      | exact LeO.none _
      | refine LeO.ite ?_ ?_
      | refine LeO.bind ?_ (fun _ => ?_)
theorem whirligiglaw12_SerialSwaps.mono : ∀ a0 a1 k, LeO (whirligiglaw12_SerialSwaps.f k a0 a1) (whirligiglaw12_SerialSwaps.f (k + 1) a0 a1) := by
  intro a0 a1 k
  obtain ⟨ih0, ih1⟩ := whirligiglaw12_SerialSwaps.mono_l k
  unfold whirligiglaw12_SerialSwaps.f
  repeat' first
      | (with_reducible exact ih0 _ _ _ _ _ _ _ _ _ _ _ _ _)
      | (with_reducible exact ih1 _ _ _ _ _ _ _ _ _ _ _ _ _ _ _)
      | (with_reducible exact LeO.refl _)
      | (with_reducible exact LeO.none _)
      | (with_reducible refine LeO.ite ?_ ?_)
      | (with_reducible refine LeO.bind ?_ (fun _ => ?_))
      | exact ih0 _ _ _ _ _ _ _ _ _ _ _ _ _
      | exact ih1 _ _ _ _ _ _ _ _ _ _ _ _ _ _ _
      | exact LeO.none _
      | refine LeO.ite ?_ ?_
      | refine LeO.bind ?_ (fun _ => ?_)
set_option maxHeartbeats 8000000 in
set_option maxRecDepth 100000 in
theorem whirligiglaw12_SerialSwaps.calls (k : Nat) (a0 : Int) (a1 : Int) (r : Bool) (w : World) (h : whirligiglaw12_SerialSwaps.f k a0 a1 = some r) :
    Calls Try.prog 6 #[.int .u8 a0, .int .u8 a1] w fun e w' => e = .returned (.bool r) ∧ Below w.heap.size w w' := by
  have hu23 := Try.underlying23
  have HB := Aside0.mk (Below.refl w.heap.size w)
  have H : ((whirligiglaw12_shown.f).bind fun t168 => ((serial_Write.f 0 0 0 0 65281 a0).bind fun bt169 => ((serial_Write.f bt169.1 bt169.2.1 bt169.2.2.1 bt169.2.2.2 65282 129).bind fun bt173 => ((serial_Write.f 0 0 0 0 65281 a1).bind fun bt178 => ((serial_Write.f bt178.1 bt178.2.1 bt178.2.2.1 bt178.2.2.2 65282 128).bind fun bt182 => (whirligiglaw12_SerialSwaps.l0 k a0 a1 t168 0 0 bt173.1 bt173.2.1 bt173.2.2.1 bt173.2.2.2 bt182.1 bt182.2.1 bt182.2.2.1 bt182.2.2.2)))))) = some r := h
  clear h
  replace H := Option.bind_eq_some_iff.mp H
  obtain ⟨t168, A30, H⟩ := H
  replace H : ((serial_Write.f 0 0 0 0 65281 a0).bind fun bt169 => ((serial_Write.f bt169.1 bt169.2.1 bt169.2.2.1 bt169.2.2.2 65282 129).bind fun bt173 => ((serial_Write.f 0 0 0 0 65281 a1).bind fun bt178 => ((serial_Write.f bt178.1 bt178.2.1 bt178.2.2.1 bt178.2.2.2 65282 128).bind fun bt182 => (whirligiglaw12_SerialSwaps.l0 k a0 a1 t168 0 0 bt173.1 bt173.2.1 bt173.2.2.1 bt173.2.2.2 bt182.1 bt182.2.1 bt182.2.2.1 bt182.2.2.2))))) = some r := H
  have A3 := Aside0.mk A30
  clear A30
  replace H := Option.bind_eq_some_iff.mp H
  obtain ⟨⟨t169, t170, t171, t172⟩, A40, H⟩ := H
  replace H : ((serial_Write.f t169 t170 t171 t172 65282 129).bind fun bt173 => ((serial_Write.f 0 0 0 0 65281 a1).bind fun bt178 => ((serial_Write.f bt178.1 bt178.2.1 bt178.2.2.1 bt178.2.2.2 65282 128).bind fun bt182 => (whirligiglaw12_SerialSwaps.l0 k a0 a1 t168 0 0 bt173.1 bt173.2.1 bt173.2.2.1 bt173.2.2.2 bt182.1 bt182.2.1 bt182.2.2.1 bt182.2.2.2)))) = some r := H
  have A4 := Aside0.mk A40
  clear A40
  replace H := Option.bind_eq_some_iff.mp H
  obtain ⟨⟨t173, t174, t175, t176⟩, A50, H⟩ := H
  replace H : ((serial_Write.f 0 0 0 0 65281 a1).bind fun bt178 => ((serial_Write.f bt178.1 bt178.2.1 bt178.2.2.1 bt178.2.2.2 65282 128).bind fun bt182 => (whirligiglaw12_SerialSwaps.l0 k a0 a1 t168 0 0 t173 t174 t175 t176 bt182.1 bt182.2.1 bt182.2.2.1 bt182.2.2.2))) = some r := H
  have A5 := Aside0.mk A50
  clear A50
  replace H := Option.bind_eq_some_iff.mp H
  obtain ⟨⟨t178, t179, t180, t181⟩, A60, H⟩ := H
  replace H : ((serial_Write.f t178 t179 t180 t181 65282 128).bind fun bt182 => (whirligiglaw12_SerialSwaps.l0 k a0 a1 t168 0 0 t173 t174 t175 t176 bt182.1 bt182.2.1 bt182.2.2.1 bt182.2.2.2)) = some r := H
  have A6 := Aside0.mk A60
  clear A60
  replace H := Option.bind_eq_some_iff.mp H
  obtain ⟨⟨t182, t183, t184, t185⟩, A70, H⟩ := H
  replace H : (whirligiglaw12_SerialSwaps.l0 k a0 a1 t168 0 0 t173 t174 t175 t176 t182 t183 t184 t185) = some r := H
  have A7 := Aside0.mk A70
  clear A70
  have H' := Aside0.mk H
  clear H
  go_enter Try.func6, Try.ntmps6
  go_wp2_with (first | ((with_reducible refine gate_callee (f := 9) rfl ?_); refine goesL_ (some 17) rfl rfl Try.func9 (by kernel_rfl) rfl #[] rfl (by (try simp only [List.map_toArray, List.map_cons, List.map_nil]); first | done | rfl | (simp only [List.length_drop, List.length_take]; rfl)) ?_; (with_reducible refine (whirligiglaw12_shown.calls  t168 _ A3.out).mono ?_); rintro e w8 ⟨rfl, hb⟩; refine ⟨_, rfl, ?_⟩; have n0_ := Aside0.mk (below_step (by repeat (first | (with_reducible first | exact HB.out | apply below_alloc | apply pw_below_drewN | apply below_drew1) | exact HB.out)) hb); clear HB; have HB := n0_; clear n0_; (try clear hb); (try clear hb2); (try clear hk); (try clear hi)) | ((with_reducible refine gate_callee (f := 12) rfl ?_); refine goesL_ (some 20) rfl rfl Try.func12 (by kernel_rfl) rfl #[.agg #[.int .u8 0, .int .u8 0, .int .u8 0, .int .u8 0], .int .u16 65281, .int .u8 a0] rfl (by (try simp only [List.map_toArray, List.map_cons, List.map_nil]); first | done | rfl | (simp only [List.length_drop, List.length_take]; rfl)) ?_; (with_reducible refine (serial_Write.calls 0 0 0 0 65281 a0 t169 t170 t171 t172 _ A4.out).mono ?_); rintro e w9 ⟨rfl, hb⟩; refine ⟨_, rfl, ?_⟩; have n0_ := Aside0.mk (below_step (by repeat (first | (with_reducible first | exact HB.out | apply below_alloc | apply pw_below_drewN | apply below_drew1) | exact HB.out)) hb); clear HB; have HB := n0_; clear n0_; (try clear hb); (try clear hb2); (try clear hk); (try clear hi)) | ((with_reducible refine gate_callee (f := 12) rfl ?_); refine goesL_ (some 21) rfl rfl Try.func12 (by kernel_rfl) rfl #[.agg #[.int .u8 t169, .int .u8 t170, .int .u8 t171, .int .u8 t172], .int .u16 65282, .int .u8 129] rfl (by (try simp only [List.map_toArray, List.map_cons, List.map_nil]); first | done | rfl | (simp only [List.length_drop, List.length_take]; rfl)) ?_; (with_reducible refine (serial_Write.calls t169 t170 t171 t172 65282 129 t173 t174 t175 t176 _ A5.out).mono ?_); rintro e w10 ⟨rfl, hb⟩; refine ⟨_, rfl, ?_⟩; have n0_ := Aside0.mk (below_step (by repeat (first | (with_reducible first | exact HB.out | apply below_alloc | apply pw_below_drewN | apply below_drew1) | exact HB.out)) hb); clear HB; have HB := n0_; clear n0_; (try clear hb); (try clear hb2); (try clear hk); (try clear hi)) | ((with_reducible refine gate_dst (N := 6) rfl ?_); refine box_event ?hg (N := 6) ?hd (cs := #[.int .u8 0, .int .u8 0, .int .u8 0, .int .u8 0]) (t := 23) ?hr ?_; (case hd => rfl); (case hg => rfl); (case hr => first | (go_simp; done) | (go_simp; rfl)); intro gb177 hg w11 hbox hb; have n0_ := Aside0.mk (below_step (by repeat (first | (with_reducible first | exact HB.out | apply below_alloc | apply pw_below_drewN | apply below_drew1) | exact HB.out)) hb); have n1_ := Aside0.mk (hbox); have n2_ := Aside0.mk ((by rw [hg]; exact (below_size (by repeat (first | (with_reducible first | exact HB.out | apply below_alloc | apply pw_below_drewN | apply below_drew1) | exact HB.out))) : w.heap.size ≤ gb177)); have n3_ := Aside0.mk ((by rw [hg]; exact (below_size (by repeat (first | (with_reducible first | exact HB.out | apply below_alloc | apply pw_below_drewN | apply below_drew1) | exact HB.out))) : w.heap.size ≤ gb177)); clear HB; have HB := n0_; have BK177 := n1_; have GW177 := n2_; have GE177 := n3_; clear n0_ n1_ n2_ n3_; clear hb hbox hg; have hcz12_0 : w11.cell? ⟨gb177, 0, none⟩ = some (.int .u8 0) := (blk_cell BK177.out 0).trans rfl; have hcz12_1 : w11.cell? ⟨gb177, 1, none⟩ = some (.int .u8 0) := (blk_cell BK177.out 1).trans rfl; have hcz12_2 : w11.cell? ⟨gb177, 2, none⟩ = some (.int .u8 0) := (blk_cell BK177.out 2).trans rfl; have hcz12_3 : w11.cell? ⟨gb177, 3, none⟩ = some (.int .u8 0) := (blk_cell BK177.out 3).trans rfl; have hfz12_0 := blk_frozen BK177.out 0; have hfz12_1 := blk_frozen BK177.out 1; have hfz12_2 := blk_frozen BK177.out 2; have hfz12_3 := blk_frozen BK177.out 3) | ((with_reducible refine gate_callee (f := 12) rfl ?_); refine goesL_ (some 24) rfl rfl Try.func12 (by kernel_rfl) rfl #[.agg #[.int .u8 0, .int .u8 0, .int .u8 0, .int .u8 0], .int .u16 65281, .int .u8 a1] rfl (by (try simp only [List.map_toArray, List.map_cons, List.map_nil]); first | done | rfl | (simp only [List.length_drop, List.length_take]; rfl)) ?_; (with_reducible refine (serial_Write.calls 0 0 0 0 65281 a1 t178 t179 t180 t181 _ A6.out).mono ?_); rintro e w13 ⟨rfl, hb⟩; refine ⟨_, rfl, ?_⟩; have n0_ := Aside0.mk (blk_below (g := gb177) (o := .cells #[.int .u8 t173, .int .u8 t174, .int .u8 t175, .int .u8 t176] 23 (0, 0)) (by (with_reducible repeat (first | refine blk_drewN ?_ _ | refine blk_drew ?_ | refine blk_alloc ?_ _)); refine blk_put (cs := #[.int .u8 t173, .int .u8 t174, .int .u8 t175, .int .u8 0]) ?_ 3 _ rfl; (with_reducible repeat (first | refine blk_drewN ?_ _ | refine blk_drew ?_ | refine blk_alloc ?_ _)); refine blk_put (cs := #[.int .u8 t173, .int .u8 t174, .int .u8 0, .int .u8 0]) ?_ 2 _ rfl; (with_reducible repeat (first | refine blk_drewN ?_ _ | refine blk_drew ?_ | refine blk_alloc ?_ _)); refine blk_put (cs := #[.int .u8 t173, .int .u8 0, .int .u8 0, .int .u8 0]) ?_ 1 _ rfl; (with_reducible repeat (first | refine blk_drewN ?_ _ | refine blk_drew ?_ | refine blk_alloc ?_ _)); refine blk_put (cs := #[.int .u8 0, .int .u8 0, .int .u8 0, .int .u8 0]) ?_ 0 _ rfl; (with_reducible repeat (first | refine blk_drewN ?_ _ | refine blk_drew ?_ | refine blk_alloc ?_ _)); exact BK177.out) hb); have n1_ := Aside0.mk (below_step (by repeat (first | (with_reducible first | exact HB.out | apply below_alloc | apply pw_below_drewN | apply below_drew1 | refine below_set ?_ GE177.out) | exact HB.out)) hb); clear BK177; clear HB; have BK177 := n0_; have HB := n1_; clear n0_ n1_; (try clear hb); (try clear hb2); (try clear hk); (try clear hi)) | ((with_reducible refine gate_callee (f := 12) rfl ?_); refine goesL_ (some 25) rfl rfl Try.func12 (by kernel_rfl) rfl #[.agg #[.int .u8 t178, .int .u8 t179, .int .u8 t180, .int .u8 t181], .int .u16 65282, .int .u8 128] rfl (by (try simp only [List.map_toArray, List.map_cons, List.map_nil]); first | done | rfl | (simp only [List.length_drop, List.length_take]; rfl)) ?_; (with_reducible refine (serial_Write.calls t178 t179 t180 t181 65282 128 t182 t183 t184 t185 _ A7.out).mono ?_); rintro e w14 ⟨rfl, hb⟩; refine ⟨_, rfl, ?_⟩; have n0_ := Aside0.mk (blk_below (g := gb177) (o := .cells #[.int .u8 t173, .int .u8 t174, .int .u8 t175, .int .u8 t176] 23 (0, 0)) (by (with_reducible repeat (first | refine blk_drewN ?_ _ | refine blk_drew ?_ | refine blk_alloc ?_ _)); exact BK177.out) hb); have n1_ := Aside0.mk (below_step (by repeat (first | (with_reducible first | exact HB.out | apply below_alloc | apply pw_below_drewN | apply below_drew1 | refine below_set ?_ GE177.out) | exact HB.out)) hb); clear BK177; clear HB; have BK177 := n0_; have HB := n1_; clear n0_ n1_; (try clear hb); (try clear hb2); (try clear hk); (try clear hi)) | ((with_reducible refine gate_dst (N := 7) rfl ?_); refine box_event ?hg (N := 7) ?hd (cs := #[.int .u8 0, .int .u8 0, .int .u8 0, .int .u8 0]) (t := 23) ?hr ?_; (case hd => rfl); (case hg => rfl); (case hr => first | (go_simp; done) | (go_simp; rfl)); intro gb186 hg w15 hbox hb; have n0_ := Aside0.mk (blk_below (g := gb177) (o := .cells #[.int .u8 t173, .int .u8 t174, .int .u8 t175, .int .u8 t176] 23 (0, 0)) (by (with_reducible repeat (first | refine blk_drewN ?_ _ | refine blk_drew ?_ | refine blk_alloc ?_ _)); exact BK177.out) hb); have n1_ := Aside0.mk (below_step (by repeat (first | (with_reducible first | exact HB.out | apply below_alloc | apply pw_below_drewN | apply below_drew1 | refine below_set ?_ GE177.out) | exact HB.out)) hb); have n2_ := Aside0.mk (hbox); have n3_ := Aside0.mk ((by rw [hg]; exact (below_size (by repeat (first | (with_reducible first | exact HB.out | apply below_alloc | apply pw_below_drewN | apply below_drew1 | refine below_set ?_ GE177.out) | exact HB.out))) : w.heap.size ≤ gb186)); have n4_ := Aside0.mk ((by rw [hg]; exact (below_size (by repeat (first | (with_reducible first | exact HB.out | apply below_alloc | apply pw_below_drewN | apply below_drew1 | refine below_set ?_ GE177.out) | exact HB.out))) : w.heap.size ≤ gb186)); have n5_ := Aside0.mk ((by rw [hg]; exact Nat.ne_of_lt (blk_lt (g := gb177) (o := .cells #[.int .u8 t173, .int .u8 t174, .int .u8 t175, .int .u8 t176] 23 (0, 0)) (by (with_reducible repeat (first | refine blk_drewN ?_ _ | refine blk_drew ?_ | refine blk_alloc ?_ _)); exact BK177.out)) : gb177 ≠ gb186)); have n6_ := Aside0.mk ((by rw [hg]; exact Nat.ne_of_gt (blk_lt (g := gb177) (o := .cells #[.int .u8 t173, .int .u8 t174, .int .u8 t175, .int .u8 t176] 23 (0, 0)) (by (with_reducible repeat (first | refine blk_drewN ?_ _ | refine blk_drew ?_ | refine blk_alloc ?_ _)); exact BK177.out)) : gb186 ≠ gb177)); clear BK177; clear HB; have BK177 := n0_; have HB := n1_; have BK186 := n2_; have GW186 := n3_; have GE186 := n4_; have NB177_186 := n5_; have NB186_177 := n6_; clear n0_ n1_ n2_ n3_ n4_ n5_ n6_; clear hb hbox hg; have hnb16 := NB186_177.out; have hnc16 := NB177_186.out; have hcz17_0 : w15.cell? ⟨gb186, 0, none⟩ = some (.int .u8 0) := (blk_cell BK186.out 0).trans rfl; have hcz17_1 : w15.cell? ⟨gb186, 1, none⟩ = some (.int .u8 0) := (blk_cell BK186.out 1).trans rfl; have hcz17_2 : w15.cell? ⟨gb186, 2, none⟩ = some (.int .u8 0) := (blk_cell BK186.out 2).trans rfl; have hcz17_3 : w15.cell? ⟨gb186, 3, none⟩ = some (.int .u8 0) := (blk_cell BK186.out 3).trans rfl; have hfz17_0 := blk_frozen BK186.out 0; have hfz17_1 := blk_frozen BK186.out 1; have hfz17_2 := blk_frozen BK186.out 2; have hfz17_3 := blk_frozen BK186.out 3))
  go_loopg [8, 9] k (fun kq v8 v9 w' => ∃ (x8_1 : Int) (x9_1 : Int) (x178000_1 : Int) (x178001_1 : Int) (x178002_1 : Int) (x178003_1 : Int) (x187000_1 : Int) (x187001_1 : Int) (x187002_1 : Int) (x187003_1 : Int), v8 = .int .i64 x8_1 ∧ v9 = .int .i64 x9_1 ∧ Aside0 (whirligiglaw12_SerialSwaps.l0 kq a0 a1 t168 x8_1 x9_1 x178000_1 x178001_1 x178002_1 x178003_1 x187000_1 x187001_1 x187002_1 x187003_1 = some r) ∧ Aside0 (kq ≤ k) ∧ Aside0 (w'.heap[gb177]? = some (.cells #[.int .u8 x178000_1, .int .u8 x178001_1, .int .u8 x178002_1, .int .u8 x178003_1] 23 (0, 0))) ∧ Aside0 (w'.heap[gb186]? = some (.cells #[.int .u8 x187000_1, .int .u8 x187001_1, .int .u8 x187002_1, .int .u8 x187003_1] 23 (0, 0))) ∧ Aside0 (Below w.heap.size w w'))
  case atStart => exact ⟨(0), (0), (t173), (t174), (t175), (t176), (t182), (t183), (t184), (t185), (by first | rfl | (simp; done) | (simp [*]; done)), (by first | rfl | (simp; done) | (simp [*]; done)), H', ⟨Nat.le_refl _⟩, ⟨by (with_reducible repeat (first | refine blk_drewN ?_ _ | refine blk_drew ?_ | refine blk_alloc ?_ _)); refine blk_far ?_ NB177_186.out _; (with_reducible repeat (first | refine blk_drewN ?_ _ | refine blk_drew ?_ | refine blk_alloc ?_ _)); refine blk_far ?_ NB177_186.out _; (with_reducible repeat (first | refine blk_drewN ?_ _ | refine blk_drew ?_ | refine blk_alloc ?_ _)); refine blk_far ?_ NB177_186.out _; (with_reducible repeat (first | refine blk_drewN ?_ _ | refine blk_drew ?_ | refine blk_alloc ?_ _)); refine blk_far ?_ NB177_186.out _; (with_reducible repeat (first | refine blk_drewN ?_ _ | refine blk_drew ?_ | refine blk_alloc ?_ _)); exact BK177.out⟩, ⟨by (with_reducible repeat (first | refine blk_drewN ?_ _ | refine blk_drew ?_ | refine blk_alloc ?_ _)); refine blk_put (cs := #[.int .u8 t182, .int .u8 t183, .int .u8 t184, .int .u8 0]) ?_ 3 _ rfl; (with_reducible repeat (first | refine blk_drewN ?_ _ | refine blk_drew ?_ | refine blk_alloc ?_ _)); refine blk_put (cs := #[.int .u8 t182, .int .u8 t183, .int .u8 0, .int .u8 0]) ?_ 2 _ rfl; (with_reducible repeat (first | refine blk_drewN ?_ _ | refine blk_drew ?_ | refine blk_alloc ?_ _)); refine blk_put (cs := #[.int .u8 t182, .int .u8 0, .int .u8 0, .int .u8 0]) ?_ 1 _ rfl; (with_reducible repeat (first | refine blk_drewN ?_ _ | refine blk_drew ?_ | refine blk_alloc ?_ _)); refine blk_put (cs := #[.int .u8 0, .int .u8 0, .int .u8 0, .int .u8 0]) ?_ 0 _ rfl; (with_reducible repeat (first | refine blk_drewN ?_ _ | refine blk_drew ?_ | refine blk_alloc ?_ _)); exact BK186.out⟩, ⟨by repeat (first | (with_reducible first | exact HB.out | apply below_alloc | apply pw_below_drewN | apply below_drew1 | refine below_set ?_ GE177.out | refine below_set ?_ GE186.out) | exact HB.out)⟩⟩
  case round =>
    clear H'
    try clear c1
    try clear p2
    try clear c6
    try clear c9
    try clear c12
    try clear c16
    try clear hcz12_0
    try clear hcz12_1
    try clear hcz12_2
    try clear hcz12_3
    try clear hcz17_0
    try clear hcz17_1
    try clear hcz17_2
    try clear hcz17_3
    try clear hfz12_0
    try clear hfz12_1
    try clear hfz12_2
    try clear hfz12_3
    try clear hfz17_0
    try clear hfz17_1
    try clear hfz17_2
    try clear hfz17_3
    obtain ⟨x8_1, x9_1, x178000_1, x178001_1, x178002_1, x178003_1, x187000_1, x187001_1, x187002_1, x187003_1, rfl, rfl, HA, HK1, BK177, BK186, HB⟩ := hrel
    cases gk with
    | zero => exact absurd HA.out (by simp [whirligiglaw12_SerialSwaps.l0])
    | succ k1 =>
      have H := HA.out
      clear HA
      simp only [whirligiglaw12_SerialSwaps.l0] at H
      by_cases c18 : x9_1 < 1024
      · rw [if_pos c18] at H
        have c18b0 : decide (x9_1 < 1024) = true := decide_eq_true c18
        clear c18
        replace H := Option.bind_eq_some_iff.mp H
        obtain ⟨⟨t187, t188, t189, t190, t191, t192⟩, A190, H⟩ := H
        replace H : ((serial_Step.f x187000_1 x187001_1 x187002_1 x187003_1 (decide (x178000_1 > 127)) (t189 != x178002_1)).bind fun bt194 => (if (t192 != bt194.2.2.2.2.2) = true then (whirligiglaw12_SerialSwaps.j1 k1 a0 a1 t168 x8_1 x9_1 t192 true t187 t188 t189 t190 bt194.1 bt194.2.1 bt194.2.2.1 bt194.2.2.2.1) else (whirligiglaw12_SerialSwaps.j1 k1 a0 a1 t168 x8_1 x9_1 t192 (t192 != (x9_1 == 1023)) t187 t188 t189 t190 bt194.1 bt194.2.1 bt194.2.2.1 bt194.2.2.2.1))) = some r := H
        have A19 := Aside0.mk A190
        clear A190
        replace H := Option.bind_eq_some_iff.mp H
        obtain ⟨⟨t194, t195, t196, t197, t198, t199⟩, A200, H⟩ := H
        replace H : (if (t192 != t199) = true then (whirligiglaw12_SerialSwaps.j1 k1 a0 a1 t168 x8_1 x9_1 t192 true t187 t188 t189 t190 t194 t195 t196 t197) else (whirligiglaw12_SerialSwaps.j1 k1 a0 a1 t168 x8_1 x9_1 t192 (t192 != (x9_1 == 1023)) t187 t188 t189 t190 t194 t195 t196 t197)) = some r := H
        have A20 := Aside0.mk A200
        clear A200
        have HC21 := Aside0.mk H
        clear H
        have hnb22 := NB177_186.out
        have hnc22 := NB186_177.out
        have hcz23_0 : wr.cell? ⟨gb177, 0, none⟩ = some (.int .u8 x178000_1) := (blk_cell BK177.out 0).trans rfl
        have hcz23_1 : wr.cell? ⟨gb177, 1, none⟩ = some (.int .u8 x178001_1) := (blk_cell BK177.out 1).trans rfl
        have hcz23_2 : wr.cell? ⟨gb177, 2, none⟩ = some (.int .u8 x178002_1) := (blk_cell BK177.out 2).trans rfl
        have hcz23_3 : wr.cell? ⟨gb177, 3, none⟩ = some (.int .u8 x178003_1) := (blk_cell BK177.out 3).trans rfl
        have hfz23_0 := blk_frozen BK177.out 0
        have hfz23_1 := blk_frozen BK177.out 1
        have hfz23_2 := blk_frozen BK177.out 2
        have hfz23_3 := blk_frozen BK177.out 3
        have hcz24_0 : wr.cell? ⟨gb186, 0, none⟩ = some (.int .u8 x187000_1) := (blk_cell BK186.out 0).trans rfl
        have hcz24_1 : wr.cell? ⟨gb186, 1, none⟩ = some (.int .u8 x187001_1) := (blk_cell BK186.out 1).trans rfl
        have hcz24_2 : wr.cell? ⟨gb186, 2, none⟩ = some (.int .u8 x187002_1) := (blk_cell BK186.out 2).trans rfl
        have hcz24_3 : wr.cell? ⟨gb186, 3, none⟩ = some (.int .u8 x187003_1) := (blk_cell BK186.out 3).trans rfl
        have hfz24_0 := blk_frozen BK186.out 0
        have hfz24_1 := blk_frozen BK186.out 1
        have hfz24_2 := blk_frozen BK186.out 2
        have hfz24_3 := blk_frozen BK186.out 3
        go_upto_region 13 with (first | ((with_reducible refine gate_callee (f := 10) rfl ?_); refine goesL_ (some 37) rfl rfl Try.func10 (by kernel_rfl) rfl #[.agg #[.int .u8 x178000_1, .int .u8 x178001_1, .int .u8 x178002_1, .int .u8 x178003_1], .bool (decide (x187000_1 > 127)), .bool false] rfl (by (try simp only [List.map_toArray, List.map_cons, List.map_nil]); first | done | rfl | (simp only [List.length_drop, List.length_take]; rfl)) ?_; (with_reducible refine (serial_Step.calls x178000_1 x178001_1 x178002_1 x178003_1 (decide (x187000_1 > 127)) false t187 t188 t189 t190 t191 t192 _ A19.out).mono ?_); rintro e w25 ⟨rfl, hb⟩; refine ⟨_, rfl, ?_⟩; have n0_ := Aside0.mk (blk_below (g := gb177) (o := .cells #[.int .u8 x178000_1, .int .u8 x178001_1, .int .u8 x178002_1, .int .u8 x178003_1] 23 (0, 0)) (by (with_reducible repeat (first | refine blk_drewN ?_ _ | refine blk_drew ?_ | refine blk_alloc ?_ _)); exact BK177.out) hb); have n1_ := Aside0.mk (blk_below (g := gb186) (o := .cells #[.int .u8 x187000_1, .int .u8 x187001_1, .int .u8 x187002_1, .int .u8 x187003_1] 23 (0, 0)) (by (with_reducible repeat (first | refine blk_drewN ?_ _ | refine blk_drew ?_ | refine blk_alloc ?_ _)); exact BK186.out) hb); have n2_ := Aside0.mk (below_step (by repeat (first | (with_reducible first | exact HB.out | apply below_alloc | apply pw_below_drewN | apply below_drew1 | refine below_set ?_ GE177.out | refine below_set ?_ GE186.out) | exact HB.out)) hb); clear BK177; clear BK186; clear HB; have BK177 := n0_; have BK186 := n1_; have HB := n2_; clear n0_ n1_ n2_; (try clear hb); (try clear hb2); (try clear hk); (try clear hi)) | ((with_reducible refine gate_dst (N := 11) rfl ?_); refine box_event ?hg (N := 11) ?hd (cs := #[.int .u8 0, .int .u8 0, .int .u8 0, .int .u8 0]) (t := 23) ?hr ?_; (case hd => rfl); (case hg => rfl); (case hr => first | (go_simp; done) | (go_simp; rfl)); intro gb193 hg w26 hbox hb; have n0_ := Aside0.mk (blk_below (g := gb177) (o := .cells #[.int .u8 x178000_1, .int .u8 x178001_1, .int .u8 x178002_1, .int .u8 x178003_1] 23 (0, 0)) (by (with_reducible repeat (first | refine blk_drewN ?_ _ | refine blk_drew ?_ | refine blk_alloc ?_ _)); exact BK177.out) hb); have n1_ := Aside0.mk (blk_below (g := gb186) (o := .cells #[.int .u8 x187000_1, .int .u8 x187001_1, .int .u8 x187002_1, .int .u8 x187003_1] 23 (0, 0)) (by (with_reducible repeat (first | refine blk_drewN ?_ _ | refine blk_drew ?_ | refine blk_alloc ?_ _)); exact BK186.out) hb); have n2_ := Aside0.mk (below_step (by repeat (first | (with_reducible first | exact HB.out | apply below_alloc | apply pw_below_drewN | apply below_drew1 | refine below_set ?_ GE177.out | refine below_set ?_ GE186.out) | exact HB.out)) hb); have n3_ := Aside0.mk (hbox); have n4_ := Aside0.mk ((by rw [hg]; exact (below_size (by repeat (first | (with_reducible first | exact HB.out | apply below_alloc | apply pw_below_drewN | apply below_drew1 | refine below_set ?_ GE177.out | refine below_set ?_ GE186.out) | exact HB.out))) : w.heap.size ≤ gb193)); have n5_ := Aside0.mk ((by rw [hg]; exact (below_size (by repeat (first | (with_reducible first | exact HB.out | apply below_alloc | apply pw_below_drewN | apply below_drew1 | refine below_set ?_ GE177.out | refine below_set ?_ GE186.out) | exact HB.out))) : w.heap.size ≤ gb193)); have n6_ := Aside0.mk ((by rw [hg]; exact Nat.ne_of_lt (blk_lt (g := gb177) (o := .cells #[.int .u8 x178000_1, .int .u8 x178001_1, .int .u8 x178002_1, .int .u8 x178003_1] 23 (0, 0)) (by (with_reducible repeat (first | refine blk_drewN ?_ _ | refine blk_drew ?_ | refine blk_alloc ?_ _)); exact BK177.out)) : gb177 ≠ gb193)); have n7_ := Aside0.mk ((by rw [hg]; exact Nat.ne_of_gt (blk_lt (g := gb177) (o := .cells #[.int .u8 x178000_1, .int .u8 x178001_1, .int .u8 x178002_1, .int .u8 x178003_1] 23 (0, 0)) (by (with_reducible repeat (first | refine blk_drewN ?_ _ | refine blk_drew ?_ | refine blk_alloc ?_ _)); exact BK177.out)) : gb193 ≠ gb177)); have n8_ := Aside0.mk ((by rw [hg]; exact Nat.ne_of_lt (blk_lt (g := gb186) (o := .cells #[.int .u8 x187000_1, .int .u8 x187001_1, .int .u8 x187002_1, .int .u8 x187003_1] 23 (0, 0)) (by (with_reducible repeat (first | refine blk_drewN ?_ _ | refine blk_drew ?_ | refine blk_alloc ?_ _)); exact BK186.out)) : gb186 ≠ gb193)); have n9_ := Aside0.mk ((by rw [hg]; exact Nat.ne_of_gt (blk_lt (g := gb186) (o := .cells #[.int .u8 x187000_1, .int .u8 x187001_1, .int .u8 x187002_1, .int .u8 x187003_1] 23 (0, 0)) (by (with_reducible repeat (first | refine blk_drewN ?_ _ | refine blk_drew ?_ | refine blk_alloc ?_ _)); exact BK186.out)) : gb193 ≠ gb186)); clear BK177; clear BK186; clear HB; have BK177 := n0_; have BK186 := n1_; have HB := n2_; have BK193 := n3_; have GW193 := n4_; have GE193 := n5_; have NB177_193 := n6_; have NB193_177 := n7_; have NB186_193 := n8_; have NB193_186 := n9_; clear n0_ n1_ n2_ n3_ n4_ n5_ n6_ n7_ n8_ n9_; clear hb hbox hg; have hnb27 := NB193_177.out; have hnc27 := NB177_193.out; have hnb28 := NB193_186.out; have hnc28 := NB186_193.out; have hcz29_0 : w26.cell? ⟨gb193, 0, none⟩ = some (.int .u8 0) := (blk_cell BK193.out 0).trans rfl; have hcz29_1 : w26.cell? ⟨gb193, 1, none⟩ = some (.int .u8 0) := (blk_cell BK193.out 1).trans rfl; have hcz29_2 : w26.cell? ⟨gb193, 2, none⟩ = some (.int .u8 0) := (blk_cell BK193.out 2).trans rfl; have hcz29_3 : w26.cell? ⟨gb193, 3, none⟩ = some (.int .u8 0) := (blk_cell BK193.out 3).trans rfl; have hfz29_0 := blk_frozen BK193.out 0; have hfz29_1 := blk_frozen BK193.out 1; have hfz29_2 := blk_frozen BK193.out 2; have hfz29_3 := blk_frozen BK193.out 3; have hcz30_0 : w26.cell? ⟨gb186, 0, none⟩ = some (.int .u8 x187000_1) := (blk_cell BK186.out 0).trans rfl; have hcz30_1 : w26.cell? ⟨gb186, 1, none⟩ = some (.int .u8 x187001_1) := (blk_cell BK186.out 1).trans rfl; have hcz30_2 : w26.cell? ⟨gb186, 2, none⟩ = some (.int .u8 x187002_1) := (blk_cell BK186.out 2).trans rfl; have hcz30_3 : w26.cell? ⟨gb186, 3, none⟩ = some (.int .u8 x187003_1) := (blk_cell BK186.out 3).trans rfl; have hfz30_0 := blk_frozen BK186.out 0; have hfz30_1 := blk_frozen BK186.out 1; have hfz30_2 := blk_frozen BK186.out 2; have hfz30_3 := blk_frozen BK186.out 3; have hcz31_0 : w26.cell? ⟨gb177, 0, none⟩ = some (.int .u8 x178000_1) := (blk_cell BK177.out 0).trans rfl; have hcz31_1 : w26.cell? ⟨gb177, 1, none⟩ = some (.int .u8 x178001_1) := (blk_cell BK177.out 1).trans rfl; have hcz31_2 : w26.cell? ⟨gb177, 2, none⟩ = some (.int .u8 x178002_1) := (blk_cell BK177.out 2).trans rfl; have hcz31_3 : w26.cell? ⟨gb177, 3, none⟩ = some (.int .u8 x178003_1) := (blk_cell BK177.out 3).trans rfl; have hfz31_0 := blk_frozen BK177.out 0; have hfz31_1 := blk_frozen BK177.out 1; have hfz31_2 := blk_frozen BK177.out 2; have hfz31_3 := blk_frozen BK177.out 3) | ((with_reducible refine gate_callee (f := 10) rfl ?_); refine goesL_ (some 50) rfl rfl Try.func10 (by kernel_rfl) rfl #[.agg #[.int .u8 x187000_1, .int .u8 x187001_1, .int .u8 x187002_1, .int .u8 x187003_1], .bool (decide (x178000_1 > 127)), .bool (t189 != x178002_1)] rfl (by (try simp only [List.map_toArray, List.map_cons, List.map_nil]); first | done | rfl | (simp only [List.length_drop, List.length_take]; rfl)) ?_; (with_reducible refine (serial_Step.calls x187000_1 x187001_1 x187002_1 x187003_1 (decide (x178000_1 > 127)) (t189 != x178002_1) t194 t195 t196 t197 t198 t199 _ A20.out).mono ?_); rintro e w32 ⟨rfl, hb⟩; refine ⟨_, rfl, ?_⟩; have n0_ := Aside0.mk (blk_below (g := gb177) (o := .cells #[.int .u8 x178000_1, .int .u8 x178001_1, .int .u8 x178002_1, .int .u8 x178003_1] 23 (0, 0)) (by (with_reducible repeat (first | refine blk_drewN ?_ _ | refine blk_drew ?_ | refine blk_alloc ?_ _)); refine blk_far ?_ NB177_193.out _; (with_reducible repeat (first | refine blk_drewN ?_ _ | refine blk_drew ?_ | refine blk_alloc ?_ _)); refine blk_far ?_ NB177_193.out _; (with_reducible repeat (first | refine blk_drewN ?_ _ | refine blk_drew ?_ | refine blk_alloc ?_ _)); refine blk_far ?_ NB177_193.out _; (with_reducible repeat (first | refine blk_drewN ?_ _ | refine blk_drew ?_ | refine blk_alloc ?_ _)); refine blk_far ?_ NB177_193.out _; (with_reducible repeat (first | refine blk_drewN ?_ _ | refine blk_drew ?_ | refine blk_alloc ?_ _)); exact BK177.out) hb); have n1_ := Aside0.mk (blk_below (g := gb186) (o := .cells #[.int .u8 x187000_1, .int .u8 x187001_1, .int .u8 x187002_1, .int .u8 x187003_1] 23 (0, 0)) (by (with_reducible repeat (first | refine blk_drewN ?_ _ | refine blk_drew ?_ | refine blk_alloc ?_ _)); refine blk_far ?_ NB186_193.out _; (with_reducible repeat (first | refine blk_drewN ?_ _ | refine blk_drew ?_ | refine blk_alloc ?_ _)); refine blk_far ?_ NB186_193.out _; (with_reducible repeat (first | refine blk_drewN ?_ _ | refine blk_drew ?_ | refine blk_alloc ?_ _)); refine blk_far ?_ NB186_193.out _; (with_reducible repeat (first | refine blk_drewN ?_ _ | refine blk_drew ?_ | refine blk_alloc ?_ _)); refine blk_far ?_ NB186_193.out _; (with_reducible repeat (first | refine blk_drewN ?_ _ | refine blk_drew ?_ | refine blk_alloc ?_ _)); exact BK186.out) hb); have n2_ := Aside0.mk (blk_below (g := gb193) (o := .cells #[.int .u8 t187, .int .u8 t188, .int .u8 t189, .int .u8 t190] 23 (0, 0)) (by (with_reducible repeat (first | refine blk_drewN ?_ _ | refine blk_drew ?_ | refine blk_alloc ?_ _)); refine blk_put (cs := #[.int .u8 t187, .int .u8 t188, .int .u8 t189, .int .u8 0]) ?_ 3 _ rfl; (with_reducible repeat (first | refine blk_drewN ?_ _ | refine blk_drew ?_ | refine blk_alloc ?_ _)); refine blk_put (cs := #[.int .u8 t187, .int .u8 t188, .int .u8 0, .int .u8 0]) ?_ 2 _ rfl; (with_reducible repeat (first | refine blk_drewN ?_ _ | refine blk_drew ?_ | refine blk_alloc ?_ _)); refine blk_put (cs := #[.int .u8 t187, .int .u8 0, .int .u8 0, .int .u8 0]) ?_ 1 _ rfl; (with_reducible repeat (first | refine blk_drewN ?_ _ | refine blk_drew ?_ | refine blk_alloc ?_ _)); refine blk_put (cs := #[.int .u8 0, .int .u8 0, .int .u8 0, .int .u8 0]) ?_ 0 _ rfl; (with_reducible repeat (first | refine blk_drewN ?_ _ | refine blk_drew ?_ | refine blk_alloc ?_ _)); exact BK193.out) hb); have n3_ := Aside0.mk (below_step (by repeat (first | (with_reducible first | exact HB.out | apply below_alloc | apply pw_below_drewN | apply below_drew1 | refine below_set ?_ GE177.out | refine below_set ?_ GE186.out | refine below_set ?_ GE193.out) | exact HB.out)) hb); clear BK177; clear BK186; clear BK193; clear HB; have BK177 := n0_; have BK186 := n1_; have BK193 := n2_; have HB := n3_; clear n0_ n1_ n2_ n3_; (try clear hb); (try clear hb2); (try clear hk); (try clear hi)) | ((with_reducible refine gate_dst (N := 14) rfl ?_); refine box_event ?hg (N := 14) ?hd (cs := #[.int .u8 0, .int .u8 0, .int .u8 0, .int .u8 0]) (t := 23) ?hr ?_; (case hd => rfl); (case hg => rfl); (case hr => first | (go_simp; done) | (go_simp; rfl)); intro gb200 hg w33 hbox hb; have n0_ := Aside0.mk (blk_below (g := gb177) (o := .cells #[.int .u8 x178000_1, .int .u8 x178001_1, .int .u8 x178002_1, .int .u8 x178003_1] 23 (0, 0)) (by (with_reducible repeat (first | refine blk_drewN ?_ _ | refine blk_drew ?_ | refine blk_alloc ?_ _)); exact BK177.out) hb); have n1_ := Aside0.mk (blk_below (g := gb186) (o := .cells #[.int .u8 x187000_1, .int .u8 x187001_1, .int .u8 x187002_1, .int .u8 x187003_1] 23 (0, 0)) (by (with_reducible repeat (first | refine blk_drewN ?_ _ | refine blk_drew ?_ | refine blk_alloc ?_ _)); exact BK186.out) hb); have n2_ := Aside0.mk (blk_below (g := gb193) (o := .cells #[.int .u8 t187, .int .u8 t188, .int .u8 t189, .int .u8 t190] 23 (0, 0)) (by (with_reducible repeat (first | refine blk_drewN ?_ _ | refine blk_drew ?_ | refine blk_alloc ?_ _)); exact BK193.out) hb); have n3_ := Aside0.mk (below_step (by repeat (first | (with_reducible first | exact HB.out | apply below_alloc | apply pw_below_drewN | apply below_drew1 | refine below_set ?_ GE177.out | refine below_set ?_ GE186.out | refine below_set ?_ GE193.out) | exact HB.out)) hb); have n4_ := Aside0.mk (hbox); have n5_ := Aside0.mk ((by rw [hg]; exact (below_size (by repeat (first | (with_reducible first | exact HB.out | apply below_alloc | apply pw_below_drewN | apply below_drew1 | refine below_set ?_ GE177.out | refine below_set ?_ GE186.out | refine below_set ?_ GE193.out) | exact HB.out))) : w.heap.size ≤ gb200)); have n6_ := Aside0.mk ((by rw [hg]; exact (below_size (by repeat (first | (with_reducible first | exact HB.out | apply below_alloc | apply pw_below_drewN | apply below_drew1 | refine below_set ?_ GE177.out | refine below_set ?_ GE186.out | refine below_set ?_ GE193.out) | exact HB.out))) : w.heap.size ≤ gb200)); have n7_ := Aside0.mk ((by rw [hg]; exact Nat.ne_of_lt (blk_lt (g := gb177) (o := .cells #[.int .u8 x178000_1, .int .u8 x178001_1, .int .u8 x178002_1, .int .u8 x178003_1] 23 (0, 0)) (by (with_reducible repeat (first | refine blk_drewN ?_ _ | refine blk_drew ?_ | refine blk_alloc ?_ _)); exact BK177.out)) : gb177 ≠ gb200)); have n8_ := Aside0.mk ((by rw [hg]; exact Nat.ne_of_gt (blk_lt (g := gb177) (o := .cells #[.int .u8 x178000_1, .int .u8 x178001_1, .int .u8 x178002_1, .int .u8 x178003_1] 23 (0, 0)) (by (with_reducible repeat (first | refine blk_drewN ?_ _ | refine blk_drew ?_ | refine blk_alloc ?_ _)); exact BK177.out)) : gb200 ≠ gb177)); have n9_ := Aside0.mk ((by rw [hg]; exact Nat.ne_of_lt (blk_lt (g := gb186) (o := .cells #[.int .u8 x187000_1, .int .u8 x187001_1, .int .u8 x187002_1, .int .u8 x187003_1] 23 (0, 0)) (by (with_reducible repeat (first | refine blk_drewN ?_ _ | refine blk_drew ?_ | refine blk_alloc ?_ _)); exact BK186.out)) : gb186 ≠ gb200)); have n10_ := Aside0.mk ((by rw [hg]; exact Nat.ne_of_gt (blk_lt (g := gb186) (o := .cells #[.int .u8 x187000_1, .int .u8 x187001_1, .int .u8 x187002_1, .int .u8 x187003_1] 23 (0, 0)) (by (with_reducible repeat (first | refine blk_drewN ?_ _ | refine blk_drew ?_ | refine blk_alloc ?_ _)); exact BK186.out)) : gb200 ≠ gb186)); have n11_ := Aside0.mk ((by rw [hg]; exact Nat.ne_of_lt (blk_lt (g := gb193) (o := .cells #[.int .u8 t187, .int .u8 t188, .int .u8 t189, .int .u8 t190] 23 (0, 0)) (by (with_reducible repeat (first | refine blk_drewN ?_ _ | refine blk_drew ?_ | refine blk_alloc ?_ _)); exact BK193.out)) : gb193 ≠ gb200)); have n12_ := Aside0.mk ((by rw [hg]; exact Nat.ne_of_gt (blk_lt (g := gb193) (o := .cells #[.int .u8 t187, .int .u8 t188, .int .u8 t189, .int .u8 t190] 23 (0, 0)) (by (with_reducible repeat (first | refine blk_drewN ?_ _ | refine blk_drew ?_ | refine blk_alloc ?_ _)); exact BK193.out)) : gb200 ≠ gb193)); clear BK177; clear BK186; clear BK193; clear HB; have BK177 := n0_; have BK186 := n1_; have BK193 := n2_; have HB := n3_; have BK200 := n4_; have GW200 := n5_; have GE200 := n6_; have NB177_200 := n7_; have NB200_177 := n8_; have NB186_200 := n9_; have NB200_186 := n10_; have NB193_200 := n11_; have NB200_193 := n12_; clear n0_ n1_ n2_ n3_ n4_ n5_ n6_ n7_ n8_ n9_ n10_ n11_ n12_; clear hb hbox hg; have hnb34 := NB200_177.out; have hnc34 := NB177_200.out; have hnb35 := NB200_186.out; have hnc35 := NB186_200.out; have hnb36 := NB200_193.out; have hnc36 := NB193_200.out; have hcz37_0 : w33.cell? ⟨gb200, 0, none⟩ = some (.int .u8 0) := (blk_cell BK200.out 0).trans rfl; have hcz37_1 : w33.cell? ⟨gb200, 1, none⟩ = some (.int .u8 0) := (blk_cell BK200.out 1).trans rfl; have hcz37_2 : w33.cell? ⟨gb200, 2, none⟩ = some (.int .u8 0) := (blk_cell BK200.out 2).trans rfl; have hcz37_3 : w33.cell? ⟨gb200, 3, none⟩ = some (.int .u8 0) := (blk_cell BK200.out 3).trans rfl; have hfz37_0 := blk_frozen BK200.out 0; have hfz37_1 := blk_frozen BK200.out 1; have hfz37_2 := blk_frozen BK200.out 2; have hfz37_3 := blk_frozen BK200.out 3; have hcz38_0 : w33.cell? ⟨gb193, 0, none⟩ = some (.int .u8 t187) := (blk_cell BK193.out 0).trans rfl; have hcz38_1 : w33.cell? ⟨gb193, 1, none⟩ = some (.int .u8 t188) := (blk_cell BK193.out 1).trans rfl; have hcz38_2 : w33.cell? ⟨gb193, 2, none⟩ = some (.int .u8 t189) := (blk_cell BK193.out 2).trans rfl; have hcz38_3 : w33.cell? ⟨gb193, 3, none⟩ = some (.int .u8 t190) := (blk_cell BK193.out 3).trans rfl; have hfz38_0 := blk_frozen BK193.out 0; have hfz38_1 := blk_frozen BK193.out 1; have hfz38_2 := blk_frozen BK193.out 2; have hfz38_3 := blk_frozen BK193.out 3; have hcz39_0 : w33.cell? ⟨gb177, 0, none⟩ = some (.int .u8 x178000_1) := (blk_cell BK177.out 0).trans rfl; have hcz39_1 : w33.cell? ⟨gb177, 1, none⟩ = some (.int .u8 x178001_1) := (blk_cell BK177.out 1).trans rfl; have hcz39_2 : w33.cell? ⟨gb177, 2, none⟩ = some (.int .u8 x178002_1) := (blk_cell BK177.out 2).trans rfl; have hcz39_3 : w33.cell? ⟨gb177, 3, none⟩ = some (.int .u8 x178003_1) := (blk_cell BK177.out 3).trans rfl; have hfz39_0 := blk_frozen BK177.out 0; have hfz39_1 := blk_frozen BK177.out 1; have hfz39_2 := blk_frozen BK177.out 2; have hfz39_3 := blk_frozen BK177.out 3; have hcz40_0 : w33.cell? ⟨gb186, 0, none⟩ = some (.int .u8 x187000_1) := (blk_cell BK186.out 0).trans rfl; have hcz40_1 : w33.cell? ⟨gb186, 1, none⟩ = some (.int .u8 x187001_1) := (blk_cell BK186.out 1).trans rfl; have hcz40_2 : w33.cell? ⟨gb186, 2, none⟩ = some (.int .u8 x187002_1) := (blk_cell BK186.out 2).trans rfl; have hcz40_3 : w33.cell? ⟨gb186, 3, none⟩ = some (.int .u8 x187003_1) := (blk_cell BK186.out 3).trans rfl; have hfz40_0 := blk_frozen BK186.out 0; have hfz40_1 := blk_frozen BK186.out 1; have hfz40_2 := blk_frozen BK186.out 2; have hfz40_3 := blk_frozen BK186.out 3))
        (try simp only [Act.put, List.setIfInBounds_toArray, List.set_cons_zero, List.set_cons_succ])
        go_cut [64] (fun v64 wc => ∃ (kq : Nat) (x64_20 : Bool), v64 = .bool x64_20 ∧ Aside0 (whirligiglaw12_SerialSwaps.j1 kq a0 a1 t168 x8_1 x9_1 t192 x64_20 t187 t188 t189 t190 t194 t195 t196 t197 = some r) ∧ Aside0 (kq ≤ k1) ∧ Aside0 (wc.heap[gb177]? = some (.cells #[.int .u8 t187, .int .u8 t188, .int .u8 t189, .int .u8 t190] 23 (0, 0))) ∧ Aside0 (wc.heap[gb186]? = some (.cells #[.int .u8 t194, .int .u8 t195, .int .u8 t196, .int .u8 t197] 23 (0, 0))) ∧ Aside0 (wc.heap[gb193]? = some (.cells #[.int .u8 t187, .int .u8 t188, .int .u8 t189, .int .u8 t190] 23 (0, 0))) ∧ Aside0 (wc.heap[gb200]? = some (.cells #[.int .u8 t194, .int .u8 t195, .int .u8 t196, .int .u8 t197] 23 (0, 0))) ∧ Aside0 (Below w.heap.size w wc))
        case first =>
          have H := HC21.out
          clear HC21
          by_cases c41 : (t192 != t199) = true
          · rw [if_pos c41] at H
            have c41b0 : (t192 != t199) = true := c41
            (try (have c41b1 : decide (t192 = t199) = false := by simpa using c41))
            (try (have c41b2 : (t192 == t199) = false := by simpa using c41))
            (try (have c41b3 : ¬ (t192 = t199) := by simpa using c41))
            clear c41
            (first | rw [c41b0] | (simp only [i64_w, i32_w]; rw [c41b0]) | skip)
            have H' := Aside0.mk H
            clear H
            go_wp2
            go_meet
            case rel => exact ⟨_, (true), (by first | rfl | (simp; done) | (simp [*]; done)), H', ⟨by have := HK1.out; first | omega | exact Nat.le_refl _⟩, ⟨by (with_reducible repeat (first | refine blk_drewN ?_ _ | refine blk_drew ?_ | refine blk_alloc ?_ _)); refine blk_far ?_ NB177_186.out _; (with_reducible repeat (first | refine blk_drewN ?_ _ | refine blk_drew ?_ | refine blk_alloc ?_ _)); refine blk_far ?_ NB177_186.out _; (with_reducible repeat (first | refine blk_drewN ?_ _ | refine blk_drew ?_ | refine blk_alloc ?_ _)); refine blk_far ?_ NB177_186.out _; (with_reducible repeat (first | refine blk_drewN ?_ _ | refine blk_drew ?_ | refine blk_alloc ?_ _)); refine blk_far ?_ NB177_186.out _; (with_reducible repeat (first | refine blk_drewN ?_ _ | refine blk_drew ?_ | refine blk_alloc ?_ _)); refine blk_put (cs := #[.int .u8 t187, .int .u8 t188, .int .u8 t189, .int .u8 x178003_1]) ?_ 3 _ rfl; (with_reducible repeat (first | refine blk_drewN ?_ _ | refine blk_drew ?_ | refine blk_alloc ?_ _)); refine blk_put (cs := #[.int .u8 t187, .int .u8 t188, .int .u8 x178002_1, .int .u8 x178003_1]) ?_ 2 _ rfl; (with_reducible repeat (first | refine blk_drewN ?_ _ | refine blk_drew ?_ | refine blk_alloc ?_ _)); refine blk_put (cs := #[.int .u8 t187, .int .u8 x178001_1, .int .u8 x178002_1, .int .u8 x178003_1]) ?_ 1 _ rfl; (with_reducible repeat (first | refine blk_drewN ?_ _ | refine blk_drew ?_ | refine blk_alloc ?_ _)); refine blk_put (cs := #[.int .u8 x178000_1, .int .u8 x178001_1, .int .u8 x178002_1, .int .u8 x178003_1]) ?_ 0 _ rfl; (with_reducible repeat (first | refine blk_drewN ?_ _ | refine blk_drew ?_ | refine blk_alloc ?_ _)); refine blk_far ?_ NB177_200.out _; (with_reducible repeat (first | refine blk_drewN ?_ _ | refine blk_drew ?_ | refine blk_alloc ?_ _)); refine blk_far ?_ NB177_200.out _; (with_reducible repeat (first | refine blk_drewN ?_ _ | refine blk_drew ?_ | refine blk_alloc ?_ _)); refine blk_far ?_ NB177_200.out _; (with_reducible repeat (first | refine blk_drewN ?_ _ | refine blk_drew ?_ | refine blk_alloc ?_ _)); refine blk_far ?_ NB177_200.out _; (with_reducible repeat (first | refine blk_drewN ?_ _ | refine blk_drew ?_ | refine blk_alloc ?_ _)); exact BK177.out⟩, ⟨by (with_reducible repeat (first | refine blk_drewN ?_ _ | refine blk_drew ?_ | refine blk_alloc ?_ _)); refine blk_put (cs := #[.int .u8 t194, .int .u8 t195, .int .u8 t196, .int .u8 x187003_1]) ?_ 3 _ rfl; (with_reducible repeat (first | refine blk_drewN ?_ _ | refine blk_drew ?_ | refine blk_alloc ?_ _)); refine blk_put (cs := #[.int .u8 t194, .int .u8 t195, .int .u8 x187002_1, .int .u8 x187003_1]) ?_ 2 _ rfl; (with_reducible repeat (first | refine blk_drewN ?_ _ | refine blk_drew ?_ | refine blk_alloc ?_ _)); refine blk_put (cs := #[.int .u8 t194, .int .u8 x187001_1, .int .u8 x187002_1, .int .u8 x187003_1]) ?_ 1 _ rfl; (with_reducible repeat (first | refine blk_drewN ?_ _ | refine blk_drew ?_ | refine blk_alloc ?_ _)); refine blk_put (cs := #[.int .u8 x187000_1, .int .u8 x187001_1, .int .u8 x187002_1, .int .u8 x187003_1]) ?_ 0 _ rfl; (with_reducible repeat (first | refine blk_drewN ?_ _ | refine blk_drew ?_ | refine blk_alloc ?_ _)); refine blk_far ?_ NB186_177.out _; (with_reducible repeat (first | refine blk_drewN ?_ _ | refine blk_drew ?_ | refine blk_alloc ?_ _)); refine blk_far ?_ NB186_177.out _; (with_reducible repeat (first | refine blk_drewN ?_ _ | refine blk_drew ?_ | refine blk_alloc ?_ _)); refine blk_far ?_ NB186_177.out _; (with_reducible repeat (first | refine blk_drewN ?_ _ | refine blk_drew ?_ | refine blk_alloc ?_ _)); refine blk_far ?_ NB186_177.out _; (with_reducible repeat (first | refine blk_drewN ?_ _ | refine blk_drew ?_ | refine blk_alloc ?_ _)); refine blk_far ?_ NB186_200.out _; (with_reducible repeat (first | refine blk_drewN ?_ _ | refine blk_drew ?_ | refine blk_alloc ?_ _)); refine blk_far ?_ NB186_200.out _; (with_reducible repeat (first | refine blk_drewN ?_ _ | refine blk_drew ?_ | refine blk_alloc ?_ _)); refine blk_far ?_ NB186_200.out _; (with_reducible repeat (first | refine blk_drewN ?_ _ | refine blk_drew ?_ | refine blk_alloc ?_ _)); refine blk_far ?_ NB186_200.out _; (with_reducible repeat (first | refine blk_drewN ?_ _ | refine blk_drew ?_ | refine blk_alloc ?_ _)); exact BK186.out⟩, ⟨by (with_reducible repeat (first | refine blk_drewN ?_ _ | refine blk_drew ?_ | refine blk_alloc ?_ _)); refine blk_far ?_ NB193_186.out _; (with_reducible repeat (first | refine blk_drewN ?_ _ | refine blk_drew ?_ | refine blk_alloc ?_ _)); refine blk_far ?_ NB193_186.out _; (with_reducible repeat (first | refine blk_drewN ?_ _ | refine blk_drew ?_ | refine blk_alloc ?_ _)); refine blk_far ?_ NB193_186.out _; (with_reducible repeat (first | refine blk_drewN ?_ _ | refine blk_drew ?_ | refine blk_alloc ?_ _)); refine blk_far ?_ NB193_186.out _; (with_reducible repeat (first | refine blk_drewN ?_ _ | refine blk_drew ?_ | refine blk_alloc ?_ _)); refine blk_far ?_ NB193_177.out _; (with_reducible repeat (first | refine blk_drewN ?_ _ | refine blk_drew ?_ | refine blk_alloc ?_ _)); refine blk_far ?_ NB193_177.out _; (with_reducible repeat (first | refine blk_drewN ?_ _ | refine blk_drew ?_ | refine blk_alloc ?_ _)); refine blk_far ?_ NB193_177.out _; (with_reducible repeat (first | refine blk_drewN ?_ _ | refine blk_drew ?_ | refine blk_alloc ?_ _)); refine blk_far ?_ NB193_177.out _; (with_reducible repeat (first | refine blk_drewN ?_ _ | refine blk_drew ?_ | refine blk_alloc ?_ _)); refine blk_far ?_ NB193_200.out _; (with_reducible repeat (first | refine blk_drewN ?_ _ | refine blk_drew ?_ | refine blk_alloc ?_ _)); refine blk_far ?_ NB193_200.out _; (with_reducible repeat (first | refine blk_drewN ?_ _ | refine blk_drew ?_ | refine blk_alloc ?_ _)); refine blk_far ?_ NB193_200.out _; (with_reducible repeat (first | refine blk_drewN ?_ _ | refine blk_drew ?_ | refine blk_alloc ?_ _)); refine blk_far ?_ NB193_200.out _; (with_reducible repeat (first | refine blk_drewN ?_ _ | refine blk_drew ?_ | refine blk_alloc ?_ _)); exact BK193.out⟩, ⟨by (with_reducible repeat (first | refine blk_drewN ?_ _ | refine blk_drew ?_ | refine blk_alloc ?_ _)); refine blk_far ?_ NB200_186.out _; (with_reducible repeat (first | refine blk_drewN ?_ _ | refine blk_drew ?_ | refine blk_alloc ?_ _)); refine blk_far ?_ NB200_186.out _; (with_reducible repeat (first | refine blk_drewN ?_ _ | refine blk_drew ?_ | refine blk_alloc ?_ _)); refine blk_far ?_ NB200_186.out _; (with_reducible repeat (first | refine blk_drewN ?_ _ | refine blk_drew ?_ | refine blk_alloc ?_ _)); refine blk_far ?_ NB200_186.out _; (with_reducible repeat (first | refine blk_drewN ?_ _ | refine blk_drew ?_ | refine blk_alloc ?_ _)); refine blk_far ?_ NB200_177.out _; (with_reducible repeat (first | refine blk_drewN ?_ _ | refine blk_drew ?_ | refine blk_alloc ?_ _)); refine blk_far ?_ NB200_177.out _; (with_reducible repeat (first | refine blk_drewN ?_ _ | refine blk_drew ?_ | refine blk_alloc ?_ _)); refine blk_far ?_ NB200_177.out _; (with_reducible repeat (first | refine blk_drewN ?_ _ | refine blk_drew ?_ | refine blk_alloc ?_ _)); refine blk_far ?_ NB200_177.out _; (with_reducible repeat (first | refine blk_drewN ?_ _ | refine blk_drew ?_ | refine blk_alloc ?_ _)); refine blk_put (cs := #[.int .u8 t194, .int .u8 t195, .int .u8 t196, .int .u8 0]) ?_ 3 _ rfl; (with_reducible repeat (first | refine blk_drewN ?_ _ | refine blk_drew ?_ | refine blk_alloc ?_ _)); refine blk_put (cs := #[.int .u8 t194, .int .u8 t195, .int .u8 0, .int .u8 0]) ?_ 2 _ rfl; (with_reducible repeat (first | refine blk_drewN ?_ _ | refine blk_drew ?_ | refine blk_alloc ?_ _)); refine blk_put (cs := #[.int .u8 t194, .int .u8 0, .int .u8 0, .int .u8 0]) ?_ 1 _ rfl; (with_reducible repeat (first | refine blk_drewN ?_ _ | refine blk_drew ?_ | refine blk_alloc ?_ _)); refine blk_put (cs := #[.int .u8 0, .int .u8 0, .int .u8 0, .int .u8 0]) ?_ 0 _ rfl; (with_reducible repeat (first | refine blk_drewN ?_ _ | refine blk_drew ?_ | refine blk_alloc ?_ _)); exact BK200.out⟩, ⟨by repeat (first | (with_reducible first | exact HB.out | apply below_alloc | apply pw_below_drewN | apply below_drew1 | refine below_set ?_ GE177.out | refine below_set ?_ GE186.out | refine below_set ?_ GE193.out | refine below_set ?_ GE200.out) | exact HB.out)⟩⟩
          · rw [if_neg c41] at H
            have c41b0 : (t192 != t199) = false := by simpa using c41
            (try (have c41b1 : decide (t192 = t199) = true := by simpa using c41))
            (try (have c41b2 : (t192 == t199) = true := by simpa using c41))
            clear c41
            (first | rw [c41b0] | (simp only [i64_w, i32_w]; rw [c41b0]) | skip)
            have H' := Aside0.mk H
            clear H
            go_wp2
            go_meet
            case rel => exact ⟨_, ((t192 != (x9_1 == 1023))), (by first | rfl | (simp; done) | (simp [*]; done)), H', ⟨by have := HK1.out; first | omega | exact Nat.le_refl _⟩, ⟨by (with_reducible repeat (first | refine blk_drewN ?_ _ | refine blk_drew ?_ | refine blk_alloc ?_ _)); refine blk_far ?_ NB177_186.out _; (with_reducible repeat (first | refine blk_drewN ?_ _ | refine blk_drew ?_ | refine blk_alloc ?_ _)); refine blk_far ?_ NB177_186.out _; (with_reducible repeat (first | refine blk_drewN ?_ _ | refine blk_drew ?_ | refine blk_alloc ?_ _)); refine blk_far ?_ NB177_186.out _; (with_reducible repeat (first | refine blk_drewN ?_ _ | refine blk_drew ?_ | refine blk_alloc ?_ _)); refine blk_far ?_ NB177_186.out _; (with_reducible repeat (first | refine blk_drewN ?_ _ | refine blk_drew ?_ | refine blk_alloc ?_ _)); refine blk_put (cs := #[.int .u8 t187, .int .u8 t188, .int .u8 t189, .int .u8 x178003_1]) ?_ 3 _ rfl; (with_reducible repeat (first | refine blk_drewN ?_ _ | refine blk_drew ?_ | refine blk_alloc ?_ _)); refine blk_put (cs := #[.int .u8 t187, .int .u8 t188, .int .u8 x178002_1, .int .u8 x178003_1]) ?_ 2 _ rfl; (with_reducible repeat (first | refine blk_drewN ?_ _ | refine blk_drew ?_ | refine blk_alloc ?_ _)); refine blk_put (cs := #[.int .u8 t187, .int .u8 x178001_1, .int .u8 x178002_1, .int .u8 x178003_1]) ?_ 1 _ rfl; (with_reducible repeat (first | refine blk_drewN ?_ _ | refine blk_drew ?_ | refine blk_alloc ?_ _)); refine blk_put (cs := #[.int .u8 x178000_1, .int .u8 x178001_1, .int .u8 x178002_1, .int .u8 x178003_1]) ?_ 0 _ rfl; (with_reducible repeat (first | refine blk_drewN ?_ _ | refine blk_drew ?_ | refine blk_alloc ?_ _)); refine blk_far ?_ NB177_200.out _; (with_reducible repeat (first | refine blk_drewN ?_ _ | refine blk_drew ?_ | refine blk_alloc ?_ _)); refine blk_far ?_ NB177_200.out _; (with_reducible repeat (first | refine blk_drewN ?_ _ | refine blk_drew ?_ | refine blk_alloc ?_ _)); refine blk_far ?_ NB177_200.out _; (with_reducible repeat (first | refine blk_drewN ?_ _ | refine blk_drew ?_ | refine blk_alloc ?_ _)); refine blk_far ?_ NB177_200.out _; (with_reducible repeat (first | refine blk_drewN ?_ _ | refine blk_drew ?_ | refine blk_alloc ?_ _)); exact BK177.out⟩, ⟨by (with_reducible repeat (first | refine blk_drewN ?_ _ | refine blk_drew ?_ | refine blk_alloc ?_ _)); refine blk_put (cs := #[.int .u8 t194, .int .u8 t195, .int .u8 t196, .int .u8 x187003_1]) ?_ 3 _ rfl; (with_reducible repeat (first | refine blk_drewN ?_ _ | refine blk_drew ?_ | refine blk_alloc ?_ _)); refine blk_put (cs := #[.int .u8 t194, .int .u8 t195, .int .u8 x187002_1, .int .u8 x187003_1]) ?_ 2 _ rfl; (with_reducible repeat (first | refine blk_drewN ?_ _ | refine blk_drew ?_ | refine blk_alloc ?_ _)); refine blk_put (cs := #[.int .u8 t194, .int .u8 x187001_1, .int .u8 x187002_1, .int .u8 x187003_1]) ?_ 1 _ rfl; (with_reducible repeat (first | refine blk_drewN ?_ _ | refine blk_drew ?_ | refine blk_alloc ?_ _)); refine blk_put (cs := #[.int .u8 x187000_1, .int .u8 x187001_1, .int .u8 x187002_1, .int .u8 x187003_1]) ?_ 0 _ rfl; (with_reducible repeat (first | refine blk_drewN ?_ _ | refine blk_drew ?_ | refine blk_alloc ?_ _)); refine blk_far ?_ NB186_177.out _; (with_reducible repeat (first | refine blk_drewN ?_ _ | refine blk_drew ?_ | refine blk_alloc ?_ _)); refine blk_far ?_ NB186_177.out _; (with_reducible repeat (first | refine blk_drewN ?_ _ | refine blk_drew ?_ | refine blk_alloc ?_ _)); refine blk_far ?_ NB186_177.out _; (with_reducible repeat (first | refine blk_drewN ?_ _ | refine blk_drew ?_ | refine blk_alloc ?_ _)); refine blk_far ?_ NB186_177.out _; (with_reducible repeat (first | refine blk_drewN ?_ _ | refine blk_drew ?_ | refine blk_alloc ?_ _)); refine blk_far ?_ NB186_200.out _; (with_reducible repeat (first | refine blk_drewN ?_ _ | refine blk_drew ?_ | refine blk_alloc ?_ _)); refine blk_far ?_ NB186_200.out _; (with_reducible repeat (first | refine blk_drewN ?_ _ | refine blk_drew ?_ | refine blk_alloc ?_ _)); refine blk_far ?_ NB186_200.out _; (with_reducible repeat (first | refine blk_drewN ?_ _ | refine blk_drew ?_ | refine blk_alloc ?_ _)); refine blk_far ?_ NB186_200.out _; (with_reducible repeat (first | refine blk_drewN ?_ _ | refine blk_drew ?_ | refine blk_alloc ?_ _)); exact BK186.out⟩, ⟨by (with_reducible repeat (first | refine blk_drewN ?_ _ | refine blk_drew ?_ | refine blk_alloc ?_ _)); refine blk_far ?_ NB193_186.out _; (with_reducible repeat (first | refine blk_drewN ?_ _ | refine blk_drew ?_ | refine blk_alloc ?_ _)); refine blk_far ?_ NB193_186.out _; (with_reducible repeat (first | refine blk_drewN ?_ _ | refine blk_drew ?_ | refine blk_alloc ?_ _)); refine blk_far ?_ NB193_186.out _; (with_reducible repeat (first | refine blk_drewN ?_ _ | refine blk_drew ?_ | refine blk_alloc ?_ _)); refine blk_far ?_ NB193_186.out _; (with_reducible repeat (first | refine blk_drewN ?_ _ | refine blk_drew ?_ | refine blk_alloc ?_ _)); refine blk_far ?_ NB193_177.out _; (with_reducible repeat (first | refine blk_drewN ?_ _ | refine blk_drew ?_ | refine blk_alloc ?_ _)); refine blk_far ?_ NB193_177.out _; (with_reducible repeat (first | refine blk_drewN ?_ _ | refine blk_drew ?_ | refine blk_alloc ?_ _)); refine blk_far ?_ NB193_177.out _; (with_reducible repeat (first | refine blk_drewN ?_ _ | refine blk_drew ?_ | refine blk_alloc ?_ _)); refine blk_far ?_ NB193_177.out _; (with_reducible repeat (first | refine blk_drewN ?_ _ | refine blk_drew ?_ | refine blk_alloc ?_ _)); refine blk_far ?_ NB193_200.out _; (with_reducible repeat (first | refine blk_drewN ?_ _ | refine blk_drew ?_ | refine blk_alloc ?_ _)); refine blk_far ?_ NB193_200.out _; (with_reducible repeat (first | refine blk_drewN ?_ _ | refine blk_drew ?_ | refine blk_alloc ?_ _)); refine blk_far ?_ NB193_200.out _; (with_reducible repeat (first | refine blk_drewN ?_ _ | refine blk_drew ?_ | refine blk_alloc ?_ _)); refine blk_far ?_ NB193_200.out _; (with_reducible repeat (first | refine blk_drewN ?_ _ | refine blk_drew ?_ | refine blk_alloc ?_ _)); exact BK193.out⟩, ⟨by (with_reducible repeat (first | refine blk_drewN ?_ _ | refine blk_drew ?_ | refine blk_alloc ?_ _)); refine blk_far ?_ NB200_186.out _; (with_reducible repeat (first | refine blk_drewN ?_ _ | refine blk_drew ?_ | refine blk_alloc ?_ _)); refine blk_far ?_ NB200_186.out _; (with_reducible repeat (first | refine blk_drewN ?_ _ | refine blk_drew ?_ | refine blk_alloc ?_ _)); refine blk_far ?_ NB200_186.out _; (with_reducible repeat (first | refine blk_drewN ?_ _ | refine blk_drew ?_ | refine blk_alloc ?_ _)); refine blk_far ?_ NB200_186.out _; (with_reducible repeat (first | refine blk_drewN ?_ _ | refine blk_drew ?_ | refine blk_alloc ?_ _)); refine blk_far ?_ NB200_177.out _; (with_reducible repeat (first | refine blk_drewN ?_ _ | refine blk_drew ?_ | refine blk_alloc ?_ _)); refine blk_far ?_ NB200_177.out _; (with_reducible repeat (first | refine blk_drewN ?_ _ | refine blk_drew ?_ | refine blk_alloc ?_ _)); refine blk_far ?_ NB200_177.out _; (with_reducible repeat (first | refine blk_drewN ?_ _ | refine blk_drew ?_ | refine blk_alloc ?_ _)); refine blk_far ?_ NB200_177.out _; (with_reducible repeat (first | refine blk_drewN ?_ _ | refine blk_drew ?_ | refine blk_alloc ?_ _)); refine blk_put (cs := #[.int .u8 t194, .int .u8 t195, .int .u8 t196, .int .u8 0]) ?_ 3 _ rfl; (with_reducible repeat (first | refine blk_drewN ?_ _ | refine blk_drew ?_ | refine blk_alloc ?_ _)); refine blk_put (cs := #[.int .u8 t194, .int .u8 t195, .int .u8 0, .int .u8 0]) ?_ 2 _ rfl; (with_reducible repeat (first | refine blk_drewN ?_ _ | refine blk_drew ?_ | refine blk_alloc ?_ _)); refine blk_put (cs := #[.int .u8 t194, .int .u8 0, .int .u8 0, .int .u8 0]) ?_ 1 _ rfl; (with_reducible repeat (first | refine blk_drewN ?_ _ | refine blk_drew ?_ | refine blk_alloc ?_ _)); refine blk_put (cs := #[.int .u8 0, .int .u8 0, .int .u8 0, .int .u8 0]) ?_ 0 _ rfl; (with_reducible repeat (first | refine blk_drewN ?_ _ | refine blk_drew ?_ | refine blk_alloc ?_ _)); exact BK200.out⟩, ⟨by repeat (first | (with_reducible first | exact HB.out | apply below_alloc | apply pw_below_drewN | apply below_drew1 | refine below_set ?_ GE177.out | refine below_set ?_ GE186.out | refine below_set ?_ GE193.out | refine below_set ?_ GE200.out) | exact HB.out)⟩⟩
        case rest =>
          clear HC21
          try clear c1
          try clear c2
          try clear p2
          try clear c3
          try clear c4
          try clear c6
          try clear c9
          try clear c10
          try clear c12
          try clear c16
          try clear c18
          try clear c18b0
          try clear c22
          try clear c27
          try clear c28
          try clear c34
          try clear c35
          try clear c36
          try clear c41
          try clear c41b0
          try clear c41b1
          try clear c41b2
          try clear hcz12_0
          try clear hcz12_1
          try clear hcz12_2
          try clear hcz12_3
          try clear hcz17_0
          try clear hcz17_1
          try clear hcz17_2
          try clear hcz17_3
          try clear hcz23_0
          try clear hcz23_1
          try clear hcz23_2
          try clear hcz23_3
          try clear hcz24_0
          try clear hcz24_1
          try clear hcz24_2
          try clear hcz24_3
          try clear hcz29_0
          try clear hcz29_1
          try clear hcz29_2
          try clear hcz29_3
          try clear hcz30_0
          try clear hcz30_1
          try clear hcz30_2
          try clear hcz30_3
          try clear hcz31_0
          try clear hcz31_1
          try clear hcz31_2
          try clear hcz31_3
          try clear hcz37_0
          try clear hcz37_1
          try clear hcz37_2
          try clear hcz37_3
          try clear hcz38_0
          try clear hcz38_1
          try clear hcz38_2
          try clear hcz38_3
          try clear hcz39_0
          try clear hcz39_1
          try clear hcz39_2
          try clear hcz39_3
          try clear hcz40_0
          try clear hcz40_1
          try clear hcz40_2
          try clear hcz40_3
          try clear hfz12_0
          try clear hfz12_1
          try clear hfz12_2
          try clear hfz12_3
          try clear hfz17_0
          try clear hfz17_1
          try clear hfz17_2
          try clear hfz17_3
          try clear hfz23_0
          try clear hfz23_1
          try clear hfz23_2
          try clear hfz23_3
          try clear hfz24_0
          try clear hfz24_1
          try clear hfz24_2
          try clear hfz24_3
          try clear hfz29_0
          try clear hfz29_1
          try clear hfz29_2
          try clear hfz29_3
          try clear hfz30_0
          try clear hfz30_1
          try clear hfz30_2
          try clear hfz30_3
          try clear hfz31_0
          try clear hfz31_1
          try clear hfz31_2
          try clear hfz31_3
          try clear hfz37_0
          try clear hfz37_1
          try clear hfz37_2
          try clear hfz37_3
          try clear hfz38_0
          try clear hfz38_1
          try clear hfz38_2
          try clear hfz38_3
          try clear hfz39_0
          try clear hfz39_1
          try clear hfz39_2
          try clear hfz39_3
          try clear hfz40_0
          try clear hfz40_1
          try clear hfz40_2
          try clear hfz40_3
          try clear p2
          obtain ⟨kq, x64_20, rfl, HA, HJ20, BK177, BK186, BK193, BK200, HB⟩ := hcut
          cases kq with
          | zero => exact absurd HA.out (by simp [whirligiglaw12_SerialSwaps.j1])
          | succ kj20 =>
            have H := HA.out
            clear HA
            simp only [whirligiglaw12_SerialSwaps.j1] at H
            by_cases c42 : x64_20 = true
            · subst c42
              have H1 : (some false) = some r := by rw [if_pos rfl] at H; exact H
              clear H
              have H := H1
              clear H1
              obtain rfl := Option.some.inj H
              go_wp2
              go_ret
              exact ⟨by first | rfl | (simp [errW_none, errW_some] <;> rfl) | (simp [*, errW_none, errW_some] <;> rfl), by repeat (first | (with_reducible first | exact HB.out | apply below_alloc | apply pw_below_drewN | apply below_drew1 | refine below_set ?_ GE177.out | refine below_set ?_ GE186.out | refine below_set ?_ GE193.out | refine below_set ?_ GE200.out) | exact HB.out)⟩
            · replace c42 := Bool.eq_false_iff.mpr c42
              subst c42
              have H1 : (if t192 = true then (whirligiglaw12_SerialSwaps.l0 kj20 a0 a1 t168 (wrap64 (x8_1 + 1)) (wrap64 (x9_1 + 1)) t187 t188 t189 t190 t194 t195 t196 t197) else (whirligiglaw12_SerialSwaps.l0 kj20 a0 a1 t168 x8_1 (wrap64 (x9_1 + 1)) t187 t188 t189 t190 t194 t195 t196 t197)) = some r := by rw [if_neg (show ¬ (false = true) by decide)] at H; exact H
              clear H
              have H := H1
              clear H1
              by_cases c43 : t192 = true
              · subst c43
                have H1 : (whirligiglaw12_SerialSwaps.l0 kj20 a0 a1 t168 (wrap64 (x8_1 + 1)) (wrap64 (x9_1 + 1)) t187 t188 t189 t190 t194 t195 t196 t197) = some r := by rw [if_pos rfl] at H; exact H
                clear H
                have H := H1
                clear H1
                have H' := Aside0.mk H
                clear H
                go_wp2
                go_roundg kj20
                case measure => have := HK1.out; have := HJ20.out; omega
                case rel => exact ⟨(wrap64 (x8_1 + 1)), (wrap64 (x9_1 + 1)), (t187), (t188), (t189), (t190), (t194), (t195), (t196), (t197), (by first | rfl | (simp; done) | (simp [*]; done)), (by first | rfl | (simp; done) | (simp [*]; done)), H', ⟨by have := HK1.out; have := HJ20.out; omega⟩, ⟨by (with_reducible repeat (first | refine blk_drewN ?_ _ | refine blk_drew ?_ | refine blk_alloc ?_ _)); exact BK177.out⟩, ⟨by (with_reducible repeat (first | refine blk_drewN ?_ _ | refine blk_drew ?_ | refine blk_alloc ?_ _)); exact BK186.out⟩, ⟨by repeat (first | (with_reducible first | exact HB.out | apply below_alloc | apply pw_below_drewN | apply below_drew1 | refine below_set ?_ GE177.out | refine below_set ?_ GE186.out | refine below_set ?_ GE193.out | refine below_set ?_ GE200.out) | exact HB.out)⟩⟩
              · replace c43 := Bool.eq_false_iff.mpr c43
                subst c43
                have H1 : (whirligiglaw12_SerialSwaps.l0 kj20 a0 a1 t168 x8_1 (wrap64 (x9_1 + 1)) t187 t188 t189 t190 t194 t195 t196 t197) = some r := by rw [if_neg (show ¬ (false = true) by decide)] at H; exact H
                clear H
                have H := H1
                clear H1
                have H' := Aside0.mk H
                clear H
                go_wp2
                go_roundg kj20
                case measure => have := HK1.out; have := HJ20.out; omega
                case rel => exact ⟨(x8_1), (wrap64 (x9_1 + 1)), (t187), (t188), (t189), (t190), (t194), (t195), (t196), (t197), (by first | rfl | (simp; done) | (simp [*]; done)), (by first | rfl | (simp; done) | (simp [*]; done)), H', ⟨by have := HK1.out; have := HJ20.out; omega⟩, ⟨by (with_reducible repeat (first | refine blk_drewN ?_ _ | refine blk_drew ?_ | refine blk_alloc ?_ _)); exact BK177.out⟩, ⟨by (with_reducible repeat (first | refine blk_drewN ?_ _ | refine blk_drew ?_ | refine blk_alloc ?_ _)); exact BK186.out⟩, ⟨by repeat (first | (with_reducible first | exact HB.out | apply below_alloc | apply pw_below_drewN | apply below_drew1 | refine below_set ?_ GE177.out | refine below_set ?_ GE186.out | refine below_set ?_ GE193.out | refine below_set ?_ GE200.out) | exact HB.out)⟩⟩
      · rw [if_neg c18] at H
        have c18b0 : decide (x9_1 < 1024) = false := decide_eq_false c18
        clear c18
        by_cases c44 : t168 = true
        · subst c44
          have H1 : (if x178000_1 = a1 then (if x187000_1 = a0 then (some (x8_1 == 1)) else (some false)) else (some false)) = some r := by rw [if_pos rfl] at H; exact H
          clear H
          have H := H1
          clear H1
          by_cases c45 : x178000_1 = a1
          · rw [if_pos c45] at H
            have c45b0 : (x178000_1 == a1) = true := beq_iff_eq.mpr c45
            have c45b1 : (x178000_1 != a1) = false := bne_eq_false_iff_eq.mpr c45
            clear c45
            by_cases c46 : x187000_1 = a0
            · rw [if_pos c46] at H
              have c46b0 : (x187000_1 == a0) = true := beq_iff_eq.mpr c46
              have c46b1 : (x187000_1 != a0) = false := bne_eq_false_iff_eq.mpr c46
              clear c46
              obtain rfl := Option.some.inj H
              have hnb47 := NB177_186.out
              have hnc47 := NB186_177.out
              have hcz48_0 : wr.cell? ⟨gb177, 0, none⟩ = some (.int .u8 x178000_1) := (blk_cell BK177.out 0).trans rfl
              have hcz48_1 : wr.cell? ⟨gb177, 1, none⟩ = some (.int .u8 x178001_1) := (blk_cell BK177.out 1).trans rfl
              have hcz48_2 : wr.cell? ⟨gb177, 2, none⟩ = some (.int .u8 x178002_1) := (blk_cell BK177.out 2).trans rfl
              have hcz48_3 : wr.cell? ⟨gb177, 3, none⟩ = some (.int .u8 x178003_1) := (blk_cell BK177.out 3).trans rfl
              have hfz48_0 := blk_frozen BK177.out 0
              have hfz48_1 := blk_frozen BK177.out 1
              have hfz48_2 := blk_frozen BK177.out 2
              have hfz48_3 := blk_frozen BK177.out 3
              have hcz49_0 : wr.cell? ⟨gb186, 0, none⟩ = some (.int .u8 x187000_1) := (blk_cell BK186.out 0).trans rfl
              have hcz49_1 : wr.cell? ⟨gb186, 1, none⟩ = some (.int .u8 x187001_1) := (blk_cell BK186.out 1).trans rfl
              have hcz49_2 : wr.cell? ⟨gb186, 2, none⟩ = some (.int .u8 x187002_1) := (blk_cell BK186.out 2).trans rfl
              have hcz49_3 : wr.cell? ⟨gb186, 3, none⟩ = some (.int .u8 x187003_1) := (blk_cell BK186.out 3).trans rfl
              have hfz49_0 := blk_frozen BK186.out 0
              have hfz49_1 := blk_frozen BK186.out 1
              have hfz49_2 := blk_frozen BK186.out 2
              have hfz49_3 := blk_frozen BK186.out 3
              go_wp2
              go_ret
              exact ⟨by first | rfl | (simp [errW_none, errW_some] <;> rfl) | (simp [*, errW_none, errW_some] <;> rfl), by repeat (first | (with_reducible first | exact HB.out | apply below_alloc | apply pw_below_drewN | apply below_drew1 | refine below_set ?_ GE177.out | refine below_set ?_ GE186.out) | exact HB.out)⟩
            · rw [if_neg c46] at H
              have c46b0 : (x187000_1 == a0) = false := beq_eq_false_iff_ne.mpr c46
              have c46b1 : (x187000_1 != a0) = true := bne_iff_ne.mpr c46
              obtain rfl := Option.some.inj H
              have hnb50 := NB177_186.out
              have hnc50 := NB186_177.out
              have hcz51_0 : wr.cell? ⟨gb177, 0, none⟩ = some (.int .u8 x178000_1) := (blk_cell BK177.out 0).trans rfl
              have hcz51_1 : wr.cell? ⟨gb177, 1, none⟩ = some (.int .u8 x178001_1) := (blk_cell BK177.out 1).trans rfl
              have hcz51_2 : wr.cell? ⟨gb177, 2, none⟩ = some (.int .u8 x178002_1) := (blk_cell BK177.out 2).trans rfl
              have hcz51_3 : wr.cell? ⟨gb177, 3, none⟩ = some (.int .u8 x178003_1) := (blk_cell BK177.out 3).trans rfl
              have hfz51_0 := blk_frozen BK177.out 0
              have hfz51_1 := blk_frozen BK177.out 1
              have hfz51_2 := blk_frozen BK177.out 2
              have hfz51_3 := blk_frozen BK177.out 3
              have hcz52_0 : wr.cell? ⟨gb186, 0, none⟩ = some (.int .u8 x187000_1) := (blk_cell BK186.out 0).trans rfl
              have hcz52_1 : wr.cell? ⟨gb186, 1, none⟩ = some (.int .u8 x187001_1) := (blk_cell BK186.out 1).trans rfl
              have hcz52_2 : wr.cell? ⟨gb186, 2, none⟩ = some (.int .u8 x187002_1) := (blk_cell BK186.out 2).trans rfl
              have hcz52_3 : wr.cell? ⟨gb186, 3, none⟩ = some (.int .u8 x187003_1) := (blk_cell BK186.out 3).trans rfl
              have hfz52_0 := blk_frozen BK186.out 0
              have hfz52_1 := blk_frozen BK186.out 1
              have hfz52_2 := blk_frozen BK186.out 2
              have hfz52_3 := blk_frozen BK186.out 3
              go_wp2
              go_ret
              exact ⟨by first | rfl | (simp [errW_none, errW_some] <;> rfl) | (simp [*, errW_none, errW_some] <;> rfl), by repeat (first | (with_reducible first | exact HB.out | apply below_alloc | apply pw_below_drewN | apply below_drew1 | refine below_set ?_ GE177.out | refine below_set ?_ GE186.out) | exact HB.out)⟩
          · rw [if_neg c45] at H
            have c45b0 : (x178000_1 == a1) = false := beq_eq_false_iff_ne.mpr c45
            have c45b1 : (x178000_1 != a1) = true := bne_iff_ne.mpr c45
            obtain rfl := Option.some.inj H
            have hnb53 := NB177_186.out
            have hnc53 := NB186_177.out
            have hcz54_0 : wr.cell? ⟨gb177, 0, none⟩ = some (.int .u8 x178000_1) := (blk_cell BK177.out 0).trans rfl
            have hcz54_1 : wr.cell? ⟨gb177, 1, none⟩ = some (.int .u8 x178001_1) := (blk_cell BK177.out 1).trans rfl
            have hcz54_2 : wr.cell? ⟨gb177, 2, none⟩ = some (.int .u8 x178002_1) := (blk_cell BK177.out 2).trans rfl
            have hcz54_3 : wr.cell? ⟨gb177, 3, none⟩ = some (.int .u8 x178003_1) := (blk_cell BK177.out 3).trans rfl
            have hfz54_0 := blk_frozen BK177.out 0
            have hfz54_1 := blk_frozen BK177.out 1
            have hfz54_2 := blk_frozen BK177.out 2
            have hfz54_3 := blk_frozen BK177.out 3
            go_wp2
            go_ret
            exact ⟨by first | rfl | (simp [errW_none, errW_some] <;> rfl) | (simp [*, errW_none, errW_some] <;> rfl), by repeat (first | (with_reducible first | exact HB.out | apply below_alloc | apply pw_below_drewN | apply below_drew1 | refine below_set ?_ GE177.out | refine below_set ?_ GE186.out) | exact HB.out)⟩
        · replace c44 := Bool.eq_false_iff.mpr c44
          subst c44
          have H1 : (some false) = some r := by rw [if_neg (show ¬ (false = true) by decide)] at H; exact H
          clear H
          have H := H1
          clear H1
          obtain rfl := Option.some.inj H
          go_wp2
          go_ret
          exact ⟨by first | rfl | (simp [errW_none, errW_some] <;> rfl) | (simp [*, errW_none, errW_some] <;> rfl), by repeat (first | (with_reducible first | exact HB.out | apply below_alloc | apply pw_below_drewN | apply below_drew1 | refine below_set ?_ GE177.out | refine below_set ?_ GE186.out) | exact HB.out)⟩

/-- THE ONE PURE STATEMENT of whirligiglaw12_SerialSwaps: yours. -/
def whirligiglaw12_SerialSwaps.Pure : Prop := ∀ (a0 : Int) (a1 : Int), (Lit.int .u8 a0).wf = true → (Lit.int .u8 a1).wf = true → ∃ k, whirligiglaw12_SerialSwaps.f k a0 a1 = some true
theorem whirligiglaw12_SerialSwaps.walk (P : whirligiglaw12_SerialSwaps.Pure) (a0 : Int) (a1 : Int) (w : World) (w0 : (Lit.int .u8 a0).wf = true) (w1 : (Lit.int .u8 a1).wf = true) :
    Calls Try.prog 6 #[.int .u8 a0, .int .u8 a1] w fun e w' => e = .returned (.bool true) ∧ Below w.heap.size w w' := by
  obtain ⟨k, h⟩ := P a0 a1 w0 w1
  refine (whirligiglaw12_SerialSwaps.calls k a0 a1 true w h).mono ?_
  rintro e w' ⟨rfl, hd⟩
  exact ⟨rfl, hd⟩

/-! ### serial_Read: function 14 -/
def serial_Read.f (a0_0 : Int) (a0_1 : Int) (a0_2 : Int) (a0_3 : Int) (a1 : Int) : Option (Int) := if a1 = 65281 then (some a0_0) else (if a1 = 65282 then (some (Go.bits .or .u8 a0_1 126)) else (some 255))
set_option maxHeartbeats 8000000 in
set_option maxRecDepth 100000 in
theorem serial_Read.calls (a0_0 : Int) (a0_1 : Int) (a0_2 : Int) (a0_3 : Int) (a1 : Int) (r : Int) (w : World) (h : serial_Read.f a0_0 a0_1 a0_2 a0_3 a1 = some r) :
    Calls Try.prog 14 #[.agg #[.int .u8 a0_0, .int .u8 a0_1, .int .u8 a0_2, .int .u8 a0_3], .int .u16 a1] w fun e w' => e = .returned (.int .u8 r) ∧ Below w.heap.size w w' := by
  have hu23 := Try.underlying23
  have HB := Aside0.mk (Below.refl w.heap.size w)
  have H : (if a1 = 65281 then (some a0_0) else (if a1 = 65282 then (some (Go.bits .or .u8 a0_1 126)) else (some 255))) = some r := h
  clear h
  by_cases c3 : a1 = 65281
  · rw [if_pos c3] at H
    have c3b0 : (a1 == 65281) = true := beq_iff_eq.mpr c3
    have c3b1 : (a1 != 65281) = false := bne_eq_false_iff_eq.mpr c3
    clear c3
    obtain rfl := Option.some.inj H
    go_enter Try.func14, Try.ntmps14
    go_wp2_with (first | ((with_reducible refine gate_dst (N := 2) rfl ?_); refine box_event ?hg (N := 2) ?hd (cs := #[.int .u8 a0_0, .int .u8 a0_1, .int .u8 a0_2, .int .u8 a0_3]) (t := 23) ?hr ?_; (case hd => rfl); (case hg => rfl); (case hr => first | (go_simp; done) | (go_simp; rfl)); intro gb201 hg w4 hbox hb; have n0_ := Aside0.mk (below_step (by repeat (first | (with_reducible first | exact HB.out | apply below_alloc | apply pw_below_drewN | apply below_drew1) | exact HB.out)) hb); have n1_ := Aside0.mk (hbox); have n2_ := Aside0.mk ((by rw [hg]; exact (below_size (by repeat (first | (with_reducible first | exact HB.out | apply below_alloc | apply pw_below_drewN | apply below_drew1) | exact HB.out))) : w.heap.size ≤ gb201)); have n3_ := Aside0.mk ((by rw [hg]; exact (below_size (by repeat (first | (with_reducible first | exact HB.out | apply below_alloc | apply pw_below_drewN | apply below_drew1) | exact HB.out))) : w.heap.size ≤ gb201)); clear HB; have HB := n0_; have BK201 := n1_; have GW201 := n2_; have GE201 := n3_; clear n0_ n1_ n2_ n3_; clear hb hbox hg; have hcz5_0 : w4.cell? ⟨gb201, 0, none⟩ = some (.int .u8 a0_0) := (blk_cell BK201.out 0).trans rfl; have hcz5_1 : w4.cell? ⟨gb201, 1, none⟩ = some (.int .u8 a0_1) := (blk_cell BK201.out 1).trans rfl; have hcz5_2 : w4.cell? ⟨gb201, 2, none⟩ = some (.int .u8 a0_2) := (blk_cell BK201.out 2).trans rfl; have hcz5_3 : w4.cell? ⟨gb201, 3, none⟩ = some (.int .u8 a0_3) := (blk_cell BK201.out 3).trans rfl; have hfz5_0 := blk_frozen BK201.out 0; have hfz5_1 := blk_frozen BK201.out 1; have hfz5_2 := blk_frozen BK201.out 2; have hfz5_3 := blk_frozen BK201.out 3))
    go_ret
    exact ⟨by first | rfl | (simp [errW_none, errW_some] <;> rfl) | (simp [*, errW_none, errW_some] <;> rfl), by repeat (first | (with_reducible first | exact HB.out | apply below_alloc | apply pw_below_drewN | apply below_drew1 | refine below_set ?_ GE201.out) | exact HB.out)⟩
  · rw [if_neg c3] at H
    have c3b0 : (a1 == 65281) = false := beq_eq_false_iff_ne.mpr c3
    have c3b1 : (a1 != 65281) = true := bne_iff_ne.mpr c3
    by_cases c6 : a1 = 65282
    · rw [if_pos c6] at H
      have c6b0 : (a1 == 65282) = true := beq_iff_eq.mpr c6
      have c6b1 : (a1 != 65282) = false := bne_eq_false_iff_eq.mpr c6
      clear c6
      obtain rfl := Option.some.inj H
      go_enter Try.func14, Try.ntmps14
      go_wp2_with (first | ((with_reducible refine gate_dst (N := 2) rfl ?_); refine box_event ?hg (N := 2) ?hd (cs := #[.int .u8 a0_0, .int .u8 a0_1, .int .u8 a0_2, .int .u8 a0_3]) (t := 23) ?hr ?_; (case hd => rfl); (case hg => rfl); (case hr => first | (go_simp; done) | (go_simp; rfl)); intro gb201 hg w7 hbox hb; have n0_ := Aside0.mk (below_step (by repeat (first | (with_reducible first | exact HB.out | apply below_alloc | apply pw_below_drewN | apply below_drew1) | exact HB.out)) hb); have n1_ := Aside0.mk (hbox); have n2_ := Aside0.mk ((by rw [hg]; exact (below_size (by repeat (first | (with_reducible first | exact HB.out | apply below_alloc | apply pw_below_drewN | apply below_drew1) | exact HB.out))) : w.heap.size ≤ gb201)); have n3_ := Aside0.mk ((by rw [hg]; exact (below_size (by repeat (first | (with_reducible first | exact HB.out | apply below_alloc | apply pw_below_drewN | apply below_drew1) | exact HB.out))) : w.heap.size ≤ gb201)); clear HB; have HB := n0_; have BK201 := n1_; have GW201 := n2_; have GE201 := n3_; clear n0_ n1_ n2_ n3_; clear hb hbox hg; have hcz8_0 : w7.cell? ⟨gb201, 0, none⟩ = some (.int .u8 a0_0) := (blk_cell BK201.out 0).trans rfl; have hcz8_1 : w7.cell? ⟨gb201, 1, none⟩ = some (.int .u8 a0_1) := (blk_cell BK201.out 1).trans rfl; have hcz8_2 : w7.cell? ⟨gb201, 2, none⟩ = some (.int .u8 a0_2) := (blk_cell BK201.out 2).trans rfl; have hcz8_3 : w7.cell? ⟨gb201, 3, none⟩ = some (.int .u8 a0_3) := (blk_cell BK201.out 3).trans rfl; have hfz8_0 := blk_frozen BK201.out 0; have hfz8_1 := blk_frozen BK201.out 1; have hfz8_2 := blk_frozen BK201.out 2; have hfz8_3 := blk_frozen BK201.out 3))
      go_ret
      exact ⟨by first | rfl | (simp [errW_none, errW_some] <;> rfl) | (simp [*, errW_none, errW_some] <;> rfl), by repeat (first | (with_reducible first | exact HB.out | apply below_alloc | apply pw_below_drewN | apply below_drew1 | refine below_set ?_ GE201.out) | exact HB.out)⟩
    · rw [if_neg c6] at H
      have c6b0 : (a1 == 65282) = false := beq_eq_false_iff_ne.mpr c6
      have c6b1 : (a1 != 65282) = true := bne_iff_ne.mpr c6
      obtain rfl := Option.some.inj H
      go_enter Try.func14, Try.ntmps14
      go_wp2_with (first | ((with_reducible refine gate_dst (N := 2) rfl ?_); refine box_event ?hg (N := 2) ?hd (cs := #[.int .u8 a0_0, .int .u8 a0_1, .int .u8 a0_2, .int .u8 a0_3]) (t := 23) ?hr ?_; (case hd => rfl); (case hg => rfl); (case hr => first | (go_simp; done) | (go_simp; rfl)); intro gb201 hg w9 hbox hb; have n0_ := Aside0.mk (below_step (by repeat (first | (with_reducible first | exact HB.out | apply below_alloc | apply pw_below_drewN | apply below_drew1) | exact HB.out)) hb); have n1_ := Aside0.mk (hbox); have n2_ := Aside0.mk ((by rw [hg]; exact (below_size (by repeat (first | (with_reducible first | exact HB.out | apply below_alloc | apply pw_below_drewN | apply below_drew1) | exact HB.out))) : w.heap.size ≤ gb201)); have n3_ := Aside0.mk ((by rw [hg]; exact (below_size (by repeat (first | (with_reducible first | exact HB.out | apply below_alloc | apply pw_below_drewN | apply below_drew1) | exact HB.out))) : w.heap.size ≤ gb201)); clear HB; have HB := n0_; have BK201 := n1_; have GW201 := n2_; have GE201 := n3_; clear n0_ n1_ n2_ n3_; clear hb hbox hg))
      go_ret
      exact ⟨by first | rfl | (simp [errW_none, errW_some] <;> rfl) | (simp [*, errW_none, errW_some] <;> rfl), by repeat (first | (with_reducible first | exact HB.out | apply below_alloc | apply pw_below_drewN | apply below_drew1 | refine below_set ?_ GE201.out) | exact HB.out)⟩

end Go.Proofs.Ytbceegmpdgadoaa.P
