/- The walk of whirligiglaw15.LcdLines. No condition but the bounds that stand in it. -/
import Derived.Test.YtiponhdcjccmaaaLinesPlain
namespace Go.Proofs.Ytiponhdcjccmaaa.P
open Go.RowKit Go.Proofs.YtiponhdcjccmaaaW.PrintWords Go.Proofs.YtiponhdcjccmaaaW.PrintLast Go.Proofs.YtiponhdcjccmaaaW.PrintMore Go.Proofs.Ytiponhdcjccmaaa.Plain Go.Proofs.Ytiponhdcjccmaaa.Lines
set_option linter.unusedVariables false
set_option linter.unusedSimpArgs false
def nArr (c : Nat → Nat) : Array Value := #[.int .i64 (c 0 : Int), .int .i64 (c 1 : Int), .int .i64 (c 2 : Int), .int .i64 (c 3 : Int)]
theorem nArr_at (c : Nat → Nat) (m : Nat) (h : m < 4) : (nArr c)[m]? = some (.int .i64 (c m : Int)) := by
  match m, h with
  | 0, _ => rfl
  | 1, _ => rfl
  | 2, _ => rfl
  | 3, _ => rfl
theorem nArr_set (c d : Nat → Nat) (m : Nat) (h : m < 4) (hd : ∀ j, d j = c j + (if m = j then 1 else 0)) : (nArr c).setIfInBounds m (.int .i64 ((c m : Int) + 1)) = nArr d := by
  unfold nArr
  rw [hd 0, hd 1, hd 2, hd 3]
  match m, h with
  | 0, _ => rfl
  | 1, _ => rfl
  | 2, _ => rfl
  | 3, _ => rfl
def lArr (L D X : Int) : Array Value := #[.bool true, .int .u8 L, .int .u16 D, .int .u8 0, .int .u8 0, .bool false, .int .u16 X]
structure LinesAt (g : Nat) (w W : World) (L D X : Int) (c : Nat → Nat) : Prop where
  b0 : W.heap[g]? = some (.cells #[.bool true, .int .u8 L, .int .u16 D, .int .u8 0, .int .u8 0, .bool false, .int .u16 X] 24 (0, 0))
  b1 : W.heap[g + 1]? = some (.cells (nArr c) 32 (0, 0))
  hB : Below w.heap.size w W
  hg : w.heap.size ≤ g
set_option maxHeartbeats 4000000 in
set_option maxRecDepth 100000 in
theorem lines_walk (line extra L0 E : Nat) (hL0 : L0 < 153) (hE : E = if 200 < extra then 200 else extra) (he : extra < 65536) (hL : Int.tmod (line : Int) 153 = (L0 : Int)) (w : World) :
    Calls Try.prog 5 #[.int .u8 (line : Int), .int .u16 (extra : Int)] w fun e w' => e = .returned (.bool true) ∧ Below w.heap.size w w' := by
  have HE := Aside0.mk hE
  clear hE
  go_enter Try.func5, Try.ntmps5
  go_wp2_with fail
  refine (whirligiglaw15_shown.calls 2 true _ shown2).mono ?_
  rintro e w1 ⟨rfl, b1⟩
  go_wp2_with fail
  have hA : LinesAt w1.heap.size w ((w1.alloc (.cells #[.bool true, .int .u8 (L0 : Int), .int .u16 455, .int .u8 0, .int .u8 0, .bool false, .int .u16 0] 24)).alloc (.cells #[.int .i64 0, .int .i64 0, .int .i64 0, .int .i64 0] 32)) (ln L0 0 : Int) (dt 0 : Int) (xx L0 E 0 : Int) (cnt L0 E 0) :=
    ⟨by have := blk_alloc (blk_new w1 (.cells #[.bool true, .int .u8 (L0 : Int), .int .u16 455, .int .u8 0, .int .u8 0, .bool false, .int .u16 0] 24)) (.cells #[.int .i64 0, .int .i64 0, .int .i64 0, .int .i64 0] 32)
        rw [show (xx L0 E 0 : Int) = 0 by unfold xx; rw [if_neg (by omega)]; rfl]; exact this,
     by have := blk_new (w1.alloc (.cells #[.bool true, .int .u8 (L0 : Int), .int .u16 455, .int .u8 0, .int .u8 0, .bool false, .int .u16 0] 24)) (.cells #[.int .i64 0, .int .i64 0, .int .i64 0, .int .i64 0] 32)
        rw [World.size_alloc] at this; exact this, below_alloc (below_alloc b1 _) _, b1.size⟩
  have HA := Aside0.mk hA
  obtain ⟨g, hg⟩ : ∃ g, w1.heap.size = g := ⟨_, rfl⟩
  obtain ⟨W0, hW0⟩ : ∃ W0, ((w1.alloc (.cells #[.bool true, .int .u8 (L0 : Int), .int .u16 455, .int .u8 0, .int .u8 0, .bool false, .int .u16 0] 24)).alloc (.cells #[.int .i64 0, .int .i64 0, .int .i64 0, .int .i64 0] 32)) = W0 := ⟨_, rfl⟩
  rw [hg, hW0] at HA
  rw [hg, hW0]
  clear hA hW0 hg b1
  go_loopw [8, 9, 10] (fun la tu i wr => ∃ k : Nat, k ≤ 456 ∧ i = .int .i64 k ∧ la = .int .i64 (lst L0 E k) ∧ tu = .int .i64 (trn L0 E k : Int) ∧ Aside0 (LinesAt g w wr (ln L0 k) (dt k) (xx L0 E k) (cnt L0 E k))) (fun _ _ i _ => 456 - (intOf i).toNat)
  case atStart => exact ⟨0, by omega, rfl, rfl, rfl, HA⟩
  case round =>
    obtain ⟨k, hk, rfl, rfl, rfl, HR⟩ := hrel
    by_cases hlt : k < 456
    · have b0 := HR.out.b0
      have y0 := blk_cell b0 0
      have y1 := blk_cell b0 1
      have y2 := blk_cell b0 2
      have y3 := blk_cell b0 3
      have y4 := blk_cell b0 4
      have y5 := blk_cell b0 5
      have y6 := blk_cell b0 6
      simp only [List.getElem?_toArray, List.getElem?_cons_zero, List.getElem?_cons_succ] at y0 y1 y2 y3 y4 y5 y6
      clear b0
      go_wp2_with fail
      obtain ⟨fr, dr, hst⟩ := step_st L0 extra E k hL0 hlt HE.out
      refine (lcd_Step.calls 1 _ _ _ _ _ _ _ _ _ _ _ _ _ _ _ _ _ _ _ hst).mono ?_
      clear hst y0 y1 y2 y3 y4 y5 y6
      rintro e w2 ⟨rfl, b2⟩
      have H2 : LinesAt g w w2 (ln L0 k) (dt k) (xx L0 E k) (cnt L0 E k) := ⟨blk_below HR.out.b0 b2, blk_below HR.out.b1 b2, below_step HR.out.hB b2, HR.out.hg⟩
      clear b2 HR
      have b0 := H2.b0
      have y0 := blk_cell b0 0
      have y1 := blk_cell b0 1
      have y2 := blk_cell b0 2
      have y3 := blk_cell b0 3
      have y4 := blk_cell b0 4
      have y5 := blk_cell b0 5
      have y6 := blk_cell b0 6
      simp only [List.getElem?_toArray, List.getElem?_cons_zero, List.getElem?_cons_succ] at y0 y1 y2 y3 y4 y5 y6
      have f0 := fun i => blk_frozen b0 i
      have HR := Aside0.mk H2
      clear b0 H2
      go_wp2_with fail
      refine (lcd_Mode.calls _ _ _ _ _ _ _ _ _ (mode_st L0 E k (by have := HE.out; split at this <;> omega) hlt)).mono ?_
      clear y0 y1 y2 y3 y4 y5 y6 f0
      rintro e w4 ⟨rfl, b4⟩
      obtain ⟨c0, c1, cB, cg⟩ := HR.out
      have d0 : w4.heap[g]? = some (.cells #[.bool true, .int .u8 (ln L0 (k + 1) : Int), .int .u16 (dt (k + 1) : Int), .int .u8 0, .int .u8 0, .bool false, .int .u16 (xx L0 E (k + 1) : Int)] 24 (0, 0)) := blk_below (by (apply via; (focus (repeat first | (with_reducible assumption) | (with_reducible apply blk_drew) | (with_reducible apply blk_drewN) | (focus ((with_reducible apply blk_new_at); first | rfl | (simp; done))) | (with_reducible apply blk_alloc) | (focus ((with_reducible apply blk_far); rotate_left; first | omega | (dsimp only; omega))) | (with_reducible apply blk_set))); all_goals rfl)) b4
      have d1 : w4.heap[g + 1]? = some (.cells (nArr (cnt L0 E k)) 32 (0, 0)) := blk_below (by (apply via; (focus (repeat first | (with_reducible assumption) | (with_reducible apply blk_drew) | (with_reducible apply blk_drewN) | (focus ((with_reducible apply blk_new_at); first | rfl | (simp; done))) | (with_reducible apply blk_alloc) | (focus ((with_reducible apply blk_far); rotate_left; first | omega | (dsimp only; omega))) | (with_reducible apply blk_set))); all_goals rfl)) b4
      have dB : Below w.heap.size w w4 := below_step (by (repeat first | (with_reducible assumption) | (with_reducible exact Below.refl _ _) | (with_reducible refine Below.drew ?_) | ((with_reducible refine Below.alloc ?_ ?_ _); rotate_left; first | omega | (focus (simp; done)) | (focus (simp; omega))) | ((with_reducible refine Below.setCell ?_ ?_ _); rotate_left; first | omega | (dsimp only; omega)))) b4
      clear b4 c0 c1 cB HR
      have y0 := blk_cell d0 0
      have y1 := blk_cell d0 1
      have y2 := blk_cell d0 2
      have y3 := blk_cell d0 3
      have y4 := blk_cell d0 4
      have y5 := blk_cell d0 5
      have y6 := blk_cell d0 6
      simp only [List.getElem?_toArray, List.getElem?_cons_zero, List.getElem?_cons_succ] at y0 y1 y2 y3 y4 y5 y6
      have hm4 := mo_lt L0 E k
      have n1 := (blk_cell d1 (mo L0 E k)).trans (nArr_at _ _ hm4)
      have f1 := fun i => blk_frozen d1 i
      have hcm := cnt_le L0 E k (mo L0 E k)
      have htr := trn_le L0 E k
      have hdt : dt (k + 1) = k := by unfold dt; rw [if_neg (by omega)]; omega
      rw [hdt] at y2
      have HR := Aside0.mk (And.intro d0 (And.intro d1 (And.intro dB cg)))
      clear d0 d1 dB cg hdt
      go_wp2
      all_goals obtain ⟨d0, d1, dB, cg⟩ := HR.out
      · have hne : (↑(mo L0 E k) != lst L0 E k) = true := by assumption
        have ht : trn L0 E (k + 1) = trn L0 E k + 1 := by rw [trn_succ, if_neg (by simpa using hne)]
        refine ⟨⟨k + 1, by omega, by go_num, rfl, by rw [ht]; go_num, ⟨⟨blk_far d0 (by simp) _, blk_put d1 _ _ (nArr_set _ _ _ hm4 (fun j => cnt_succ L0 E k j)), dB.setCell (p := ⟨g + 1, _, none⟩) (by simp; omega) _, cg⟩⟩⟩, by simp [intOf]; omega⟩
      · have hne : (↑(mo L0 E k) != lst L0 E k) = false := by assumption
        have ht : trn L0 E (k + 1) = trn L0 E k := by rw [trn_succ, if_pos (by simpa using hne)]; rfl
        refine ⟨⟨k + 1, by omega, by go_num, rfl, by rw [ht], ⟨⟨blk_far d0 (by simp) _, blk_put d1 _ _ (nArr_set _ _ _ hm4 (fun j => cnt_succ L0 E k j)), dB.setCell (p := ⟨g + 1, _, none⟩) (by simp; omega) _, cg⟩⟩⟩, by simp [intOf]; omega⟩
    · obtain rfl : k = 456 := by omega
      have d1 := HR.out.b1
      have n0 := (blk_cell d1 0).trans (nArr_at _ 0 (by omega))
      have n1 := (blk_cell d1 1).trans (nArr_at _ 1 (by omega))
      have n2 := (blk_cell d1 2).trans (nArr_at _ 2 (by omega))
      have n3 := (blk_cell d1 3).trans (nArr_at _ 3 (by omega))
      clear d1
      by_cases hh : 144 ≤ L0 + 1
      · rw [cnt_low L0 E hh 456] at n1
        have hl : (143 : Int) ≤ (L0 : Int) := by omega
        clear n0 n2 n3 hh
        go_wp2
        go_ret
        exact ⟨rfl, HR.out.hB⟩
      · obtain ⟨h1, h2, h3, h4, h5, h6⟩ := cnt_high L0 E hh 456
        have hE2 : E ≤ 200 ∧ ((extra < 200 ∧ E = extra) ∨ (200 ≤ extra ∧ E = 200)) := by have := HE.out; split at this <;> omega
        have e2 : cnt L0 E 456 2 = 80 := by rw [h2]; rfl
        have e3 : cnt L0 E 456 3 = 172 + E := by rw [h3]; omega
        have e0 : cnt L0 E 456 0 = 204 - E := by rw [h4]; omega
        have e5 : trn L0 E 456 = 3 := by rw [h5, if_pos (by omega), if_pos (by omega), if_pos (by omega)]
        have e6 : lst L0 E 456 = 0 := by rw [h6, if_neg (by omega), if_neg (by omega), if_neg (by omega)]
        rw [h1] at n1
        rw [e2] at n2
        rw [e3] at n3
        rw [e0] at n0
        rw [e5, e6]
        have hl : (L0 : Int) < 143 := by omega
        clear h1 h2 h3 h4 h5 h6 e2 e3 e0 e5 e6 hh
        go_wp2
        all_goals (go_ret; exact ⟨rfl, HR.out.hB⟩)
theorem lcdLines_calls (a b : Int) (W : World) (wa : (Lit.int .u8 a).wf = true) (wb : (Lit.int .u16 b).wf = true) :
    Calls Try.prog 5 #[.int .u8 a, .int .u16 b] W fun e w' => e = .returned (.bool true) ∧ Below W.heap.size W w' := by
  obtain ⟨a, ha, rfl⟩ := u8_nat wa
  obtain ⟨b, hb, rfl⟩ := u16_nat wb
  exact lines_walk a b (a % 153) _ (Nat.mod_lt _ (by decide)) rfl hb rfl W
end Go.Proofs.Ytiponhdcjccmaaa.P
