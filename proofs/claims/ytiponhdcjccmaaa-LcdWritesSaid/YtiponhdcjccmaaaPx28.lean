/- Contracts of Go functions of this seat: each Lean function here is what the Go function of its name answers, in every memory; no condition but the equations that each theorem states. Written by a program of this session (wip/given.py); Lean checks it. -/
import Derived.Test.YtiponhdcjccmaaaPx0
import Derived.Test.YtiponhdcjccmaaaPx13
namespace Go.Proofs.Ytiponhdcjccmaaa.P
open Go.RowKit Go.Proofs.YtiponhdcjccmaaaW.PrintWords Go.Proofs.YtiponhdcjccmaaaW.PrintLast Go.Proofs.YtiponhdcjccmaaaW.PrintMore
attribute [local go_sem] max2_int min2_int max_two min_two max_three min_three max_four min_four   -- for this text's walks alone
set_option linter.unusedVariables false
set_option linter.unusedSimpArgs false

/-! ### whirligigref15_Write: function 25 -/
theorem w15_at_world {P : Program} {c : Code} {Q : Exit → Act → World → Prop} {a : Act} (W : World) (F : World → Prop) (hf : F W) (h : ∀ W', F W' → c.wp P Q a W') : c.wp P Q a W := h W hf
theorem w15_at_end {P : Program} {fn : Func} {R : Ending → World → Prop} {x : Exit} {a : Act} (W : World) (F : World → Prop) (hf : F W) (h : ∀ W', F W' → bodyPost P fn R x a W') : bodyPost P fn R x a W := h W hf
theorem w15_via {w : World} {g : Nat} {t : TypeId} {cs cs' : Array Value} (h : w.heap[g]? = some (.cells cs t (0, 0))) (e : cs = cs') : w.heap[g]? = some (.cells cs' t (0, 0)) := e ▸ h
theorem w15_blk_new_at (w : World) (o : Obj) (g : Nat) (hg : w.heap.size = g) : (w.alloc o).heap[g]? = some o := hg ▸ blk_new w o
set_option maxHeartbeats 8000000 in
set_option maxRecDepth 100000 in
theorem whirligigref15_Write.pa (a0_0 : Bool) (a0_1 a0_2 a0_3 a0_4 : Int) (a0_5 : Bool) (a0_6 a1 a2 : Int) (w : World) (c1 : (a1 != 65345) = true) (c2 : (a1 != 65349) = true) :
    Calls Try.prog 25 #[.agg #[.bool a0_0, .int .u8 a0_1, .int .u16 a0_2, .int .u8 a0_3, .int .u8 a0_4, .bool a0_5, .int .u16 a0_6], .int .u16 a1, .int .u8 a2] w fun e w' => e = .returned (.tuple #[.agg #[.bool a0_0, .int .u8 a0_1, .int .u16 a0_2, .int .u8 a0_3, .int .u8 a0_4, .bool a0_5, .int .u16 a0_6], .bool false]) ∧ Below w.heap.size w w' := by
  go_enter Try.func25, Try.ntmps25
  go_wp2
  refine w15_at_end _ (fun W2 => W2.heap[w.heap.size + 1]? = some (.cells #[.bool a0_0, .int .u8 a0_1, .int .u16 a0_2, .int .u8 a0_3, .int .u8 a0_4, .bool a0_5, .int .u16 a0_6] 24 (0, 0)) ∧ Below w.heap.size w W2) ?hf2 ?hg2
  case hf2 =>
    refine ⟨?_, ?_⟩
    · (apply w15_via; (focus (repeat first | (with_reducible assumption) | (with_reducible apply blk_drew) | (with_reducible apply blk_drewN) | (focus ((with_reducible apply w15_blk_new_at); first | rfl | (simp; done))) | (with_reducible apply blk_alloc) | (focus ((with_reducible apply blk_far); rotate_left; first | omega | (dsimp only; omega))) | (with_reducible apply blk_set))); all_goals rfl)
    · (repeat first | (with_reducible assumption) | (with_reducible exact Below.refl _ _) | (with_reducible refine Below.drew ?_) | ((with_reducible refine Below.alloc ?_ ?_ _); rotate_left; first | omega | (focus (simp; done)) | (focus (simp; omega))) | ((with_reducible refine Below.setCell ?_ ?_ _); rotate_left; first | omega | (dsimp only; omega)))
  case hg2 =>
    rintro W2 ⟨r1, hB2⟩
    refine bodyPost_ret (results_ct rfl _ _ (w.heap.size + 1) 24 _ (0, 0) _ rfl r1 Try.underlying24 rfl (by kernel_rfl)) rfl ?_
    exact ⟨rfl, hB2⟩
set_option maxHeartbeats 8000000 in
set_option maxRecDepth 100000 in
theorem whirligigref15_Write.pb (k : Nat) (a0_0 : Bool) (a0_1 a0_2 a0_3 a0_4 : Int) (a0_5 : Bool) (a0_6 a1 a2 : Int) (w : World) (c1 : (a1 != 65345) = false) (c3 : (a1 == 65345) = true) (q1 q6 q8 : Bool) (q2 q3 q4 q5 q7 : Int) (H : whirligigref15_rises.f k a0_0 a0_1 a0_2 a0_3 (a2.tdiv 8 % 16 * 8) a0_5 a0_6 = some (q1, q2, q3, q4, q5, q6, q7, q8)) :
    Calls Try.prog 25 #[.agg #[.bool a0_0, .int .u8 a0_1, .int .u16 a0_2, .int .u8 a0_3, .int .u8 a0_4, .bool a0_5, .int .u16 a0_6], .int .u16 a1, .int .u8 a2] w fun e w' => e = .returned (.tuple #[.agg #[.bool q1, .int .u8 q2, .int .u16 q3, .int .u8 q4, .int .u8 q5, .bool q6, .int .u16 q7], .bool q8]) ∧ Below w.heap.size w w' := by
  have HH := Aside0.mk H
  clear H
  go_enter Try.func25, Try.ntmps25
  go_wp2_with fail
  refine (whirligigref15_rises.calls k _ _ _ _ _ _ _ _ _ _ _ _ _ _ _ _ HH.out).mono ?_
  rintro e w2 ⟨rfl, hb⟩
  have k1 : w2.heap[w.heap.size + 1]? = some (.cells #[.bool false, .int .u8 0, .int .u16 0, .int .u8 0, .int .u8 0, .bool false, .int .u16 0] 24 (0, 0)) := blk_below (by (apply w15_via; (focus (repeat first | (with_reducible assumption) | (with_reducible apply blk_drew) | (with_reducible apply blk_drewN) | (focus ((with_reducible apply w15_blk_new_at); first | rfl | (simp; done))) | (with_reducible apply blk_alloc) | (focus ((with_reducible apply blk_far); rotate_left; first | omega | (dsimp only; omega))) | (with_reducible apply blk_set))); all_goals rfl)) hb
  have kB : Below w.heap.size w w2 := below_step (by (repeat first | (with_reducible assumption) | (with_reducible exact Below.refl _ _) | (with_reducible refine Below.drew ?_) | ((with_reducible refine Below.alloc ?_ ?_ _); rotate_left; first | omega | (focus (simp; done)) | (focus (simp; omega))) | ((with_reducible refine Below.setCell ?_ ?_ _); rotate_left; first | omega | (dsimp only; omega)))) hb
  clear hb
  have y1_0 := blk_cell k1 0
  have y1_1 := blk_cell k1 1
  have y1_2 := blk_cell k1 2
  have y1_3 := blk_cell k1 3
  have y1_4 := blk_cell k1 4
  have y1_5 := blk_cell k1 5
  have y1_6 := blk_cell k1 6
  simp only [List.getElem?_toArray, List.getElem?_cons_zero, List.getElem?_cons_succ] at y1_0 y1_1 y1_2 y1_3 y1_4 y1_5 y1_6
  have u1 := fun i => blk_frozen k1 i
  have K0 := Aside0.mk (And.intro k1 kB)
  clear k1 kB
  go_wp2
  refine w15_at_end _ (fun W2 => W2.heap[w.heap.size + 1]? = some (.cells #[.bool q1, .int .u8 q2, .int .u16 q3, .int .u8 q4, .int .u8 q5, .bool q6, .int .u16 q7] 24 (0, 0)) ∧ Below w.heap.size w W2) ?hf2 ?hg2
  case hf2 =>
    clear u1 y1_0 y1_1 y1_2 y1_3 y1_4 y1_5 y1_6
    obtain ⟨k1, kB⟩ := K0.out
    refine ⟨?_, ?_⟩
    · (apply w15_via; (focus (repeat first | (with_reducible assumption) | (with_reducible apply blk_drew) | (with_reducible apply blk_drewN) | (focus ((with_reducible apply w15_blk_new_at); first | rfl | (simp; done))) | (with_reducible apply blk_alloc) | (focus ((with_reducible apply blk_far); rotate_left; first | omega | (dsimp only; omega))) | (with_reducible apply blk_set))); all_goals rfl)
    · (repeat first | (with_reducible assumption) | (with_reducible exact Below.refl _ _) | (with_reducible refine Below.drew ?_) | ((with_reducible refine Below.alloc ?_ ?_ _); rotate_left; first | omega | (focus (simp; done)) | (focus (simp; omega))) | ((with_reducible refine Below.setCell ?_ ?_ _); rotate_left; first | omega | (dsimp only; omega)))
  case hg2 =>
    rintro W2 ⟨r1, hB2⟩
    refine bodyPost_ret (results_ct rfl _ _ (w.heap.size + 1) 24 _ (0, 0) _ rfl r1 Try.underlying24 rfl (by kernel_rfl)) rfl ?_
    exact ⟨rfl, hB2⟩
set_option maxHeartbeats 8000000 in
set_option maxRecDepth 100000 in
theorem whirligigref15_Write.pc (k : Nat) (a0_0 : Bool) (a0_1 a0_2 a0_3 a0_4 : Int) (a0_5 : Bool) (a0_6 a1 a2 : Int) (w : World) (c1 : (a1 != 65345) = true) (c2 : (a1 != 65349) = false) (c3 : (a1 == 65345) = false) (q1 q6 q8 : Bool) (q2 q3 q4 q5 q7 : Int) (H : whirligigref15_rises.f k a0_0 a0_1 a0_2 a2 a0_4 a0_5 a0_6 = some (q1, q2, q3, q4, q5, q6, q7, q8)) :
    Calls Try.prog 25 #[.agg #[.bool a0_0, .int .u8 a0_1, .int .u16 a0_2, .int .u8 a0_3, .int .u8 a0_4, .bool a0_5, .int .u16 a0_6], .int .u16 a1, .int .u8 a2] w fun e w' => e = .returned (.tuple #[.agg #[.bool q1, .int .u8 q2, .int .u16 q3, .int .u8 q4, .int .u8 q5, .bool q6, .int .u16 q7], .bool q8]) ∧ Below w.heap.size w w' := by
  have HH := Aside0.mk H
  clear H
  go_enter Try.func25, Try.ntmps25
  go_wp2_with fail
  refine (whirligigref15_rises.calls k _ _ _ _ _ _ _ _ _ _ _ _ _ _ _ _ HH.out).mono ?_
  rintro e w2 ⟨rfl, hb⟩
  have k1 : w2.heap[w.heap.size + 1]? = some (.cells #[.bool false, .int .u8 0, .int .u16 0, .int .u8 0, .int .u8 0, .bool false, .int .u16 0] 24 (0, 0)) := blk_below (by (apply w15_via; (focus (repeat first | (with_reducible assumption) | (with_reducible apply blk_drew) | (with_reducible apply blk_drewN) | (focus ((with_reducible apply w15_blk_new_at); first | rfl | (simp; done))) | (with_reducible apply blk_alloc) | (focus ((with_reducible apply blk_far); rotate_left; first | omega | (dsimp only; omega))) | (with_reducible apply blk_set))); all_goals rfl)) hb
  have kB : Below w.heap.size w w2 := below_step (by (repeat first | (with_reducible assumption) | (with_reducible exact Below.refl _ _) | (with_reducible refine Below.drew ?_) | ((with_reducible refine Below.alloc ?_ ?_ _); rotate_left; first | omega | (focus (simp; done)) | (focus (simp; omega))) | ((with_reducible refine Below.setCell ?_ ?_ _); rotate_left; first | omega | (dsimp only; omega)))) hb
  clear hb
  have y1_0 := blk_cell k1 0
  have y1_1 := blk_cell k1 1
  have y1_2 := blk_cell k1 2
  have y1_3 := blk_cell k1 3
  have y1_4 := blk_cell k1 4
  have y1_5 := blk_cell k1 5
  have y1_6 := blk_cell k1 6
  simp only [List.getElem?_toArray, List.getElem?_cons_zero, List.getElem?_cons_succ] at y1_0 y1_1 y1_2 y1_3 y1_4 y1_5 y1_6
  have u1 := fun i => blk_frozen k1 i
  have K0 := Aside0.mk (And.intro k1 kB)
  clear k1 kB
  go_wp2
  refine w15_at_end _ (fun W2 => W2.heap[w.heap.size + 1]? = some (.cells #[.bool q1, .int .u8 q2, .int .u16 q3, .int .u8 q4, .int .u8 q5, .bool q6, .int .u16 q7] 24 (0, 0)) ∧ Below w.heap.size w W2) ?hf2 ?hg2
  case hf2 =>
    clear u1 y1_0 y1_1 y1_2 y1_3 y1_4 y1_5 y1_6
    obtain ⟨k1, kB⟩ := K0.out
    refine ⟨?_, ?_⟩
    · (apply w15_via; (focus (repeat first | (with_reducible assumption) | (with_reducible apply blk_drew) | (with_reducible apply blk_drewN) | (focus ((with_reducible apply w15_blk_new_at); first | rfl | (simp; done))) | (with_reducible apply blk_alloc) | (focus ((with_reducible apply blk_far); rotate_left; first | omega | (dsimp only; omega))) | (with_reducible apply blk_set))); all_goals rfl)
    · (repeat first | (with_reducible assumption) | (with_reducible exact Below.refl _ _) | (with_reducible refine Below.drew ?_) | ((with_reducible refine Below.alloc ?_ ?_ _); rotate_left; first | omega | (focus (simp; done)) | (focus (simp; omega))) | ((with_reducible refine Below.setCell ?_ ?_ _); rotate_left; first | omega | (dsimp only; omega)))
  case hg2 =>
    rintro W2 ⟨r1, hB2⟩
    refine bodyPost_ret (results_ct rfl _ _ (w.heap.size + 1) 24 _ (0, 0) _ rfl r1 Try.underlying24 rfl (by kernel_rfl)) rfl ?_
    exact ⟨rfl, hB2⟩
def whirligigref15_Write.f (k : Nat) (a0_0 : Bool) (a0_1 : Int) (a0_2 : Int) (a0_3 : Int) (a0_4 : Int) (a0_5 : Bool) (a0_6 : Int) (a1 : Int) (a2 : Int) : Option (Bool × Int × Int × Int × Int × Bool × Int × Bool) :=
  if (a1 != 65345) = true then (if (a1 != 65349) = true then some (a0_0, a0_1, a0_2, a0_3, a0_4, a0_5, a0_6, false) else whirligigref15_rises.f k a0_0 a0_1 a0_2 a2 a0_4 a0_5 a0_6)
  else whirligigref15_rises.f k a0_0 a0_1 a0_2 a0_3 (a2.tdiv 8 % 16 * 8) a0_5 a0_6
theorem whirligigref15_Write.mono : ∀ a0 a1 a2 a3 a4 a5 a6 a7 a8 k, LeO (whirligigref15_Write.f k a0 a1 a2 a3 a4 a5 a6 a7 a8) (whirligigref15_Write.f (k + 1) a0 a1 a2 a3 a4 a5 a6 a7 a8) := by
  intro a0 a1 a2 a3 a4 a5 a6 a7 a8 k
  unfold whirligigref15_Write.f
  repeat' first
      | (with_reducible exact whirligigref15_rises.mono _ _ _ _ _ _ _ _)
      | (with_reducible exact LeO.refl _)
      | (with_reducible refine LeO.ite ?_ ?_)
theorem whirligigref15_Write.calls (k : Nat) (a0_0 : Bool) (a0_1 : Int) (a0_2 : Int) (a0_3 : Int) (a0_4 : Int) (a0_5 : Bool) (a0_6 : Int) (a1 : Int) (a2 : Int) (r1 : Bool) (r2 : Int) (r3 : Int) (r4 : Int) (r5 : Int) (r6 : Bool) (r7 : Int) (r8 : Bool) (w : World) (h : whirligigref15_Write.f k a0_0 a0_1 a0_2 a0_3 a0_4 a0_5 a0_6 a1 a2 = some (r1, r2, r3, r4, r5, r6, r7, r8)) :
    Calls Try.prog 25 #[.agg #[.bool a0_0, .int .u8 a0_1, .int .u16 a0_2, .int .u8 a0_3, .int .u8 a0_4, .bool a0_5, .int .u16 a0_6], .int .u16 a1, .int .u8 a2] w fun e w' => e = .returned (.tuple #[.agg #[.bool r1, .int .u8 r2, .int .u16 r3, .int .u8 r4, .int .u8 r5, .bool r6, .int .u16 r7], .bool r8]) ∧ Below w.heap.size w w' := by
  unfold whirligigref15_Write.f at h
  by_cases c1 : (a1 != 65345) = true
  · rw [if_pos c1] at h
    have c3 : (a1 == 65345) = false := by
      cases e : (a1 == 65345) with
      | false => rfl
      | true => simp [bne, e] at c1
    by_cases c2 : (a1 != 65349) = true
    · rw [if_pos c2] at h
      simp only [Option.some.injEq, Prod.mk.injEq] at h
      obtain ⟨rfl, rfl, rfl, rfl, rfl, rfl, rfl, rfl⟩ := h
      exact whirligigref15_Write.pa a0_0 a0_1 a0_2 a0_3 a0_4 a0_5 a0_6 a1 a2 w c1 c2
    · rw [if_neg c2] at h
      exact whirligigref15_Write.pc k a0_0 a0_1 a0_2 a0_3 a0_4 a0_5 a0_6 a1 a2 w c1 (Bool.eq_false_iff.mpr c2) c3 r1 r6 r8 r2 r3 r4 r5 r7 h
  · rw [if_neg c1] at h
    have c3 : (a1 == 65345) = true := by
      cases e : (a1 == 65345) with
      | true => rfl
      | false => simp [bne, e] at c1
    exact whirligigref15_Write.pb k a0_0 a0_1 a0_2 a0_3 a0_4 a0_5 a0_6 a1 a2 w (Bool.eq_false_iff.mpr c1) c3 r1 r6 r8 r2 r3 r4 r5 r7 h

end Go.Proofs.Ytiponhdcjccmaaa.P
