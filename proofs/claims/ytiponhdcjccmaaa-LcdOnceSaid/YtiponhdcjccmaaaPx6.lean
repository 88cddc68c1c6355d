/- Contracts of Go functions of this seat: each Lean function here is what the Go function of its name answers, in every memory; no condition but the equations that each theorem states. Written by a program of this session (wip/given.py); Lean checks it. -/
import Derived.Test.YtiponhdcjccmaaaPx0
import Derived.Test.YtiponhdcjccmaaaPx5
namespace Go.Proofs.Ytiponhdcjccmaaa.P
open Go.RowKit Go.Proofs.YtiponhdcjccmaaaW.PrintWords Go.Proofs.YtiponhdcjccmaaaW.PrintLast Go.Proofs.YtiponhdcjccmaaaW.PrintMore
attribute [local go_sem] max2_int min2_int max_two min_two max_three min_three max_four min_four   -- for this text's walks alone
set_option linter.unusedVariables false
set_option linter.unusedSimpArgs false

/-! ### lcd_Step: function 12 -/
theorem at_world {P : Program} {c : Code} {Q : Exit → Act → World → Prop} {a : Act} (W : World) (F : World → Prop) (hf : F W) (h : ∀ W', F W' → c.wp P Q a W') : c.wp P Q a W := h W hf
theorem at_end {P : Program} {fn : Func} {R : Ending → World → Prop} {x : Exit} {a : Act} (W : World) (F : World → Prop) (hf : F W) (h : ∀ W', F W' → bodyPost P fn R x a W') : bodyPost P fn R x a W := h W hf
theorem via {w : World} {g : Nat} {t : TypeId} {cs cs' : Array Value} (h : w.heap[g]? = some (.cells cs t (0, 0))) (e : cs = cs') : w.heap[g]? = some (.cells cs' t (0, 0)) := e ▸ h
theorem blk_new_at (w : World) (o : Obj) (g : Nat) (hg : w.heap.size = g) : (w.alloc o).heap[g]? = some o := hg ▸ blk_new w o
def lcd_Step.tail (k : Nat) (nl nd a0_3 a0_4 : Int) (a0_5 : Bool) (ex : Int) (fr dr : Bool) : Option (Bool × Int × Int × Int × Int × Bool × Int × Bool × Bool × Bool) :=
  (lcd_heard.f k true nl nd a0_3 a0_4 a0_5 ex).bind fun q => some (q.1, q.2.1, q.2.2.1, q.2.2.2.1, q.2.2.2.2.1, q.2.2.2.2.2.1, q.2.2.2.2.2.2.1, fr, q.2.2.2.2.2.2.2, dr)
theorem lcd_Step.tail_some {k : Nat} {nl nd a0_3 a0_4 : Int} {a0_5 : Bool} {ex : Int} {fr dr : Bool} {r1 r6 r8 r9 r10 : Bool} {r2 r3 r4 r5 r7 : Int} (h : lcd_Step.tail k nl nd a0_3 a0_4 a0_5 ex fr dr = some (r1, r2, r3, r4, r5, r6, r7, r8, r9, r10)) :
    lcd_heard.f k true nl nd a0_3 a0_4 a0_5 ex = some (r1, r2, r3, r4, r5, r6, r7, r9) ∧ r8 = fr ∧ r10 = dr := by
  unfold lcd_Step.tail at h
  obtain ⟨⟨q1, q2, q3, q4, q5, q6, q7, q8⟩, hq, h⟩ := Option.bind_eq_some_iff.mp h
  simp only [Option.some.injEq, Prod.mk.injEq] at h
  obtain ⟨rfl, rfl, rfl, rfl, rfl, rfl, rfl, rfl, rfl, rfl⟩ := h
  exact ⟨hq, rfl, rfl⟩
def lcd_Step.f (k : Nat) (a0_0 : Bool) (a0_1 : Int) (a0_2 : Int) (a0_3 : Int) (a0_4 : Int) (a0_5 : Bool) (a0_6 : Int) (a1 : Int) : Option (Bool × Int × Int × Int × Int × Bool × Int × Bool × Bool × Bool) :=
  if a0_0 = true then
    (if a0_2 < 455 then
      (if a0_1 < 144 then (if ((IntKind.u16.wrap (a0_2 + 1)) == 80) = true then (if 200 < a1 then (lcd_Step.tail k a0_1 (IntKind.u16.wrap (a0_2 + 1)) a0_3 a0_4 a0_5 200 false true) else (lcd_Step.tail k a0_1 (IntKind.u16.wrap (a0_2 + 1)) a0_3 a0_4 a0_5 a1 false true)) else (lcd_Step.tail k a0_1 (IntKind.u16.wrap (a0_2 + 1)) a0_3 a0_4 a0_5 a0_6 false false))
       else (if (a0_1 == 144) = true then (lcd_Step.tail k a0_1 (IntKind.u16.wrap (a0_2 + 1)) a0_3 a0_4 a0_5 a0_6 ((IntKind.u16.wrap (a0_2 + 1)) == 0) false) else (lcd_Step.tail k a0_1 (IntKind.u16.wrap (a0_2 + 1)) a0_3 a0_4 a0_5 a0_6 false false)))
     else (if a0_1 < 153 then (if ((a0_1 + 1) % 256) < 144 then (lcd_Step.tail k ((a0_1 + 1) % 256) 0 a0_3 a0_4 a0_5 a0_6 false false) else (if (((a0_1 + 1) % 256) == 144) = true then (lcd_Step.tail k ((a0_1 + 1) % 256) 0 a0_3 a0_4 a0_5 a0_6 true false) else (lcd_Step.tail k ((a0_1 + 1) % 256) 0 a0_3 a0_4 a0_5 a0_6 false false))) else (lcd_Step.tail k 0 0 a0_3 a0_4 a0_5 a0_6 false false)))
  else some (a0_0, a0_1, a0_2, a0_3, a0_4, a0_5, a0_6, false, false, false)
theorem lcd_Step.mono : ∀ a0 a1 a2 a3 a4 a5 a6 a7 k, LeO (lcd_Step.f k a0 a1 a2 a3 a4 a5 a6 a7) (lcd_Step.f (k + 1) a0 a1 a2 a3 a4 a5 a6 a7) := by
  intro a0 a1 a2 a3 a4 a5 a6 a7 k
  unfold lcd_Step.f lcd_Step.tail
  repeat' first
      | (with_reducible exact lcd_heard.mono _ _ _ _ _ _ _ _)
      | (with_reducible exact LeO.refl _)
      | (with_reducible exact LeO.none _)
      | (with_reducible refine LeO.ite ?_ ?_)
      | (with_reducible refine LeO.bind ?_ (fun _ => ?_))
      | exact lcd_heard.mono _ _ _ _ _ _ _ _
      | exact LeO.none _
      | refine LeO.ite ?_ ?_
      | refine LeO.bind ?_ (fun _ => ?_)
set_option maxHeartbeats 8000000 in
set_option maxRecDepth 100000 in
theorem lcd_Step.pa (k : Nat) (a0_1 a0_2 a0_3 a0_4 : Int) (a0_5 : Bool) (a0_6 a1 : Int) (w : World) (c1 : a0_2 < 455) (c2 : a0_1 < 144) (c3 : ((IntKind.u16.wrap (a0_2 + 1)) == 80) = true) (c4 : 200 < a1) (q1 q6 q8 : Bool) (q2 q3 q4 q5 q7 : Int)
    (H : lcd_heard.f k true a0_1 (IntKind.u16.wrap (a0_2 + 1)) a0_3 a0_4 a0_5 200 = some (q1, q2, q3, q4, q5, q6, q7, q8)) :
    Calls Try.prog 12 #[.agg #[.bool true, .int .u8 a0_1, .int .u16 a0_2, .int .u8 a0_3, .int .u8 a0_4, .bool a0_5, .int .u16 a0_6], .int .u16 a1] w fun e w' => e = .returned (.tuple #[.agg #[.bool q1, .int .u8 q2, .int .u16 q3, .int .u8 q4, .int .u8 q5, .bool q6, .int .u16 q7], .agg #[.bool false, .bool q8, .bool true]]) ∧ Below w.heap.size w w' := by
  have HH := Aside0.mk H
  clear H
  go_enter Try.func12, Try.ntmps12
  go_wp2_with fail
  refine (lcd_heard.calls k _ _ _ _ _ _ _ _ _ _ _ _ _ _ _ _ HH.out).mono ?_
  rintro e w2 ⟨rfl, hb⟩
  have k0 : w2.heap[w.heap.size]? = some (.cells #[.bool true, .int .u8 a0_1, .int .u16 (IntKind.u16.wrap (a0_2 + 1)), .int .u8 a0_3, .int .u8 a0_4, .bool a0_5, .int .u16 200] 24 (0, 0)) := blk_below (by (apply via; (focus (repeat first | (with_reducible assumption) | (with_reducible apply blk_drew) | (with_reducible apply blk_drewN) | (focus ((with_reducible apply blk_new_at); first | rfl | (simp; done))) | (with_reducible apply blk_alloc) | (focus ((with_reducible apply blk_far); rotate_left; first | omega | (dsimp only; omega))) | (with_reducible apply blk_set))); all_goals rfl)) hb
  have k1 : w2.heap[w.heap.size + 1]? = some (.cells #[.bool false, .int .u8 0, .int .u16 0, .int .u8 0, .int .u8 0, .bool false, .int .u16 0] 24 (0, 0)) := blk_below (by (apply via; (focus (repeat first | (with_reducible assumption) | (with_reducible apply blk_drew) | (with_reducible apply blk_drewN) | (focus ((with_reducible apply blk_new_at); first | rfl | (simp; done))) | (with_reducible apply blk_alloc) | (focus ((with_reducible apply blk_far); rotate_left; first | omega | (dsimp only; omega))) | (with_reducible apply blk_set))); all_goals rfl)) hb
  have k2 : w2.heap[w.heap.size + 1 + 1]? = some (.cells #[.bool false, .bool false, .bool false] 27 (0, 0)) := blk_below (by (apply via; (focus (repeat first | (with_reducible assumption) | (with_reducible apply blk_drew) | (with_reducible apply blk_drewN) | (focus ((with_reducible apply blk_new_at); first | rfl | (simp; done))) | (with_reducible apply blk_alloc) | (focus ((with_reducible apply blk_far); rotate_left; first | omega | (dsimp only; omega))) | (with_reducible apply blk_set))); all_goals rfl)) hb
  have k3 : w2.heap[w.heap.size + 1 + 1 + 1]? = some (.cells #[.bool false, .bool false, .bool true] 27 (0, 0)) := blk_below (by (apply via; (focus (repeat first | (with_reducible assumption) | (with_reducible apply blk_drew) | (with_reducible apply blk_drewN) | (focus ((with_reducible apply blk_new_at); first | rfl | (simp; done))) | (with_reducible apply blk_alloc) | (focus ((with_reducible apply blk_far); rotate_left; first | omega | (dsimp only; omega))) | (with_reducible apply blk_set))); all_goals rfl)) hb
  have kB : Below w.heap.size w w2 := below_step (by (repeat first | (with_reducible assumption) | (with_reducible exact Below.refl _ _) | (with_reducible refine Below.drew ?_) | ((with_reducible refine Below.alloc ?_ ?_ _); rotate_left; first | omega | (focus (simp; done)) | (focus (simp; omega))) | ((with_reducible refine Below.setCell ?_ ?_ _); rotate_left; first | omega | (dsimp only; omega)))) hb
  clear hb
  have y0_0 := blk_cell k0 0
  have y0_1 := blk_cell k0 1
  have y0_2 := blk_cell k0 2
  have y0_3 := blk_cell k0 3
  have y0_4 := blk_cell k0 4
  have y0_5 := blk_cell k0 5
  have y0_6 := blk_cell k0 6
  have y3_0 := blk_cell k3 0
  have y3_1 := blk_cell k3 1
  have y3_2 := blk_cell k3 2
  simp only [List.getElem?_toArray, List.getElem?_cons_zero, List.getElem?_cons_succ] at y0_0 y0_1 y0_2 y0_3 y0_4 y0_5 y0_6 y3_0 y3_1 y3_2
  have u0 := fun i => blk_frozen k0 i
  have u3 := fun i => blk_frozen k3 i
  have K0 := Aside0.mk (And.intro k0 (And.intro k1 (And.intro k2 (And.intro k3 kB))))
  clear k0 k1 k2 k3 kB
  go_wp2
  refine at_world _ (fun W => W.heap[w.heap.size]? = some (.cells #[.bool q1, .int .u8 q2, .int .u16 q3, .int .u8 q4, .int .u8 q5, .bool q6, .int .u16 q7] 24 (0, 0)) ∧ W.heap[w.heap.size + 1]? = some (.cells #[.bool false, .int .u8 0, .int .u16 0, .int .u8 0, .int .u8 0, .bool false, .int .u16 0] 24 (0, 0)) ∧ W.heap[w.heap.size + 1 + 1]? = some (.cells #[.bool false, .bool false, .bool false] 27 (0, 0)) ∧ W.heap[w.heap.size + 1 + 1 + 1]? = some (.cells #[.bool false, .bool q8, .bool true] 27 (0, 0)) ∧ Below w.heap.size w W) ?hfacts ?hgo
  case hfacts =>
    clear y0_0 y0_1 y0_2 y0_3 y0_4 y0_5 y0_6 y3_0 y3_1 y3_2 u0 u3
    obtain ⟨k0, k1, k2, k3, kB⟩ := K0.out
    refine ⟨?_, ?_, ?_, ?_, ?_⟩
    · (apply via; (focus (repeat first | (with_reducible assumption) | (with_reducible apply blk_drew) | (with_reducible apply blk_drewN) | (focus ((with_reducible apply blk_new_at); first | rfl | (simp; done))) | (with_reducible apply blk_alloc) | (focus ((with_reducible apply blk_far); rotate_left; first | omega | (dsimp only; omega))) | (with_reducible apply blk_set))); all_goals rfl)
    · (apply via; (focus (repeat first | (with_reducible assumption) | (with_reducible apply blk_drew) | (with_reducible apply blk_drewN) | (focus ((with_reducible apply blk_new_at); first | rfl | (simp; done))) | (with_reducible apply blk_alloc) | (focus ((with_reducible apply blk_far); rotate_left; first | omega | (dsimp only; omega))) | (with_reducible apply blk_set))); all_goals rfl)
    · (apply via; (focus (repeat first | (with_reducible assumption) | (with_reducible apply blk_drew) | (with_reducible apply blk_drewN) | (focus ((with_reducible apply blk_new_at); first | rfl | (simp; done))) | (with_reducible apply blk_alloc) | (focus ((with_reducible apply blk_far); rotate_left; first | omega | (dsimp only; omega))) | (with_reducible apply blk_set))); all_goals rfl)
    · (apply via; (focus (repeat first | (with_reducible assumption) | (with_reducible apply blk_drew) | (with_reducible apply blk_drewN) | (focus ((with_reducible apply blk_new_at); first | rfl | (simp; done))) | (with_reducible apply blk_alloc) | (focus ((with_reducible apply blk_far); rotate_left; first | omega | (dsimp only; omega))) | (with_reducible apply blk_set))); all_goals rfl)
    · (repeat first | (with_reducible assumption) | (with_reducible exact Below.refl _ _) | (with_reducible refine Below.drew ?_) | ((with_reducible refine Below.alloc ?_ ?_ _); rotate_left; first | omega | (focus (simp; done)) | (focus (simp; omega))) | ((with_reducible refine Below.setCell ?_ ?_ _); rotate_left; first | omega | (dsimp only; omega)))
  case hgo =>
    rintro W ⟨b0, b1, b2, b3, hB⟩
    have c0_0 := blk_cell b0 0
    have c0_1 := blk_cell b0 1
    have c0_2 := blk_cell b0 2
    have c0_3 := blk_cell b0 3
    have c0_4 := blk_cell b0 4
    have c0_5 := blk_cell b0 5
    have c0_6 := blk_cell b0 6
    have c1_0 := blk_cell b1 0
    have c1_1 := blk_cell b1 1
    have c1_2 := blk_cell b1 2
    have c1_3 := blk_cell b1 3
    have c1_4 := blk_cell b1 4
    have c1_5 := blk_cell b1 5
    have c1_6 := blk_cell b1 6
    have c2_0 := blk_cell b2 0
    have c2_1 := blk_cell b2 1
    have c2_2 := blk_cell b2 2
    have c3_0 := blk_cell b3 0
    have c3_1 := blk_cell b3 1
    have c3_2 := blk_cell b3 2
    simp only [List.getElem?_toArray, List.getElem?_cons_zero, List.getElem?_cons_succ] at c0_0 c0_1 c0_2 c0_3 c0_4 c0_5 c0_6 c1_0 c1_1 c1_2 c1_3 c1_4 c1_5 c1_6 c2_0 c2_1 c2_2 c3_0 c3_1 c3_2
    have f1 := fun i => blk_frozen b1 i
    have f2 := fun i => blk_frozen b2 i
    have B0 := Aside0.mk (And.intro b0 (And.intro b1 (And.intro b2 b3)))
    clear b0 b1 b2 b3 y0_0 y0_1 y0_2 y0_3 y0_4 y0_5 y0_6 y3_0 y3_1 y3_2 u0 u3
    go_region
    all_goals go_wp2
    refine at_end _ (fun W2 => W2.heap[w.heap.size + 1]? = some (.cells #[.bool q1, .int .u8 q2, .int .u16 q3, .int .u8 q4, .int .u8 q5, .bool q6, .int .u16 q7] 24 (0, 0)) ∧ W2.heap[w.heap.size + 1 + 1]? = some (.cells #[.bool false, .bool q8, .bool true] 27 (0, 0)) ∧ Below w.heap.size w W2) ?hf2 ?hg2
    case hf2 =>
      clear c0_0 c0_1 c0_2 c0_3 c0_4 c0_5 c0_6 c1_0 c1_1 c1_2 c1_3 c1_4 c1_5 c1_6 c2_0 c2_1 c2_2 c3_0 c3_1 c3_2 f1 f2
      obtain ⟨b0, b1, b2, b3⟩ := B0.out
      refine ⟨?_, ?_, ?_⟩
      · (apply via; (focus (repeat first | (with_reducible assumption) | (with_reducible apply blk_drew) | (with_reducible apply blk_drewN) | (focus ((with_reducible apply blk_new_at); first | rfl | (simp; done))) | (with_reducible apply blk_alloc) | (focus ((with_reducible apply blk_far); rotate_left; first | omega | (dsimp only; omega))) | (with_reducible apply blk_set))); all_goals rfl)
      · (apply via; (focus (repeat first | (with_reducible assumption) | (with_reducible apply blk_drew) | (with_reducible apply blk_drewN) | (focus ((with_reducible apply blk_new_at); first | rfl | (simp; done))) | (with_reducible apply blk_alloc) | (focus ((with_reducible apply blk_far); rotate_left; first | omega | (dsimp only; omega))) | (with_reducible apply blk_set))); all_goals rfl)
      · (repeat first | (with_reducible assumption) | (with_reducible exact Below.refl _ _) | (with_reducible refine Below.drew ?_) | ((with_reducible refine Below.alloc ?_ ?_ _); rotate_left; first | omega | (focus (simp; done)) | (focus (simp; omega))) | ((with_reducible refine Below.setCell ?_ ?_ _); rotate_left; first | omega | (dsimp only; omega)))
    case hg2 =>
      rintro W2 ⟨r1, r2, hB2⟩
      refine bodyPost_ret (results_cc rfl _ _ (w.heap.size + 1) (w.heap.size + 1 + 1) 24 27 _ _ (0, 0) (0, 0) _ _ rfl r1 Try.underlying24 rfl (by kernel_rfl) rfl r2 Try.underlying27 rfl (by kernel_rfl)) rfl ?_
      exact ⟨rfl, hB2⟩
set_option maxHeartbeats 8000000 in
set_option maxRecDepth 100000 in
theorem lcd_Step.pb (k : Nat) (a0_1 a0_2 a0_3 a0_4 : Int) (a0_5 : Bool) (a0_6 a1 : Int) (w : World) (c1 : a0_2 < 455) (c2 : a0_1 < 144) (c3 : ((IntKind.u16.wrap (a0_2 + 1)) == 80) = true) (c4 : ¬ 200 < a1) (q1 q6 q8 : Bool) (q2 q3 q4 q5 q7 : Int)
    (H : lcd_heard.f k true a0_1 (IntKind.u16.wrap (a0_2 + 1)) a0_3 a0_4 a0_5 a1 = some (q1, q2, q3, q4, q5, q6, q7, q8)) :
    Calls Try.prog 12 #[.agg #[.bool true, .int .u8 a0_1, .int .u16 a0_2, .int .u8 a0_3, .int .u8 a0_4, .bool a0_5, .int .u16 a0_6], .int .u16 a1] w fun e w' => e = .returned (.tuple #[.agg #[.bool q1, .int .u8 q2, .int .u16 q3, .int .u8 q4, .int .u8 q5, .bool q6, .int .u16 q7], .agg #[.bool false, .bool q8, .bool true]]) ∧ Below w.heap.size w w' := by
  have HH := Aside0.mk H
  clear H
  go_enter Try.func12, Try.ntmps12
  go_wp2_with fail
  refine (lcd_heard.calls k _ _ _ _ _ _ _ _ _ _ _ _ _ _ _ _ HH.out).mono ?_
  rintro e w2 ⟨rfl, hb⟩
  have k0 : w2.heap[w.heap.size]? = some (.cells #[.bool true, .int .u8 a0_1, .int .u16 (IntKind.u16.wrap (a0_2 + 1)), .int .u8 a0_3, .int .u8 a0_4, .bool a0_5, .int .u16 a1] 24 (0, 0)) := blk_below (by (apply via; (focus (repeat first | (with_reducible assumption) | (with_reducible apply blk_drew) | (with_reducible apply blk_drewN) | (focus ((with_reducible apply blk_new_at); first | rfl | (simp; done))) | (with_reducible apply blk_alloc) | (focus ((with_reducible apply blk_far); rotate_left; first | omega | (dsimp only; omega))) | (with_reducible apply blk_set))); all_goals rfl)) hb
  have k1 : w2.heap[w.heap.size + 1]? = some (.cells #[.bool false, .int .u8 0, .int .u16 0, .int .u8 0, .int .u8 0, .bool false, .int .u16 0] 24 (0, 0)) := blk_below (by (apply via; (focus (repeat first | (with_reducible assumption) | (with_reducible apply blk_drew) | (with_reducible apply blk_drewN) | (focus ((with_reducible apply blk_new_at); first | rfl | (simp; done))) | (with_reducible apply blk_alloc) | (focus ((with_reducible apply blk_far); rotate_left; first | omega | (dsimp only; omega))) | (with_reducible apply blk_set))); all_goals rfl)) hb
  have k2 : w2.heap[w.heap.size + 1 + 1]? = some (.cells #[.bool false, .bool false, .bool false] 27 (0, 0)) := blk_below (by (apply via; (focus (repeat first | (with_reducible assumption) | (with_reducible apply blk_drew) | (with_reducible apply blk_drewN) | (focus ((with_reducible apply blk_new_at); first | rfl | (simp; done))) | (with_reducible apply blk_alloc) | (focus ((with_reducible apply blk_far); rotate_left; first | omega | (dsimp only; omega))) | (with_reducible apply blk_set))); all_goals rfl)) hb
  have k3 : w2.heap[w.heap.size + 1 + 1 + 1]? = some (.cells #[.bool false, .bool false, .bool true] 27 (0, 0)) := blk_below (by (apply via; (focus (repeat first | (with_reducible assumption) | (with_reducible apply blk_drew) | (with_reducible apply blk_drewN) | (focus ((with_reducible apply blk_new_at); first | rfl | (simp; done))) | (with_reducible apply blk_alloc) | (focus ((with_reducible apply blk_far); rotate_left; first | omega | (dsimp only; omega))) | (with_reducible apply blk_set))); all_goals rfl)) hb
  have kB : Below w.heap.size w w2 := below_step (by (repeat first | (with_reducible assumption) | (with_reducible exact Below.refl _ _) | (with_reducible refine Below.drew ?_) | ((with_reducible refine Below.alloc ?_ ?_ _); rotate_left; first | omega | (focus (simp; done)) | (focus (simp; omega))) | ((with_reducible refine Below.setCell ?_ ?_ _); rotate_left; first | omega | (dsimp only; omega)))) hb
  clear hb
  have y0_0 := blk_cell k0 0
  have y0_1 := blk_cell k0 1
  have y0_2 := blk_cell k0 2
  have y0_3 := blk_cell k0 3
  have y0_4 := blk_cell k0 4
  have y0_5 := blk_cell k0 5
  have y0_6 := blk_cell k0 6
  have y3_0 := blk_cell k3 0
  have y3_1 := blk_cell k3 1
  have y3_2 := blk_cell k3 2
  simp only [List.getElem?_toArray, List.getElem?_cons_zero, List.getElem?_cons_succ] at y0_0 y0_1 y0_2 y0_3 y0_4 y0_5 y0_6 y3_0 y3_1 y3_2
  have u0 := fun i => blk_frozen k0 i
  have u3 := fun i => blk_frozen k3 i
  have K0 := Aside0.mk (And.intro k0 (And.intro k1 (And.intro k2 (And.intro k3 kB))))
  clear k0 k1 k2 k3 kB
  go_wp2
  refine at_world _ (fun W => W.heap[w.heap.size]? = some (.cells #[.bool q1, .int .u8 q2, .int .u16 q3, .int .u8 q4, .int .u8 q5, .bool q6, .int .u16 q7] 24 (0, 0)) ∧ W.heap[w.heap.size + 1]? = some (.cells #[.bool false, .int .u8 0, .int .u16 0, .int .u8 0, .int .u8 0, .bool false, .int .u16 0] 24 (0, 0)) ∧ W.heap[w.heap.size + 1 + 1]? = some (.cells #[.bool false, .bool false, .bool false] 27 (0, 0)) ∧ W.heap[w.heap.size + 1 + 1 + 1]? = some (.cells #[.bool false, .bool q8, .bool true] 27 (0, 0)) ∧ Below w.heap.size w W) ?hfacts ?hgo
  case hfacts =>
    clear y0_0 y0_1 y0_2 y0_3 y0_4 y0_5 y0_6 y3_0 y3_1 y3_2 u0 u3
    obtain ⟨k0, k1, k2, k3, kB⟩ := K0.out
    refine ⟨?_, ?_, ?_, ?_, ?_⟩
    · (apply via; (focus (repeat first | (with_reducible assumption) | (with_reducible apply blk_drew) | (with_reducible apply blk_drewN) | (focus ((with_reducible apply blk_new_at); first | rfl | (simp; done))) | (with_reducible apply blk_alloc) | (focus ((with_reducible apply blk_far); rotate_left; first | omega | (dsimp only; omega))) | (with_reducible apply blk_set))); all_goals rfl)
    · (apply via; (focus (repeat first | (with_reducible assumption) | (with_reducible apply blk_drew) | (with_reducible apply blk_drewN) | (focus ((with_reducible apply blk_new_at); first | rfl | (simp; done))) | (with_reducible apply blk_alloc) | (focus ((with_reducible apply blk_far); rotate_left; first | omega | (dsimp only; omega))) | (with_reducible apply blk_set))); all_goals rfl)
    · (apply via; (focus (repeat first | (with_reducible assumption) | (with_reducible apply blk_drew) | (with_reducible apply blk_drewN) | (focus ((with_reducible apply blk_new_at); first | rfl | (simp; done))) | (with_reducible apply blk_alloc) | (focus ((with_reducible apply blk_far); rotate_left; first | omega | (dsimp only; omega))) | (with_reducible apply blk_set))); all_goals rfl)
    · (apply via; (focus (repeat first | (with_reducible assumption) | (with_reducible apply blk_drew) | (with_reducible apply blk_drewN) | (focus ((with_reducible apply blk_new_at); first | rfl | (simp; done))) | (with_reducible apply blk_alloc) | (focus ((with_reducible apply blk_far); rotate_left; first | omega | (dsimp only; omega))) | (with_reducible apply blk_set))); all_goals rfl)
    · (repeat first | (with_reducible assumption) | (with_reducible exact Below.refl _ _) | (with_reducible refine Below.drew ?_) | ((with_reducible refine Below.alloc ?_ ?_ _); rotate_left; first | omega | (focus (simp; done)) | (focus (simp; omega))) | ((with_reducible refine Below.setCell ?_ ?_ _); rotate_left; first | omega | (dsimp only; omega)))
  case hgo =>
    rintro W ⟨b0, b1, b2, b3, hB⟩
    have c0_0 := blk_cell b0 0
    have c0_1 := blk_cell b0 1
    have c0_2 := blk_cell b0 2
    have c0_3 := blk_cell b0 3
    have c0_4 := blk_cell b0 4
    have c0_5 := blk_cell b0 5
    have c0_6 := blk_cell b0 6
    have c1_0 := blk_cell b1 0
    have c1_1 := blk_cell b1 1
    have c1_2 := blk_cell b1 2
    have c1_3 := blk_cell b1 3
    have c1_4 := blk_cell b1 4
    have c1_5 := blk_cell b1 5
    have c1_6 := blk_cell b1 6
    have c2_0 := blk_cell b2 0
    have c2_1 := blk_cell b2 1
    have c2_2 := blk_cell b2 2
    have c3_0 := blk_cell b3 0
    have c3_1 := blk_cell b3 1
    have c3_2 := blk_cell b3 2
    simp only [List.getElem?_toArray, List.getElem?_cons_zero, List.getElem?_cons_succ] at c0_0 c0_1 c0_2 c0_3 c0_4 c0_5 c0_6 c1_0 c1_1 c1_2 c1_3 c1_4 c1_5 c1_6 c2_0 c2_1 c2_2 c3_0 c3_1 c3_2
    have f1 := fun i => blk_frozen b1 i
    have f2 := fun i => blk_frozen b2 i
    have B0 := Aside0.mk (And.intro b0 (And.intro b1 (And.intro b2 b3)))
    clear b0 b1 b2 b3 y0_0 y0_1 y0_2 y0_3 y0_4 y0_5 y0_6 y3_0 y3_1 y3_2 u0 u3
    go_region
    all_goals go_wp2
    refine at_end _ (fun W2 => W2.heap[w.heap.size + 1]? = some (.cells #[.bool q1, .int .u8 q2, .int .u16 q3, .int .u8 q4, .int .u8 q5, .bool q6, .int .u16 q7] 24 (0, 0)) ∧ W2.heap[w.heap.size + 1 + 1]? = some (.cells #[.bool false, .bool q8, .bool true] 27 (0, 0)) ∧ Below w.heap.size w W2) ?hf2 ?hg2
    case hf2 =>
      clear c0_0 c0_1 c0_2 c0_3 c0_4 c0_5 c0_6 c1_0 c1_1 c1_2 c1_3 c1_4 c1_5 c1_6 c2_0 c2_1 c2_2 c3_0 c3_1 c3_2 f1 f2
      obtain ⟨b0, b1, b2, b3⟩ := B0.out
      refine ⟨?_, ?_, ?_⟩
      · (apply via; (focus (repeat first | (with_reducible assumption) | (with_reducible apply blk_drew) | (with_reducible apply blk_drewN) | (focus ((with_reducible apply blk_new_at); first | rfl | (simp; done))) | (with_reducible apply blk_alloc) | (focus ((with_reducible apply blk_far); rotate_left; first | omega | (dsimp only; omega))) | (with_reducible apply blk_set))); all_goals rfl)
      · (apply via; (focus (repeat first | (with_reducible assumption) | (with_reducible apply blk_drew) | (with_reducible apply blk_drewN) | (focus ((with_reducible apply blk_new_at); first | rfl | (simp; done))) | (with_reducible apply blk_alloc) | (focus ((with_reducible apply blk_far); rotate_left; first | omega | (dsimp only; omega))) | (with_reducible apply blk_set))); all_goals rfl)
      · (repeat first | (with_reducible assumption) | (with_reducible exact Below.refl _ _) | (with_reducible refine Below.drew ?_) | ((with_reducible refine Below.alloc ?_ ?_ _); rotate_left; first | omega | (focus (simp; done)) | (focus (simp; omega))) | ((with_reducible refine Below.setCell ?_ ?_ _); rotate_left; first | omega | (dsimp only; omega)))
    case hg2 =>
      rintro W2 ⟨r1, r2, hB2⟩
      refine bodyPost_ret (results_cc rfl _ _ (w.heap.size + 1) (w.heap.size + 1 + 1) 24 27 _ _ (0, 0) (0, 0) _ _ rfl r1 Try.underlying24 rfl (by kernel_rfl) rfl r2 Try.underlying27 rfl (by kernel_rfl)) rfl ?_
      exact ⟨rfl, hB2⟩
set_option maxHeartbeats 8000000 in
set_option maxRecDepth 100000 in
theorem lcd_Step.pc (k : Nat) (a0_1 a0_2 a0_3 a0_4 : Int) (a0_5 : Bool) (a0_6 a1 : Int) (w : World) (c1 : a0_2 < 455) (c2 : a0_1 < 144) (c3 : ((IntKind.u16.wrap (a0_2 + 1)) == 80) = false) (q1 q6 q8 : Bool) (q2 q3 q4 q5 q7 : Int)
    (H : lcd_heard.f k true a0_1 (IntKind.u16.wrap (a0_2 + 1)) a0_3 a0_4 a0_5 a0_6 = some (q1, q2, q3, q4, q5, q6, q7, q8)) :
    Calls Try.prog 12 #[.agg #[.bool true, .int .u8 a0_1, .int .u16 a0_2, .int .u8 a0_3, .int .u8 a0_4, .bool a0_5, .int .u16 a0_6], .int .u16 a1] w fun e w' => e = .returned (.tuple #[.agg #[.bool q1, .int .u8 q2, .int .u16 q3, .int .u8 q4, .int .u8 q5, .bool q6, .int .u16 q7], .agg #[.bool false, .bool q8, .bool false]]) ∧ Below w.heap.size w w' := by
  have HH := Aside0.mk H
  clear H
  go_enter Try.func12, Try.ntmps12
  go_wp2_with fail
  refine (lcd_heard.calls k _ _ _ _ _ _ _ _ _ _ _ _ _ _ _ _ HH.out).mono ?_
  rintro e w2 ⟨rfl, hb⟩
  have k0 : w2.heap[w.heap.size]? = some (.cells #[.bool true, .int .u8 a0_1, .int .u16 (IntKind.u16.wrap (a0_2 + 1)), .int .u8 a0_3, .int .u8 a0_4, .bool a0_5, .int .u16 a0_6] 24 (0, 0)) := blk_below (by (apply via; (focus (repeat first | (with_reducible assumption) | (with_reducible apply blk_drew) | (with_reducible apply blk_drewN) | (focus ((with_reducible apply blk_new_at); first | rfl | (simp; done))) | (with_reducible apply blk_alloc) | (focus ((with_reducible apply blk_far); rotate_left; first | omega | (dsimp only; omega))) | (with_reducible apply blk_set))); all_goals rfl)) hb
  have k1 : w2.heap[w.heap.size + 1]? = some (.cells #[.bool false, .int .u8 0, .int .u16 0, .int .u8 0, .int .u8 0, .bool false, .int .u16 0] 24 (0, 0)) := blk_below (by (apply via; (focus (repeat first | (with_reducible assumption) | (with_reducible apply blk_drew) | (with_reducible apply blk_drewN) | (focus ((with_reducible apply blk_new_at); first | rfl | (simp; done))) | (with_reducible apply blk_alloc) | (focus ((with_reducible apply blk_far); rotate_left; first | omega | (dsimp only; omega))) | (with_reducible apply blk_set))); all_goals rfl)) hb
  have k2 : w2.heap[w.heap.size + 1 + 1]? = some (.cells #[.bool false, .bool false, .bool false] 27 (0, 0)) := blk_below (by (apply via; (focus (repeat first | (with_reducible assumption) | (with_reducible apply blk_drew) | (with_reducible apply blk_drewN) | (focus ((with_reducible apply blk_new_at); first | rfl | (simp; done))) | (with_reducible apply blk_alloc) | (focus ((with_reducible apply blk_far); rotate_left; first | omega | (dsimp only; omega))) | (with_reducible apply blk_set))); all_goals rfl)) hb
  have k3 : w2.heap[w.heap.size + 1 + 1 + 1]? = some (.cells #[.bool false, .bool false, .bool false] 27 (0, 0)) := blk_below (by (apply via; (focus (repeat first | (with_reducible assumption) | (with_reducible apply blk_drew) | (with_reducible apply blk_drewN) | (focus ((with_reducible apply blk_new_at); first | rfl | (simp; done))) | (with_reducible apply blk_alloc) | (focus ((with_reducible apply blk_far); rotate_left; first | omega | (dsimp only; omega))) | (with_reducible apply blk_set))); all_goals rfl)) hb
  have kB : Below w.heap.size w w2 := below_step (by (repeat first | (with_reducible assumption) | (with_reducible exact Below.refl _ _) | (with_reducible refine Below.drew ?_) | ((with_reducible refine Below.alloc ?_ ?_ _); rotate_left; first | omega | (focus (simp; done)) | (focus (simp; omega))) | ((with_reducible refine Below.setCell ?_ ?_ _); rotate_left; first | omega | (dsimp only; omega)))) hb
  clear hb
  have y0_0 := blk_cell k0 0
  have y0_1 := blk_cell k0 1
  have y0_2 := blk_cell k0 2
  have y0_3 := blk_cell k0 3
  have y0_4 := blk_cell k0 4
  have y0_5 := blk_cell k0 5
  have y0_6 := blk_cell k0 6
  have y3_0 := blk_cell k3 0
  have y3_1 := blk_cell k3 1
  have y3_2 := blk_cell k3 2
  simp only [List.getElem?_toArray, List.getElem?_cons_zero, List.getElem?_cons_succ] at y0_0 y0_1 y0_2 y0_3 y0_4 y0_5 y0_6 y3_0 y3_1 y3_2
  have u0 := fun i => blk_frozen k0 i
  have u3 := fun i => blk_frozen k3 i
  have K0 := Aside0.mk (And.intro k0 (And.intro k1 (And.intro k2 (And.intro k3 kB))))
  clear k0 k1 k2 k3 kB
  go_wp2
  refine at_world _ (fun W => W.heap[w.heap.size]? = some (.cells #[.bool q1, .int .u8 q2, .int .u16 q3, .int .u8 q4, .int .u8 q5, .bool q6, .int .u16 q7] 24 (0, 0)) ∧ W.heap[w.heap.size + 1]? = some (.cells #[.bool false, .int .u8 0, .int .u16 0, .int .u8 0, .int .u8 0, .bool false, .int .u16 0] 24 (0, 0)) ∧ W.heap[w.heap.size + 1 + 1]? = some (.cells #[.bool false, .bool false, .bool false] 27 (0, 0)) ∧ W.heap[w.heap.size + 1 + 1 + 1]? = some (.cells #[.bool false, .bool q8, .bool false] 27 (0, 0)) ∧ Below w.heap.size w W) ?hfacts ?hgo
  case hfacts =>
    clear y0_0 y0_1 y0_2 y0_3 y0_4 y0_5 y0_6 y3_0 y3_1 y3_2 u0 u3
    obtain ⟨k0, k1, k2, k3, kB⟩ := K0.out
    refine ⟨?_, ?_, ?_, ?_, ?_⟩
    · (apply via; (focus (repeat first | (with_reducible assumption) | (with_reducible apply blk_drew) | (with_reducible apply blk_drewN) | (focus ((with_reducible apply blk_new_at); first | rfl | (simp; done))) | (with_reducible apply blk_alloc) | (focus ((with_reducible apply blk_far); rotate_left; first | omega | (dsimp only; omega))) | (with_reducible apply blk_set))); all_goals rfl)
    · (apply via; (focus (repeat first | (with_reducible assumption) | (with_reducible apply blk_drew) | (with_reducible apply blk_drewN) | (focus ((with_reducible apply blk_new_at); first | rfl | (simp; done))) | (with_reducible apply blk_alloc) | (focus ((with_reducible apply blk_far); rotate_left; first | omega | (dsimp only; omega))) | (with_reducible apply blk_set))); all_goals rfl)
    · (apply via; (focus (repeat first | (with_reducible assumption) | (with_reducible apply blk_drew) | (with_reducible apply blk_drewN) | (focus ((with_reducible apply blk_new_at); first | rfl | (simp; done))) | (with_reducible apply blk_alloc) | (focus ((with_reducible apply blk_far); rotate_left; first | omega | (dsimp only; omega))) | (with_reducible apply blk_set))); all_goals rfl)
    · (apply via; (focus (repeat first | (with_reducible assumption) | (with_reducible apply blk_drew) | (with_reducible apply blk_drewN) | (focus ((with_reducible apply blk_new_at); first | rfl | (simp; done))) | (with_reducible apply blk_alloc) | (focus ((with_reducible apply blk_far); rotate_left; first | omega | (dsimp only; omega))) | (with_reducible apply blk_set))); all_goals rfl)
    · (repeat first | (with_reducible assumption) | (with_reducible exact Below.refl _ _) | (with_reducible refine Below.drew ?_) | ((with_reducible refine Below.alloc ?_ ?_ _); rotate_left; first | omega | (focus (simp; done)) | (focus (simp; omega))) | ((with_reducible refine Below.setCell ?_ ?_ _); rotate_left; first | omega | (dsimp only; omega)))
  case hgo =>
    rintro W ⟨b0, b1, b2, b3, hB⟩
    have c0_0 := blk_cell b0 0
    have c0_1 := blk_cell b0 1
    have c0_2 := blk_cell b0 2
    have c0_3 := blk_cell b0 3
    have c0_4 := blk_cell b0 4
    have c0_5 := blk_cell b0 5
    have c0_6 := blk_cell b0 6
    have c1_0 := blk_cell b1 0
    have c1_1 := blk_cell b1 1
    have c1_2 := blk_cell b1 2
    have c1_3 := blk_cell b1 3
    have c1_4 := blk_cell b1 4
    have c1_5 := blk_cell b1 5
    have c1_6 := blk_cell b1 6
    have c2_0 := blk_cell b2 0
    have c2_1 := blk_cell b2 1
    have c2_2 := blk_cell b2 2
    have c3_0 := blk_cell b3 0
    have c3_1 := blk_cell b3 1
    have c3_2 := blk_cell b3 2
    simp only [List.getElem?_toArray, List.getElem?_cons_zero, List.getElem?_cons_succ] at c0_0 c0_1 c0_2 c0_3 c0_4 c0_5 c0_6 c1_0 c1_1 c1_2 c1_3 c1_4 c1_5 c1_6 c2_0 c2_1 c2_2 c3_0 c3_1 c3_2
    have f1 := fun i => blk_frozen b1 i
    have f2 := fun i => blk_frozen b2 i
    have B0 := Aside0.mk (And.intro b0 (And.intro b1 (And.intro b2 b3)))
    clear b0 b1 b2 b3 y0_0 y0_1 y0_2 y0_3 y0_4 y0_5 y0_6 y3_0 y3_1 y3_2 u0 u3
    go_region
    all_goals go_wp2
    refine at_end _ (fun W2 => W2.heap[w.heap.size + 1]? = some (.cells #[.bool q1, .int .u8 q2, .int .u16 q3, .int .u8 q4, .int .u8 q5, .bool q6, .int .u16 q7] 24 (0, 0)) ∧ W2.heap[w.heap.size + 1 + 1]? = some (.cells #[.bool false, .bool q8, .bool false] 27 (0, 0)) ∧ Below w.heap.size w W2) ?hf2 ?hg2
    case hf2 =>
      clear c0_0 c0_1 c0_2 c0_3 c0_4 c0_5 c0_6 c1_0 c1_1 c1_2 c1_3 c1_4 c1_5 c1_6 c2_0 c2_1 c2_2 c3_0 c3_1 c3_2 f1 f2
      obtain ⟨b0, b1, b2, b3⟩ := B0.out
      refine ⟨?_, ?_, ?_⟩
      · (apply via; (focus (repeat first | (with_reducible assumption) | (with_reducible apply blk_drew) | (with_reducible apply blk_drewN) | (focus ((with_reducible apply blk_new_at); first | rfl | (simp; done))) | (with_reducible apply blk_alloc) | (focus ((with_reducible apply blk_far); rotate_left; first | omega | (dsimp only; omega))) | (with_reducible apply blk_set))); all_goals rfl)
      · (apply via; (focus (repeat first | (with_reducible assumption) | (with_reducible apply blk_drew) | (with_reducible apply blk_drewN) | (focus ((with_reducible apply blk_new_at); first | rfl | (simp; done))) | (with_reducible apply blk_alloc) | (focus ((with_reducible apply blk_far); rotate_left; first | omega | (dsimp only; omega))) | (with_reducible apply blk_set))); all_goals rfl)
      · (repeat first | (with_reducible assumption) | (with_reducible exact Below.refl _ _) | (with_reducible refine Below.drew ?_) | ((with_reducible refine Below.alloc ?_ ?_ _); rotate_left; first | omega | (focus (simp; done)) | (focus (simp; omega))) | ((with_reducible refine Below.setCell ?_ ?_ _); rotate_left; first | omega | (dsimp only; omega)))
    case hg2 =>
      rintro W2 ⟨r1, r2, hB2⟩
      refine bodyPost_ret (results_cc rfl _ _ (w.heap.size + 1) (w.heap.size + 1 + 1) 24 27 _ _ (0, 0) (0, 0) _ _ rfl r1 Try.underlying24 rfl (by kernel_rfl) rfl r2 Try.underlying27 rfl (by kernel_rfl)) rfl ?_
      exact ⟨rfl, hB2⟩
set_option maxHeartbeats 8000000 in
set_option maxRecDepth 100000 in
theorem lcd_Step.pd (k : Nat) (a0_1 a0_2 a0_3 a0_4 : Int) (a0_5 : Bool) (a0_6 a1 : Int) (w : World) (c1 : a0_2 < 455) (c2 : ¬ a0_1 < 144) (c3 : (a0_1 == 144) = true) (q1 q6 q8 : Bool) (q2 q3 q4 q5 q7 : Int)
    (H : lcd_heard.f k true a0_1 (IntKind.u16.wrap (a0_2 + 1)) a0_3 a0_4 a0_5 a0_6 = some (q1, q2, q3, q4, q5, q6, q7, q8)) :
    Calls Try.prog 12 #[.agg #[.bool true, .int .u8 a0_1, .int .u16 a0_2, .int .u8 a0_3, .int .u8 a0_4, .bool a0_5, .int .u16 a0_6], .int .u16 a1] w fun e w' => e = .returned (.tuple #[.agg #[.bool q1, .int .u8 q2, .int .u16 q3, .int .u8 q4, .int .u8 q5, .bool q6, .int .u16 q7], .agg #[.bool ((IntKind.u16.wrap (a0_2 + 1)) == 0), .bool q8, .bool false]]) ∧ Below w.heap.size w w' := by
  have HH := Aside0.mk H
  clear H
  go_enter Try.func12, Try.ntmps12
  go_wp2_with fail
  refine (lcd_heard.calls k _ _ _ _ _ _ _ _ _ _ _ _ _ _ _ _ HH.out).mono ?_
  rintro e w2 ⟨rfl, hb⟩
  have k0 : w2.heap[w.heap.size]? = some (.cells #[.bool true, .int .u8 a0_1, .int .u16 (IntKind.u16.wrap (a0_2 + 1)), .int .u8 a0_3, .int .u8 a0_4, .bool a0_5, .int .u16 a0_6] 24 (0, 0)) := blk_below (by (apply via; (focus (repeat first | (with_reducible assumption) | (with_reducible apply blk_drew) | (with_reducible apply blk_drewN) | (focus ((with_reducible apply blk_new_at); first | rfl | (simp; done))) | (with_reducible apply blk_alloc) | (focus ((with_reducible apply blk_far); rotate_left; first | omega | (dsimp only; omega))) | (with_reducible apply blk_set))); all_goals rfl)) hb
  have k1 : w2.heap[w.heap.size + 1]? = some (.cells #[.bool false, .int .u8 0, .int .u16 0, .int .u8 0, .int .u8 0, .bool false, .int .u16 0] 24 (0, 0)) := blk_below (by (apply via; (focus (repeat first | (with_reducible assumption) | (with_reducible apply blk_drew) | (with_reducible apply blk_drewN) | (focus ((with_reducible apply blk_new_at); first | rfl | (simp; done))) | (with_reducible apply blk_alloc) | (focus ((with_reducible apply blk_far); rotate_left; first | omega | (dsimp only; omega))) | (with_reducible apply blk_set))); all_goals rfl)) hb
  have k2 : w2.heap[w.heap.size + 1 + 1]? = some (.cells #[.bool false, .bool false, .bool false] 27 (0, 0)) := blk_below (by (apply via; (focus (repeat first | (with_reducible assumption) | (with_reducible apply blk_drew) | (with_reducible apply blk_drewN) | (focus ((with_reducible apply blk_new_at); first | rfl | (simp; done))) | (with_reducible apply blk_alloc) | (focus ((with_reducible apply blk_far); rotate_left; first | omega | (dsimp only; omega))) | (with_reducible apply blk_set))); all_goals rfl)) hb
  have k3 : w2.heap[w.heap.size + 1 + 1 + 1]? = some (.cells #[.bool ((IntKind.u16.wrap (a0_2 + 1)) == 0), .bool false, .bool false] 27 (0, 0)) := blk_below (by (apply via; (focus (repeat first | (with_reducible assumption) | (with_reducible apply blk_drew) | (with_reducible apply blk_drewN) | (focus ((with_reducible apply blk_new_at); first | rfl | (simp; done))) | (with_reducible apply blk_alloc) | (focus ((with_reducible apply blk_far); rotate_left; first | omega | (dsimp only; omega))) | (with_reducible apply blk_set))); all_goals rfl)) hb
  have kB : Below w.heap.size w w2 := below_step (by (repeat first | (with_reducible assumption) | (with_reducible exact Below.refl _ _) | (with_reducible refine Below.drew ?_) | ((with_reducible refine Below.alloc ?_ ?_ _); rotate_left; first | omega | (focus (simp; done)) | (focus (simp; omega))) | ((with_reducible refine Below.setCell ?_ ?_ _); rotate_left; first | omega | (dsimp only; omega)))) hb
  clear hb
  have y0_0 := blk_cell k0 0
  have y0_1 := blk_cell k0 1
  have y0_2 := blk_cell k0 2
  have y0_3 := blk_cell k0 3
  have y0_4 := blk_cell k0 4
  have y0_5 := blk_cell k0 5
  have y0_6 := blk_cell k0 6
  have y3_0 := blk_cell k3 0
  have y3_1 := blk_cell k3 1
  have y3_2 := blk_cell k3 2
  simp only [List.getElem?_toArray, List.getElem?_cons_zero, List.getElem?_cons_succ] at y0_0 y0_1 y0_2 y0_3 y0_4 y0_5 y0_6 y3_0 y3_1 y3_2
  have u0 := fun i => blk_frozen k0 i
  have u3 := fun i => blk_frozen k3 i
  have K0 := Aside0.mk (And.intro k0 (And.intro k1 (And.intro k2 (And.intro k3 kB))))
  clear k0 k1 k2 k3 kB
  go_wp2
  refine at_world _ (fun W => W.heap[w.heap.size]? = some (.cells #[.bool q1, .int .u8 q2, .int .u16 q3, .int .u8 q4, .int .u8 q5, .bool q6, .int .u16 q7] 24 (0, 0)) ∧ W.heap[w.heap.size + 1]? = some (.cells #[.bool false, .int .u8 0, .int .u16 0, .int .u8 0, .int .u8 0, .bool false, .int .u16 0] 24 (0, 0)) ∧ W.heap[w.heap.size + 1 + 1]? = some (.cells #[.bool false, .bool false, .bool false] 27 (0, 0)) ∧ W.heap[w.heap.size + 1 + 1 + 1]? = some (.cells #[.bool ((IntKind.u16.wrap (a0_2 + 1)) == 0), .bool q8, .bool false] 27 (0, 0)) ∧ Below w.heap.size w W) ?hfacts ?hgo
  case hfacts =>
    clear y0_0 y0_1 y0_2 y0_3 y0_4 y0_5 y0_6 y3_0 y3_1 y3_2 u0 u3
    obtain ⟨k0, k1, k2, k3, kB⟩ := K0.out
    refine ⟨?_, ?_, ?_, ?_, ?_⟩
    · (apply via; (focus (repeat first | (with_reducible assumption) | (with_reducible apply blk_drew) | (with_reducible apply blk_drewN) | (focus ((with_reducible apply blk_new_at); first | rfl | (simp; done))) | (with_reducible apply blk_alloc) | (focus ((with_reducible apply blk_far); rotate_left; first | omega | (dsimp only; omega))) | (with_reducible apply blk_set))); all_goals rfl)
    · (apply via; (focus (repeat first | (with_reducible assumption) | (with_reducible apply blk_drew) | (with_reducible apply blk_drewN) | (focus ((with_reducible apply blk_new_at); first | rfl | (simp; done))) | (with_reducible apply blk_alloc) | (focus ((with_reducible apply blk_far); rotate_left; first | omega | (dsimp only; omega))) | (with_reducible apply blk_set))); all_goals rfl)
    · (apply via; (focus (repeat first | (with_reducible assumption) | (with_reducible apply blk_drew) | (with_reducible apply blk_drewN) | (focus ((with_reducible apply blk_new_at); first | rfl | (simp; done))) | (with_reducible apply blk_alloc) | (focus ((with_reducible apply blk_far); rotate_left; first | omega | (dsimp only; omega))) | (with_reducible apply blk_set))); all_goals rfl)
    · (apply via; (focus (repeat first | (with_reducible assumption) | (with_reducible apply blk_drew) | (with_reducible apply blk_drewN) | (focus ((with_reducible apply blk_new_at); first | rfl | (simp; done))) | (with_reducible apply blk_alloc) | (focus ((with_reducible apply blk_far); rotate_left; first | omega | (dsimp only; omega))) | (with_reducible apply blk_set))); all_goals rfl)
    · (repeat first | (with_reducible assumption) | (with_reducible exact Below.refl _ _) | (with_reducible refine Below.drew ?_) | ((with_reducible refine Below.alloc ?_ ?_ _); rotate_left; first | omega | (focus (simp; done)) | (focus (simp; omega))) | ((with_reducible refine Below.setCell ?_ ?_ _); rotate_left; first | omega | (dsimp only; omega)))
  case hgo =>
    rintro W ⟨b0, b1, b2, b3, hB⟩
    have c0_0 := blk_cell b0 0
    have c0_1 := blk_cell b0 1
    have c0_2 := blk_cell b0 2
    have c0_3 := blk_cell b0 3
    have c0_4 := blk_cell b0 4
    have c0_5 := blk_cell b0 5
    have c0_6 := blk_cell b0 6
    have c1_0 := blk_cell b1 0
    have c1_1 := blk_cell b1 1
    have c1_2 := blk_cell b1 2
    have c1_3 := blk_cell b1 3
    have c1_4 := blk_cell b1 4
    have c1_5 := blk_cell b1 5
    have c1_6 := blk_cell b1 6
    have c2_0 := blk_cell b2 0
    have c2_1 := blk_cell b2 1
    have c2_2 := blk_cell b2 2
    have c3_0 := blk_cell b3 0
    have c3_1 := blk_cell b3 1
    have c3_2 := blk_cell b3 2
    simp only [List.getElem?_toArray, List.getElem?_cons_zero, List.getElem?_cons_succ] at c0_0 c0_1 c0_2 c0_3 c0_4 c0_5 c0_6 c1_0 c1_1 c1_2 c1_3 c1_4 c1_5 c1_6 c2_0 c2_1 c2_2 c3_0 c3_1 c3_2
    have f1 := fun i => blk_frozen b1 i
    have f2 := fun i => blk_frozen b2 i
    have B0 := Aside0.mk (And.intro b0 (And.intro b1 (And.intro b2 b3)))
    clear b0 b1 b2 b3 y0_0 y0_1 y0_2 y0_3 y0_4 y0_5 y0_6 y3_0 y3_1 y3_2 u0 u3
    go_region
    all_goals go_wp2
    refine at_end _ (fun W2 => W2.heap[w.heap.size + 1]? = some (.cells #[.bool q1, .int .u8 q2, .int .u16 q3, .int .u8 q4, .int .u8 q5, .bool q6, .int .u16 q7] 24 (0, 0)) ∧ W2.heap[w.heap.size + 1 + 1]? = some (.cells #[.bool ((IntKind.u16.wrap (a0_2 + 1)) == 0), .bool q8, .bool false] 27 (0, 0)) ∧ Below w.heap.size w W2) ?hf2 ?hg2
    case hf2 =>
      clear c0_0 c0_1 c0_2 c0_3 c0_4 c0_5 c0_6 c1_0 c1_1 c1_2 c1_3 c1_4 c1_5 c1_6 c2_0 c2_1 c2_2 c3_0 c3_1 c3_2 f1 f2
      obtain ⟨b0, b1, b2, b3⟩ := B0.out
      refine ⟨?_, ?_, ?_⟩
      · (apply via; (focus (repeat first | (with_reducible assumption) | (with_reducible apply blk_drew) | (with_reducible apply blk_drewN) | (focus ((with_reducible apply blk_new_at); first | rfl | (simp; done))) | (with_reducible apply blk_alloc) | (focus ((with_reducible apply blk_far); rotate_left; first | omega | (dsimp only; omega))) | (with_reducible apply blk_set))); all_goals rfl)
      · (apply via; (focus (repeat first | (with_reducible assumption) | (with_reducible apply blk_drew) | (with_reducible apply blk_drewN) | (focus ((with_reducible apply blk_new_at); first | rfl | (simp; done))) | (with_reducible apply blk_alloc) | (focus ((with_reducible apply blk_far); rotate_left; first | omega | (dsimp only; omega))) | (with_reducible apply blk_set))); all_goals rfl)
      · (repeat first | (with_reducible assumption) | (with_reducible exact Below.refl _ _) | (with_reducible refine Below.drew ?_) | ((with_reducible refine Below.alloc ?_ ?_ _); rotate_left; first | omega | (focus (simp; done)) | (focus (simp; omega))) | ((with_reducible refine Below.setCell ?_ ?_ _); rotate_left; first | omega | (dsimp only; omega)))
    case hg2 =>
      rintro W2 ⟨r1, r2, hB2⟩
      refine bodyPost_ret (results_cc rfl _ _ (w.heap.size + 1) (w.heap.size + 1 + 1) 24 27 _ _ (0, 0) (0, 0) _ _ rfl r1 Try.underlying24 rfl (by kernel_rfl) rfl r2 Try.underlying27 rfl (by kernel_rfl)) rfl ?_
      exact ⟨rfl, hB2⟩
set_option maxHeartbeats 8000000 in
set_option maxRecDepth 100000 in
theorem lcd_Step.pe (k : Nat) (a0_1 a0_2 a0_3 a0_4 : Int) (a0_5 : Bool) (a0_6 a1 : Int) (w : World) (c1 : a0_2 < 455) (c2 : ¬ a0_1 < 144) (c3 : (a0_1 == 144) = false) (q1 q6 q8 : Bool) (q2 q3 q4 q5 q7 : Int)
    (H : lcd_heard.f k true a0_1 (IntKind.u16.wrap (a0_2 + 1)) a0_3 a0_4 a0_5 a0_6 = some (q1, q2, q3, q4, q5, q6, q7, q8)) :
    Calls Try.prog 12 #[.agg #[.bool true, .int .u8 a0_1, .int .u16 a0_2, .int .u8 a0_3, .int .u8 a0_4, .bool a0_5, .int .u16 a0_6], .int .u16 a1] w fun e w' => e = .returned (.tuple #[.agg #[.bool q1, .int .u8 q2, .int .u16 q3, .int .u8 q4, .int .u8 q5, .bool q6, .int .u16 q7], .agg #[.bool false, .bool q8, .bool false]]) ∧ Below w.heap.size w w' := by
  have HH := Aside0.mk H
  clear H
  go_enter Try.func12, Try.ntmps12
  go_wp2_with fail
  refine (lcd_heard.calls k _ _ _ _ _ _ _ _ _ _ _ _ _ _ _ _ HH.out).mono ?_
  rintro e w2 ⟨rfl, hb⟩
  have k0 : w2.heap[w.heap.size]? = some (.cells #[.bool true, .int .u8 a0_1, .int .u16 (IntKind.u16.wrap (a0_2 + 1)), .int .u8 a0_3, .int .u8 a0_4, .bool a0_5, .int .u16 a0_6] 24 (0, 0)) := blk_below (by (apply via; (focus (repeat first | (with_reducible assumption) | (with_reducible apply blk_drew) | (with_reducible apply blk_drewN) | (focus ((with_reducible apply blk_new_at); first | rfl | (simp; done))) | (with_reducible apply blk_alloc) | (focus ((with_reducible apply blk_far); rotate_left; first | omega | (dsimp only; omega))) | (with_reducible apply blk_set))); all_goals rfl)) hb
  have k1 : w2.heap[w.heap.size + 1]? = some (.cells #[.bool false, .int .u8 0, .int .u16 0, .int .u8 0, .int .u8 0, .bool false, .int .u16 0] 24 (0, 0)) := blk_below (by (apply via; (focus (repeat first | (with_reducible assumption) | (with_reducible apply blk_drew) | (with_reducible apply blk_drewN) | (focus ((with_reducible apply blk_new_at); first | rfl | (simp; done))) | (with_reducible apply blk_alloc) | (focus ((with_reducible apply blk_far); rotate_left; first | omega | (dsimp only; omega))) | (with_reducible apply blk_set))); all_goals rfl)) hb
  have k2 : w2.heap[w.heap.size + 1 + 1]? = some (.cells #[.bool false, .bool false, .bool false] 27 (0, 0)) := blk_below (by (apply via; (focus (repeat first | (with_reducible assumption) | (with_reducible apply blk_drew) | (with_reducible apply blk_drewN) | (focus ((with_reducible apply blk_new_at); first | rfl | (simp; done))) | (with_reducible apply blk_alloc) | (focus ((with_reducible apply blk_far); rotate_left; first | omega | (dsimp only; omega))) | (with_reducible apply blk_set))); all_goals rfl)) hb
  have k3 : w2.heap[w.heap.size + 1 + 1 + 1]? = some (.cells #[.bool false, .bool false, .bool false] 27 (0, 0)) := blk_below (by (apply via; (focus (repeat first | (with_reducible assumption) | (with_reducible apply blk_drew) | (with_reducible apply blk_drewN) | (focus ((with_reducible apply blk_new_at); first | rfl | (simp; done))) | (with_reducible apply blk_alloc) | (focus ((with_reducible apply blk_far); rotate_left; first | omega | (dsimp only; omega))) | (with_reducible apply blk_set))); all_goals rfl)) hb
  have kB : Below w.heap.size w w2 := below_step (by (repeat first | (with_reducible assumption) | (with_reducible exact Below.refl _ _) | (with_reducible refine Below.drew ?_) | ((with_reducible refine Below.alloc ?_ ?_ _); rotate_left; first | omega | (focus (simp; done)) | (focus (simp; omega))) | ((with_reducible refine Below.setCell ?_ ?_ _); rotate_left; first | omega | (dsimp only; omega)))) hb
  clear hb
  have y0_0 := blk_cell k0 0
  have y0_1 := blk_cell k0 1
  have y0_2 := blk_cell k0 2
  have y0_3 := blk_cell k0 3
  have y0_4 := blk_cell k0 4
  have y0_5 := blk_cell k0 5
  have y0_6 := blk_cell k0 6
  have y3_0 := blk_cell k3 0
  have y3_1 := blk_cell k3 1
  have y3_2 := blk_cell k3 2
  simp only [List.getElem?_toArray, List.getElem?_cons_zero, List.getElem?_cons_succ] at y0_0 y0_1 y0_2 y0_3 y0_4 y0_5 y0_6 y3_0 y3_1 y3_2
  have u0 := fun i => blk_frozen k0 i
  have u3 := fun i => blk_frozen k3 i
  have K0 := Aside0.mk (And.intro k0 (And.intro k1 (And.intro k2 (And.intro k3 kB))))
  clear k0 k1 k2 k3 kB
  go_wp2
  refine at_world _ (fun W => W.heap[w.heap.size]? = some (.cells #[.bool q1, .int .u8 q2, .int .u16 q3, .int .u8 q4, .int .u8 q5, .bool q6, .int .u16 q7] 24 (0, 0)) ∧ W.heap[w.heap.size + 1]? = some (.cells #[.bool false, .int .u8 0, .int .u16 0, .int .u8 0, .int .u8 0, .bool false, .int .u16 0] 24 (0, 0)) ∧ W.heap[w.heap.size + 1 + 1]? = some (.cells #[.bool false, .bool false, .bool false] 27 (0, 0)) ∧ W.heap[w.heap.size + 1 + 1 + 1]? = some (.cells #[.bool false, .bool q8, .bool false] 27 (0, 0)) ∧ Below w.heap.size w W) ?hfacts ?hgo
  case hfacts =>
    clear y0_0 y0_1 y0_2 y0_3 y0_4 y0_5 y0_6 y3_0 y3_1 y3_2 u0 u3
    obtain ⟨k0, k1, k2, k3, kB⟩ := K0.out
    refine ⟨?_, ?_, ?_, ?_, ?_⟩
    · (apply via; (focus (repeat first | (with_reducible assumption) | (with_reducible apply blk_drew) | (with_reducible apply blk_drewN) | (focus ((with_reducible apply blk_new_at); first | rfl | (simp; done))) | (with_reducible apply blk_alloc) | (focus ((with_reducible apply blk_far); rotate_left; first | omega | (dsimp only; omega))) | (with_reducible apply blk_set))); all_goals rfl)
    · (apply via; (focus (repeat first | (with_reducible assumption) | (with_reducible apply blk_drew) | (with_reducible apply blk_drewN) | (focus ((with_reducible apply blk_new_at); first | rfl | (simp; done))) | (with_reducible apply blk_alloc) | (focus ((with_reducible apply blk_far); rotate_left; first | omega | (dsimp only; omega))) | (with_reducible apply blk_set))); all_goals rfl)
    · (apply via; (focus (repeat first | (with_reducible assumption) | (with_reducible apply blk_drew) | (with_reducible apply blk_drewN) | (focus ((with_reducible apply blk_new_at); first | rfl | (simp; done))) | (with_reducible apply blk_alloc) | (focus ((with_reducible apply blk_far); rotate_left; first | omega | (dsimp only; omega))) | (with_reducible apply blk_set))); all_goals rfl)
    · (apply via; (focus (repeat first | (with_reducible assumption) | (with_reducible apply blk_drew) | (with_reducible apply blk_drewN) | (focus ((with_reducible apply blk_new_at); first | rfl | (simp; done))) | (with_reducible apply blk_alloc) | (focus ((with_reducible apply blk_far); rotate_left; first | omega | (dsimp only; omega))) | (with_reducible apply blk_set))); all_goals rfl)
    · (repeat first | (with_reducible assumption) | (with_reducible exact Below.refl _ _) | (with_reducible refine Below.drew ?_) | ((with_reducible refine Below.alloc ?_ ?_ _); rotate_left; first | omega | (focus (simp; done)) | (focus (simp; omega))) | ((with_reducible refine Below.setCell ?_ ?_ _); rotate_left; first | omega | (dsimp only; omega)))
  case hgo =>
    rintro W ⟨b0, b1, b2, b3, hB⟩
    have c0_0 := blk_cell b0 0
    have c0_1 := blk_cell b0 1
    have c0_2 := blk_cell b0 2
    have c0_3 := blk_cell b0 3
    have c0_4 := blk_cell b0 4
    have c0_5 := blk_cell b0 5
    have c0_6 := blk_cell b0 6
    have c1_0 := blk_cell b1 0
    have c1_1 := blk_cell b1 1
    have c1_2 := blk_cell b1 2
    have c1_3 := blk_cell b1 3
    have c1_4 := blk_cell b1 4
    have c1_5 := blk_cell b1 5
    have c1_6 := blk_cell b1 6
    have c2_0 := blk_cell b2 0
    have c2_1 := blk_cell b2 1
    have c2_2 := blk_cell b2 2
    have c3_0 := blk_cell b3 0
    have c3_1 := blk_cell b3 1
    have c3_2 := blk_cell b3 2
    simp only [List.getElem?_toArray, List.getElem?_cons_zero, List.getElem?_cons_succ] at c0_0 c0_1 c0_2 c0_3 c0_4 c0_5 c0_6 c1_0 c1_1 c1_2 c1_3 c1_4 c1_5 c1_6 c2_0 c2_1 c2_2 c3_0 c3_1 c3_2
    have f1 := fun i => blk_frozen b1 i
    have f2 := fun i => blk_frozen b2 i
    have B0 := Aside0.mk (And.intro b0 (And.intro b1 (And.intro b2 b3)))
    clear b0 b1 b2 b3 y0_0 y0_1 y0_2 y0_3 y0_4 y0_5 y0_6 y3_0 y3_1 y3_2 u0 u3
    go_region
    all_goals go_wp2
    refine at_end _ (fun W2 => W2.heap[w.heap.size + 1]? = some (.cells #[.bool q1, .int .u8 q2, .int .u16 q3, .int .u8 q4, .int .u8 q5, .bool q6, .int .u16 q7] 24 (0, 0)) ∧ W2.heap[w.heap.size + 1 + 1]? = some (.cells #[.bool false, .bool q8, .bool false] 27 (0, 0)) ∧ Below w.heap.size w W2) ?hf2 ?hg2
    case hf2 =>
      clear c0_0 c0_1 c0_2 c0_3 c0_4 c0_5 c0_6 c1_0 c1_1 c1_2 c1_3 c1_4 c1_5 c1_6 c2_0 c2_1 c2_2 c3_0 c3_1 c3_2 f1 f2
      obtain ⟨b0, b1, b2, b3⟩ := B0.out
      refine ⟨?_, ?_, ?_⟩
      · (apply via; (focus (repeat first | (with_reducible assumption) | (with_reducible apply blk_drew) | (with_reducible apply blk_drewN) | (focus ((with_reducible apply blk_new_at); first | rfl | (simp; done))) | (with_reducible apply blk_alloc) | (focus ((with_reducible apply blk_far); rotate_left; first | omega | (dsimp only; omega))) | (with_reducible apply blk_set))); all_goals rfl)
      · (apply via; (focus (repeat first | (with_reducible assumption) | (with_reducible apply blk_drew) | (with_reducible apply blk_drewN) | (focus ((with_reducible apply blk_new_at); first | rfl | (simp; done))) | (with_reducible apply blk_alloc) | (focus ((with_reducible apply blk_far); rotate_left; first | omega | (dsimp only; omega))) | (with_reducible apply blk_set))); all_goals rfl)
      · (repeat first | (with_reducible assumption) | (with_reducible exact Below.refl _ _) | (with_reducible refine Below.drew ?_) | ((with_reducible refine Below.alloc ?_ ?_ _); rotate_left; first | omega | (focus (simp; done)) | (focus (simp; omega))) | ((with_reducible refine Below.setCell ?_ ?_ _); rotate_left; first | omega | (dsimp only; omega)))
    case hg2 =>
      rintro W2 ⟨r1, r2, hB2⟩
      refine bodyPost_ret (results_cc rfl _ _ (w.heap.size + 1) (w.heap.size + 1 + 1) 24 27 _ _ (0, 0) (0, 0) _ _ rfl r1 Try.underlying24 rfl (by kernel_rfl) rfl r2 Try.underlying27 rfl (by kernel_rfl)) rfl ?_
      exact ⟨rfl, hB2⟩
set_option maxHeartbeats 8000000 in
set_option maxRecDepth 100000 in
theorem lcd_Step.pf (k : Nat) (a0_1 a0_2 a0_3 a0_4 : Int) (a0_5 : Bool) (a0_6 a1 : Int) (w : World) (c1 : ¬ a0_2 < 455) (c5 : a0_1 < 153) (c2 : ((a0_1 + 1) % 256) < 144) (q1 q6 q8 : Bool) (q2 q3 q4 q5 q7 : Int)
    (H : lcd_heard.f k true ((a0_1 + 1) % 256) 0 a0_3 a0_4 a0_5 a0_6 = some (q1, q2, q3, q4, q5, q6, q7, q8)) :
    Calls Try.prog 12 #[.agg #[.bool true, .int .u8 a0_1, .int .u16 a0_2, .int .u8 a0_3, .int .u8 a0_4, .bool a0_5, .int .u16 a0_6], .int .u16 a1] w fun e w' => e = .returned (.tuple #[.agg #[.bool q1, .int .u8 q2, .int .u16 q3, .int .u8 q4, .int .u8 q5, .bool q6, .int .u16 q7], .agg #[.bool false, .bool q8, .bool false]]) ∧ Below w.heap.size w w' := by
  have HH := Aside0.mk H
  clear H
  go_enter Try.func12, Try.ntmps12
  go_wp2_with fail
  refine (lcd_heard.calls k _ _ _ _ _ _ _ _ _ _ _ _ _ _ _ _ HH.out).mono ?_
  rintro e w2 ⟨rfl, hb⟩
  have k0 : w2.heap[w.heap.size]? = some (.cells #[.bool true, .int .u8 ((a0_1 + 1) % 256), .int .u16 0, .int .u8 a0_3, .int .u8 a0_4, .bool a0_5, .int .u16 a0_6] 24 (0, 0)) := blk_below (by (apply via; (focus (repeat first | (with_reducible assumption) | (with_reducible apply blk_drew) | (with_reducible apply blk_drewN) | (focus ((with_reducible apply blk_new_at); first | rfl | (simp; done))) | (with_reducible apply blk_alloc) | (focus ((with_reducible apply blk_far); rotate_left; first | omega | (dsimp only; omega))) | (with_reducible apply blk_set))); all_goals rfl)) hb
  have k1 : w2.heap[w.heap.size + 1]? = some (.cells #[.bool false, .int .u8 0, .int .u16 0, .int .u8 0, .int .u8 0, .bool false, .int .u16 0] 24 (0, 0)) := blk_below (by (apply via; (focus (repeat first | (with_reducible assumption) | (with_reducible apply blk_drew) | (with_reducible apply blk_drewN) | (focus ((with_reducible apply blk_new_at); first | rfl | (simp; done))) | (with_reducible apply blk_alloc) | (focus ((with_reducible apply blk_far); rotate_left; first | omega | (dsimp only; omega))) | (with_reducible apply blk_set))); all_goals rfl)) hb
  have k2 : w2.heap[w.heap.size + 1 + 1]? = some (.cells #[.bool false, .bool false, .bool false] 27 (0, 0)) := blk_below (by (apply via; (focus (repeat first | (with_reducible assumption) | (with_reducible apply blk_drew) | (with_reducible apply blk_drewN) | (focus ((with_reducible apply blk_new_at); first | rfl | (simp; done))) | (with_reducible apply blk_alloc) | (focus ((with_reducible apply blk_far); rotate_left; first | omega | (dsimp only; omega))) | (with_reducible apply blk_set))); all_goals rfl)) hb
  have k3 : w2.heap[w.heap.size + 1 + 1 + 1]? = some (.cells #[.bool false, .bool false, .bool false] 27 (0, 0)) := blk_below (by (apply via; (focus (repeat first | (with_reducible assumption) | (with_reducible apply blk_drew) | (with_reducible apply blk_drewN) | (focus ((with_reducible apply blk_new_at); first | rfl | (simp; done))) | (with_reducible apply blk_alloc) | (focus ((with_reducible apply blk_far); rotate_left; first | omega | (dsimp only; omega))) | (with_reducible apply blk_set))); all_goals rfl)) hb
  have kB : Below w.heap.size w w2 := below_step (by (repeat first | (with_reducible assumption) | (with_reducible exact Below.refl _ _) | (with_reducible refine Below.drew ?_) | ((with_reducible refine Below.alloc ?_ ?_ _); rotate_left; first | omega | (focus (simp; done)) | (focus (simp; omega))) | ((with_reducible refine Below.setCell ?_ ?_ _); rotate_left; first | omega | (dsimp only; omega)))) hb
  clear hb
  have y0_0 := blk_cell k0 0
  have y0_1 := blk_cell k0 1
  have y0_2 := blk_cell k0 2
  have y0_3 := blk_cell k0 3
  have y0_4 := blk_cell k0 4
  have y0_5 := blk_cell k0 5
  have y0_6 := blk_cell k0 6
  have y3_0 := blk_cell k3 0
  have y3_1 := blk_cell k3 1
  have y3_2 := blk_cell k3 2
  simp only [List.getElem?_toArray, List.getElem?_cons_zero, List.getElem?_cons_succ] at y0_0 y0_1 y0_2 y0_3 y0_4 y0_5 y0_6 y3_0 y3_1 y3_2
  have u0 := fun i => blk_frozen k0 i
  have u3 := fun i => blk_frozen k3 i
  have K0 := Aside0.mk (And.intro k0 (And.intro k1 (And.intro k2 (And.intro k3 kB))))
  clear k0 k1 k2 k3 kB
  go_wp2
  refine at_world _ (fun W => W.heap[w.heap.size]? = some (.cells #[.bool q1, .int .u8 q2, .int .u16 q3, .int .u8 q4, .int .u8 q5, .bool q6, .int .u16 q7] 24 (0, 0)) ∧ W.heap[w.heap.size + 1]? = some (.cells #[.bool false, .int .u8 0, .int .u16 0, .int .u8 0, .int .u8 0, .bool false, .int .u16 0] 24 (0, 0)) ∧ W.heap[w.heap.size + 1 + 1]? = some (.cells #[.bool false, .bool false, .bool false] 27 (0, 0)) ∧ W.heap[w.heap.size + 1 + 1 + 1]? = some (.cells #[.bool false, .bool q8, .bool false] 27 (0, 0)) ∧ Below w.heap.size w W) ?hfacts ?hgo
  case hfacts =>
    clear y0_0 y0_1 y0_2 y0_3 y0_4 y0_5 y0_6 y3_0 y3_1 y3_2 u0 u3
    obtain ⟨k0, k1, k2, k3, kB⟩ := K0.out
    refine ⟨?_, ?_, ?_, ?_, ?_⟩
    · (apply via; (focus (repeat first | (with_reducible assumption) | (with_reducible apply blk_drew) | (with_reducible apply blk_drewN) | (focus ((with_reducible apply blk_new_at); first | rfl | (simp; done))) | (with_reducible apply blk_alloc) | (focus ((with_reducible apply blk_far); rotate_left; first | omega | (dsimp only; omega))) | (with_reducible apply blk_set))); all_goals rfl)
    · (apply via; (focus (repeat first | (with_reducible assumption) | (with_reducible apply blk_drew) | (with_reducible apply blk_drewN) | (focus ((with_reducible apply blk_new_at); first | rfl | (simp; done))) | (with_reducible apply blk_alloc) | (focus ((with_reducible apply blk_far); rotate_left; first | omega | (dsimp only; omega))) | (with_reducible apply blk_set))); all_goals rfl)
    · (apply via; (focus (repeat first | (with_reducible assumption) | (with_reducible apply blk_drew) | (with_reducible apply blk_drewN) | (focus ((with_reducible apply blk_new_at); first | rfl | (simp; done))) | (with_reducible apply blk_alloc) | (focus ((with_reducible apply blk_far); rotate_left; first | omega | (dsimp only; omega))) | (with_reducible apply blk_set))); all_goals rfl)
    · (apply via; (focus (repeat first | (with_reducible assumption) | (with_reducible apply blk_drew) | (with_reducible apply blk_drewN) | (focus ((with_reducible apply blk_new_at); first | rfl | (simp; done))) | (with_reducible apply blk_alloc) | (focus ((with_reducible apply blk_far); rotate_left; first | omega | (dsimp only; omega))) | (with_reducible apply blk_set))); all_goals rfl)
    · (repeat first | (with_reducible assumption) | (with_reducible exact Below.refl _ _) | (with_reducible refine Below.drew ?_) | ((with_reducible refine Below.alloc ?_ ?_ _); rotate_left; first | omega | (focus (simp; done)) | (focus (simp; omega))) | ((with_reducible refine Below.setCell ?_ ?_ _); rotate_left; first | omega | (dsimp only; omega)))
  case hgo =>
    rintro W ⟨b0, b1, b2, b3, hB⟩
    have c0_0 := blk_cell b0 0
    have c0_1 := blk_cell b0 1
    have c0_2 := blk_cell b0 2
    have c0_3 := blk_cell b0 3
    have c0_4 := blk_cell b0 4
    have c0_5 := blk_cell b0 5
    have c0_6 := blk_cell b0 6
    have c1_0 := blk_cell b1 0
    have c1_1 := blk_cell b1 1
    have c1_2 := blk_cell b1 2
    have c1_3 := blk_cell b1 3
    have c1_4 := blk_cell b1 4
    have c1_5 := blk_cell b1 5
    have c1_6 := blk_cell b1 6
    have c2_0 := blk_cell b2 0
    have c2_1 := blk_cell b2 1
    have c2_2 := blk_cell b2 2
    have c3_0 := blk_cell b3 0
    have c3_1 := blk_cell b3 1
    have c3_2 := blk_cell b3 2
    simp only [List.getElem?_toArray, List.getElem?_cons_zero, List.getElem?_cons_succ] at c0_0 c0_1 c0_2 c0_3 c0_4 c0_5 c0_6 c1_0 c1_1 c1_2 c1_3 c1_4 c1_5 c1_6 c2_0 c2_1 c2_2 c3_0 c3_1 c3_2
    have f1 := fun i => blk_frozen b1 i
    have f2 := fun i => blk_frozen b2 i
    have B0 := Aside0.mk (And.intro b0 (And.intro b1 (And.intro b2 b3)))
    clear b0 b1 b2 b3 y0_0 y0_1 y0_2 y0_3 y0_4 y0_5 y0_6 y3_0 y3_1 y3_2 u0 u3
    go_region
    all_goals go_wp2
    refine at_end _ (fun W2 => W2.heap[w.heap.size + 1]? = some (.cells #[.bool q1, .int .u8 q2, .int .u16 q3, .int .u8 q4, .int .u8 q5, .bool q6, .int .u16 q7] 24 (0, 0)) ∧ W2.heap[w.heap.size + 1 + 1]? = some (.cells #[.bool false, .bool q8, .bool false] 27 (0, 0)) ∧ Below w.heap.size w W2) ?hf2 ?hg2
    case hf2 =>
      clear c0_0 c0_1 c0_2 c0_3 c0_4 c0_5 c0_6 c1_0 c1_1 c1_2 c1_3 c1_4 c1_5 c1_6 c2_0 c2_1 c2_2 c3_0 c3_1 c3_2 f1 f2
      obtain ⟨b0, b1, b2, b3⟩ := B0.out
      refine ⟨?_, ?_, ?_⟩
      · (apply via; (focus (repeat first | (with_reducible assumption) | (with_reducible apply blk_drew) | (with_reducible apply blk_drewN) | (focus ((with_reducible apply blk_new_at); first | rfl | (simp; done))) | (with_reducible apply blk_alloc) | (focus ((with_reducible apply blk_far); rotate_left; first | omega | (dsimp only; omega))) | (with_reducible apply blk_set))); all_goals rfl)
      · (apply via; (focus (repeat first | (with_reducible assumption) | (with_reducible apply blk_drew) | (with_reducible apply blk_drewN) | (focus ((with_reducible apply blk_new_at); first | rfl | (simp; done))) | (with_reducible apply blk_alloc) | (focus ((with_reducible apply blk_far); rotate_left; first | omega | (dsimp only; omega))) | (with_reducible apply blk_set))); all_goals rfl)
      · (repeat first | (with_reducible assumption) | (with_reducible exact Below.refl _ _) | (with_reducible refine Below.drew ?_) | ((with_reducible refine Below.alloc ?_ ?_ _); rotate_left; first | omega | (focus (simp; done)) | (focus (simp; omega))) | ((with_reducible refine Below.setCell ?_ ?_ _); rotate_left; first | omega | (dsimp only; omega)))
    case hg2 =>
      rintro W2 ⟨r1, r2, hB2⟩
      refine bodyPost_ret (results_cc rfl _ _ (w.heap.size + 1) (w.heap.size + 1 + 1) 24 27 _ _ (0, 0) (0, 0) _ _ rfl r1 Try.underlying24 rfl (by kernel_rfl) rfl r2 Try.underlying27 rfl (by kernel_rfl)) rfl ?_
      exact ⟨rfl, hB2⟩
set_option maxHeartbeats 8000000 in
set_option maxRecDepth 100000 in
theorem lcd_Step.pg (k : Nat) (a0_1 a0_2 a0_3 a0_4 : Int) (a0_5 : Bool) (a0_6 a1 : Int) (w : World) (c1 : ¬ a0_2 < 455) (c5 : a0_1 < 153) (c2 : ¬ ((a0_1 + 1) % 256) < 144) (c3 : (((a0_1 + 1) % 256) == 144) = true) (q1 q6 q8 : Bool) (q2 q3 q4 q5 q7 : Int)
    (H : lcd_heard.f k true ((a0_1 + 1) % 256) 0 a0_3 a0_4 a0_5 a0_6 = some (q1, q2, q3, q4, q5, q6, q7, q8)) :
    Calls Try.prog 12 #[.agg #[.bool true, .int .u8 a0_1, .int .u16 a0_2, .int .u8 a0_3, .int .u8 a0_4, .bool a0_5, .int .u16 a0_6], .int .u16 a1] w fun e w' => e = .returned (.tuple #[.agg #[.bool q1, .int .u8 q2, .int .u16 q3, .int .u8 q4, .int .u8 q5, .bool q6, .int .u16 q7], .agg #[.bool true, .bool q8, .bool false]]) ∧ Below w.heap.size w w' := by
  have HH := Aside0.mk H
  clear H
  go_enter Try.func12, Try.ntmps12
  go_wp2_with fail
  refine (lcd_heard.calls k _ _ _ _ _ _ _ _ _ _ _ _ _ _ _ _ HH.out).mono ?_
  rintro e w2 ⟨rfl, hb⟩
  have k0 : w2.heap[w.heap.size]? = some (.cells #[.bool true, .int .u8 ((a0_1 + 1) % 256), .int .u16 0, .int .u8 a0_3, .int .u8 a0_4, .bool a0_5, .int .u16 a0_6] 24 (0, 0)) := blk_below (by (apply via; (focus (repeat first | (with_reducible assumption) | (with_reducible apply blk_drew) | (with_reducible apply blk_drewN) | (focus ((with_reducible apply blk_new_at); first | rfl | (simp; done))) | (with_reducible apply blk_alloc) | (focus ((with_reducible apply blk_far); rotate_left; first | omega | (dsimp only; omega))) | (with_reducible apply blk_set))); all_goals rfl)) hb
  have k1 : w2.heap[w.heap.size + 1]? = some (.cells #[.bool false, .int .u8 0, .int .u16 0, .int .u8 0, .int .u8 0, .bool false, .int .u16 0] 24 (0, 0)) := blk_below (by (apply via; (focus (repeat first | (with_reducible assumption) | (with_reducible apply blk_drew) | (with_reducible apply blk_drewN) | (focus ((with_reducible apply blk_new_at); first | rfl | (simp; done))) | (with_reducible apply blk_alloc) | (focus ((with_reducible apply blk_far); rotate_left; first | omega | (dsimp only; omega))) | (with_reducible apply blk_set))); all_goals rfl)) hb
  have k2 : w2.heap[w.heap.size + 1 + 1]? = some (.cells #[.bool false, .bool false, .bool false] 27 (0, 0)) := blk_below (by (apply via; (focus (repeat first | (with_reducible assumption) | (with_reducible apply blk_drew) | (with_reducible apply blk_drewN) | (focus ((with_reducible apply blk_new_at); first | rfl | (simp; done))) | (with_reducible apply blk_alloc) | (focus ((with_reducible apply blk_far); rotate_left; first | omega | (dsimp only; omega))) | (with_reducible apply blk_set))); all_goals rfl)) hb
  have k3 : w2.heap[w.heap.size + 1 + 1 + 1]? = some (.cells #[.bool true, .bool false, .bool false] 27 (0, 0)) := blk_below (by (apply via; (focus (repeat first | (with_reducible assumption) | (with_reducible apply blk_drew) | (with_reducible apply blk_drewN) | (focus ((with_reducible apply blk_new_at); first | rfl | (simp; done))) | (with_reducible apply blk_alloc) | (focus ((with_reducible apply blk_far); rotate_left; first | omega | (dsimp only; omega))) | (with_reducible apply blk_set))); all_goals rfl)) hb
  have kB : Below w.heap.size w w2 := below_step (by (repeat first | (with_reducible assumption) | (with_reducible exact Below.refl _ _) | (with_reducible refine Below.drew ?_) | ((with_reducible refine Below.alloc ?_ ?_ _); rotate_left; first | omega | (focus (simp; done)) | (focus (simp; omega))) | ((with_reducible refine Below.setCell ?_ ?_ _); rotate_left; first | omega | (dsimp only; omega)))) hb
  clear hb
  have y0_0 := blk_cell k0 0
  have y0_1 := blk_cell k0 1
  have y0_2 := blk_cell k0 2
  have y0_3 := blk_cell k0 3
  have y0_4 := blk_cell k0 4
  have y0_5 := blk_cell k0 5
  have y0_6 := blk_cell k0 6
  have y3_0 := blk_cell k3 0
  have y3_1 := blk_cell k3 1
  have y3_2 := blk_cell k3 2
  simp only [List.getElem?_toArray, List.getElem?_cons_zero, List.getElem?_cons_succ] at y0_0 y0_1 y0_2 y0_3 y0_4 y0_5 y0_6 y3_0 y3_1 y3_2
  have u0 := fun i => blk_frozen k0 i
  have u3 := fun i => blk_frozen k3 i
  have K0 := Aside0.mk (And.intro k0 (And.intro k1 (And.intro k2 (And.intro k3 kB))))
  clear k0 k1 k2 k3 kB
  go_wp2
  refine at_world _ (fun W => W.heap[w.heap.size]? = some (.cells #[.bool q1, .int .u8 q2, .int .u16 q3, .int .u8 q4, .int .u8 q5, .bool q6, .int .u16 q7] 24 (0, 0)) ∧ W.heap[w.heap.size + 1]? = some (.cells #[.bool false, .int .u8 0, .int .u16 0, .int .u8 0, .int .u8 0, .bool false, .int .u16 0] 24 (0, 0)) ∧ W.heap[w.heap.size + 1 + 1]? = some (.cells #[.bool false, .bool false, .bool false] 27 (0, 0)) ∧ W.heap[w.heap.size + 1 + 1 + 1]? = some (.cells #[.bool true, .bool q8, .bool false] 27 (0, 0)) ∧ Below w.heap.size w W) ?hfacts ?hgo
  case hfacts =>
    clear y0_0 y0_1 y0_2 y0_3 y0_4 y0_5 y0_6 y3_0 y3_1 y3_2 u0 u3
    obtain ⟨k0, k1, k2, k3, kB⟩ := K0.out
    refine ⟨?_, ?_, ?_, ?_, ?_⟩
    · (apply via; (focus (repeat first | (with_reducible assumption) | (with_reducible apply blk_drew) | (with_reducible apply blk_drewN) | (focus ((with_reducible apply blk_new_at); first | rfl | (simp; done))) | (with_reducible apply blk_alloc) | (focus ((with_reducible apply blk_far); rotate_left; first | omega | (dsimp only; omega))) | (with_reducible apply blk_set))); all_goals rfl)
    · (apply via; (focus (repeat first | (with_reducible assumption) | (with_reducible apply blk_drew) | (with_reducible apply blk_drewN) | (focus ((with_reducible apply blk_new_at); first | rfl | (simp; done))) | (with_reducible apply blk_alloc) | (focus ((with_reducible apply blk_far); rotate_left; first | omega | (dsimp only; omega))) | (with_reducible apply blk_set))); all_goals rfl)
    · (apply via; (focus (repeat first | (with_reducible assumption) | (with_reducible apply blk_drew) | (with_reducible apply blk_drewN) | (focus ((with_reducible apply blk_new_at); first | rfl | (simp; done))) | (with_reducible apply blk_alloc) | (focus ((with_reducible apply blk_far); rotate_left; first | omega | (dsimp only; omega))) | (with_reducible apply blk_set))); all_goals rfl)
    · (apply via; (focus (repeat first | (with_reducible assumption) | (with_reducible apply blk_drew) | (with_reducible apply blk_drewN) | (focus ((with_reducible apply blk_new_at); first | rfl | (simp; done))) | (with_reducible apply blk_alloc) | (focus ((with_reducible apply blk_far); rotate_left; first | omega | (dsimp only; omega))) | (with_reducible apply blk_set))); all_goals rfl)
    · (repeat first | (with_reducible assumption) | (with_reducible exact Below.refl _ _) | (with_reducible refine Below.drew ?_) | ((with_reducible refine Below.alloc ?_ ?_ _); rotate_left; first | omega | (focus (simp; done)) | (focus (simp; omega))) | ((with_reducible refine Below.setCell ?_ ?_ _); rotate_left; first | omega | (dsimp only; omega)))
  case hgo =>
    rintro W ⟨b0, b1, b2, b3, hB⟩
    have c0_0 := blk_cell b0 0
    have c0_1 := blk_cell b0 1
    have c0_2 := blk_cell b0 2
    have c0_3 := blk_cell b0 3
    have c0_4 := blk_cell b0 4
    have c0_5 := blk_cell b0 5
    have c0_6 := blk_cell b0 6
    have c1_0 := blk_cell b1 0
    have c1_1 := blk_cell b1 1
    have c1_2 := blk_cell b1 2
    have c1_3 := blk_cell b1 3
    have c1_4 := blk_cell b1 4
    have c1_5 := blk_cell b1 5
    have c1_6 := blk_cell b1 6
    have c2_0 := blk_cell b2 0
    have c2_1 := blk_cell b2 1
    have c2_2 := blk_cell b2 2
    have c3_0 := blk_cell b3 0
    have c3_1 := blk_cell b3 1
    have c3_2 := blk_cell b3 2
    simp only [List.getElem?_toArray, List.getElem?_cons_zero, List.getElem?_cons_succ] at c0_0 c0_1 c0_2 c0_3 c0_4 c0_5 c0_6 c1_0 c1_1 c1_2 c1_3 c1_4 c1_5 c1_6 c2_0 c2_1 c2_2 c3_0 c3_1 c3_2
    have f1 := fun i => blk_frozen b1 i
    have f2 := fun i => blk_frozen b2 i
    have B0 := Aside0.mk (And.intro b0 (And.intro b1 (And.intro b2 b3)))
    clear b0 b1 b2 b3 y0_0 y0_1 y0_2 y0_3 y0_4 y0_5 y0_6 y3_0 y3_1 y3_2 u0 u3
    go_region
    all_goals go_wp2
    refine at_end _ (fun W2 => W2.heap[w.heap.size + 1]? = some (.cells #[.bool q1, .int .u8 q2, .int .u16 q3, .int .u8 q4, .int .u8 q5, .bool q6, .int .u16 q7] 24 (0, 0)) ∧ W2.heap[w.heap.size + 1 + 1]? = some (.cells #[.bool true, .bool q8, .bool false] 27 (0, 0)) ∧ Below w.heap.size w W2) ?hf2 ?hg2
    case hf2 =>
      clear c0_0 c0_1 c0_2 c0_3 c0_4 c0_5 c0_6 c1_0 c1_1 c1_2 c1_3 c1_4 c1_5 c1_6 c2_0 c2_1 c2_2 c3_0 c3_1 c3_2 f1 f2
      obtain ⟨b0, b1, b2, b3⟩ := B0.out
      refine ⟨?_, ?_, ?_⟩
      · (apply via; (focus (repeat first | (with_reducible assumption) | (with_reducible apply blk_drew) | (with_reducible apply blk_drewN) | (focus ((with_reducible apply blk_new_at); first | rfl | (simp; done))) | (with_reducible apply blk_alloc) | (focus ((with_reducible apply blk_far); rotate_left; first | omega | (dsimp only; omega))) | (with_reducible apply blk_set))); all_goals rfl)
      · (apply via; (focus (repeat first | (with_reducible assumption) | (with_reducible apply blk_drew) | (with_reducible apply blk_drewN) | (focus ((with_reducible apply blk_new_at); first | rfl | (simp; done))) | (with_reducible apply blk_alloc) | (focus ((with_reducible apply blk_far); rotate_left; first | omega | (dsimp only; omega))) | (with_reducible apply blk_set))); all_goals rfl)
      · (repeat first | (with_reducible assumption) | (with_reducible exact Below.refl _ _) | (with_reducible refine Below.drew ?_) | ((with_reducible refine Below.alloc ?_ ?_ _); rotate_left; first | omega | (focus (simp; done)) | (focus (simp; omega))) | ((with_reducible refine Below.setCell ?_ ?_ _); rotate_left; first | omega | (dsimp only; omega)))
    case hg2 =>
      rintro W2 ⟨r1, r2, hB2⟩
      refine bodyPost_ret (results_cc rfl _ _ (w.heap.size + 1) (w.heap.size + 1 + 1) 24 27 _ _ (0, 0) (0, 0) _ _ rfl r1 Try.underlying24 rfl (by kernel_rfl) rfl r2 Try.underlying27 rfl (by kernel_rfl)) rfl ?_
      exact ⟨rfl, hB2⟩
set_option maxHeartbeats 8000000 in
set_option maxRecDepth 100000 in
theorem lcd_Step.ph (k : Nat) (a0_1 a0_2 a0_3 a0_4 : Int) (a0_5 : Bool) (a0_6 a1 : Int) (w : World) (c1 : ¬ a0_2 < 455) (c5 : a0_1 < 153) (c2 : ¬ ((a0_1 + 1) % 256) < 144) (c3 : (((a0_1 + 1) % 256) == 144) = false) (q1 q6 q8 : Bool) (q2 q3 q4 q5 q7 : Int)
    (H : lcd_heard.f k true ((a0_1 + 1) % 256) 0 a0_3 a0_4 a0_5 a0_6 = some (q1, q2, q3, q4, q5, q6, q7, q8)) :
    Calls Try.prog 12 #[.agg #[.bool true, .int .u8 a0_1, .int .u16 a0_2, .int .u8 a0_3, .int .u8 a0_4, .bool a0_5, .int .u16 a0_6], .int .u16 a1] w fun e w' => e = .returned (.tuple #[.agg #[.bool q1, .int .u8 q2, .int .u16 q3, .int .u8 q4, .int .u8 q5, .bool q6, .int .u16 q7], .agg #[.bool false, .bool q8, .bool false]]) ∧ Below w.heap.size w w' := by
  have HH := Aside0.mk H
  clear H
  go_enter Try.func12, Try.ntmps12
  go_wp2_with fail
  refine (lcd_heard.calls k _ _ _ _ _ _ _ _ _ _ _ _ _ _ _ _ HH.out).mono ?_
  rintro e w2 ⟨rfl, hb⟩
  have k0 : w2.heap[w.heap.size]? = some (.cells #[.bool true, .int .u8 ((a0_1 + 1) % 256), .int .u16 0, .int .u8 a0_3, .int .u8 a0_4, .bool a0_5, .int .u16 a0_6] 24 (0, 0)) := blk_below (by (apply via; (focus (repeat first | (with_reducible assumption) | (with_reducible apply blk_drew) | (with_reducible apply blk_drewN) | (focus ((with_reducible apply blk_new_at); first | rfl | (simp; done))) | (with_reducible apply blk_alloc) | (focus ((with_reducible apply blk_far); rotate_left; first | omega | (dsimp only; omega))) | (with_reducible apply blk_set))); all_goals rfl)) hb
  have k1 : w2.heap[w.heap.size + 1]? = some (.cells #[.bool false, .int .u8 0, .int .u16 0, .int .u8 0, .int .u8 0, .bool false, .int .u16 0] 24 (0, 0)) := blk_below (by (apply via; (focus (repeat first | (with_reducible assumption) | (with_reducible apply blk_drew) | (with_reducible apply blk_drewN) | (focus ((with_reducible apply blk_new_at); first | rfl | (simp; done))) | (with_reducible apply blk_alloc) | (focus ((with_reducible apply blk_far); rotate_left; first | omega | (dsimp only; omega))) | (with_reducible apply blk_set))); all_goals rfl)) hb
  have k2 : w2.heap[w.heap.size + 1 + 1]? = some (.cells #[.bool false, .bool false, .bool false] 27 (0, 0)) := blk_below (by (apply via; (focus (repeat first | (with_reducible assumption) | (with_reducible apply blk_drew) | (with_reducible apply blk_drewN) | (focus ((with_reducible apply blk_new_at); first | rfl | (simp; done))) | (with_reducible apply blk_alloc) | (focus ((with_reducible apply blk_far); rotate_left; first | omega | (dsimp only; omega))) | (with_reducible apply blk_set))); all_goals rfl)) hb
  have k3 : w2.heap[w.heap.size + 1 + 1 + 1]? = some (.cells #[.bool false, .bool false, .bool false] 27 (0, 0)) := blk_below (by (apply via; (focus (repeat first | (with_reducible assumption) | (with_reducible apply blk_drew) | (with_reducible apply blk_drewN) | (focus ((with_reducible apply blk_new_at); first | rfl | (simp; done))) | (with_reducible apply blk_alloc) | (focus ((with_reducible apply blk_far); rotate_left; first | omega | (dsimp only; omega))) | (with_reducible apply blk_set))); all_goals rfl)) hb
  have kB : Below w.heap.size w w2 := below_step (by (repeat first | (with_reducible assumption) | (with_reducible exact Below.refl _ _) | (with_reducible refine Below.drew ?_) | ((with_reducible refine Below.alloc ?_ ?_ _); rotate_left; first | omega | (focus (simp; done)) | (focus (simp; omega))) | ((with_reducible refine Below.setCell ?_ ?_ _); rotate_left; first | omega | (dsimp only; omega)))) hb
  clear hb
  have y0_0 := blk_cell k0 0
  have y0_1 := blk_cell k0 1
  have y0_2 := blk_cell k0 2
  have y0_3 := blk_cell k0 3
  have y0_4 := blk_cell k0 4
  have y0_5 := blk_cell k0 5
  have y0_6 := blk_cell k0 6
  have y3_0 := blk_cell k3 0
  have y3_1 := blk_cell k3 1
  have y3_2 := blk_cell k3 2
  simp only [List.getElem?_toArray, List.getElem?_cons_zero, List.getElem?_cons_succ] at y0_0 y0_1 y0_2 y0_3 y0_4 y0_5 y0_6 y3_0 y3_1 y3_2
  have u0 := fun i => blk_frozen k0 i
  have u3 := fun i => blk_frozen k3 i
  have K0 := Aside0.mk (And.intro k0 (And.intro k1 (And.intro k2 (And.intro k3 kB))))
  clear k0 k1 k2 k3 kB
  go_wp2
  refine at_world _ (fun W => W.heap[w.heap.size]? = some (.cells #[.bool q1, .int .u8 q2, .int .u16 q3, .int .u8 q4, .int .u8 q5, .bool q6, .int .u16 q7] 24 (0, 0)) ∧ W.heap[w.heap.size + 1]? = some (.cells #[.bool false, .int .u8 0, .int .u16 0, .int .u8 0, .int .u8 0, .bool false, .int .u16 0] 24 (0, 0)) ∧ W.heap[w.heap.size + 1 + 1]? = some (.cells #[.bool false, .bool false, .bool false] 27 (0, 0)) ∧ W.heap[w.heap.size + 1 + 1 + 1]? = some (.cells #[.bool false, .bool q8, .bool false] 27 (0, 0)) ∧ Below w.heap.size w W) ?hfacts ?hgo
  case hfacts =>
    clear y0_0 y0_1 y0_2 y0_3 y0_4 y0_5 y0_6 y3_0 y3_1 y3_2 u0 u3
    obtain ⟨k0, k1, k2, k3, kB⟩ := K0.out
    refine ⟨?_, ?_, ?_, ?_, ?_⟩
    · (apply via; (focus (repeat first | (with_reducible assumption) | (with_reducible apply blk_drew) | (with_reducible apply blk_drewN) | (focus ((with_reducible apply blk_new_at); first | rfl | (simp; done))) | (with_reducible apply blk_alloc) | (focus ((with_reducible apply blk_far); rotate_left; first | omega | (dsimp only; omega))) | (with_reducible apply blk_set))); all_goals rfl)
    · (apply via; (focus (repeat first | (with_reducible assumption) | (with_reducible apply blk_drew) | (with_reducible apply blk_drewN) | (focus ((with_reducible apply blk_new_at); first | rfl | (simp; done))) | (with_reducible apply blk_alloc) | (focus ((with_reducible apply blk_far); rotate_left; first | omega | (dsimp only; omega))) | (with_reducible apply blk_set))); all_goals rfl)
    · (apply via; (focus (repeat first | (with_reducible assumption) | (with_reducible apply blk_drew) | (with_reducible apply blk_drewN) | (focus ((with_reducible apply blk_new_at); first | rfl | (simp; done))) | (with_reducible apply blk_alloc) | (focus ((with_reducible apply blk_far); rotate_left; first | omega | (dsimp only; omega))) | (with_reducible apply blk_set))); all_goals rfl)
    · (apply via; (focus (repeat first | (with_reducible assumption) | (with_reducible apply blk_drew) | (with_reducible apply blk_drewN) | (focus ((with_reducible apply blk_new_at); first | rfl | (simp; done))) | (with_reducible apply blk_alloc) | (focus ((with_reducible apply blk_far); rotate_left; first | omega | (dsimp only; omega))) | (with_reducible apply blk_set))); all_goals rfl)
    · (repeat first | (with_reducible assumption) | (with_reducible exact Below.refl _ _) | (with_reducible refine Below.drew ?_) | ((with_reducible refine Below.alloc ?_ ?_ _); rotate_left; first | omega | (focus (simp; done)) | (focus (simp; omega))) | ((with_reducible refine Below.setCell ?_ ?_ _); rotate_left; first | omega | (dsimp only; omega)))
  case hgo =>
    rintro W ⟨b0, b1, b2, b3, hB⟩
    have c0_0 := blk_cell b0 0
    have c0_1 := blk_cell b0 1
    have c0_2 := blk_cell b0 2
    have c0_3 := blk_cell b0 3
    have c0_4 := blk_cell b0 4
    have c0_5 := blk_cell b0 5
    have c0_6 := blk_cell b0 6
    have c1_0 := blk_cell b1 0
    have c1_1 := blk_cell b1 1
    have c1_2 := blk_cell b1 2
    have c1_3 := blk_cell b1 3
    have c1_4 := blk_cell b1 4
    have c1_5 := blk_cell b1 5
    have c1_6 := blk_cell b1 6
    have c2_0 := blk_cell b2 0
    have c2_1 := blk_cell b2 1
    have c2_2 := blk_cell b2 2
    have c3_0 := blk_cell b3 0
    have c3_1 := blk_cell b3 1
    have c3_2 := blk_cell b3 2
    simp only [List.getElem?_toArray, List.getElem?_cons_zero, List.getElem?_cons_succ] at c0_0 c0_1 c0_2 c0_3 c0_4 c0_5 c0_6 c1_0 c1_1 c1_2 c1_3 c1_4 c1_5 c1_6 c2_0 c2_1 c2_2 c3_0 c3_1 c3_2
    have f1 := fun i => blk_frozen b1 i
    have f2 := fun i => blk_frozen b2 i
    have B0 := Aside0.mk (And.intro b0 (And.intro b1 (And.intro b2 b3)))
    clear b0 b1 b2 b3 y0_0 y0_1 y0_2 y0_3 y0_4 y0_5 y0_6 y3_0 y3_1 y3_2 u0 u3
    go_region
    all_goals go_wp2
    refine at_end _ (fun W2 => W2.heap[w.heap.size + 1]? = some (.cells #[.bool q1, .int .u8 q2, .int .u16 q3, .int .u8 q4, .int .u8 q5, .bool q6, .int .u16 q7] 24 (0, 0)) ∧ W2.heap[w.heap.size + 1 + 1]? = some (.cells #[.bool false, .bool q8, .bool false] 27 (0, 0)) ∧ Below w.heap.size w W2) ?hf2 ?hg2
    case hf2 =>
      clear c0_0 c0_1 c0_2 c0_3 c0_4 c0_5 c0_6 c1_0 c1_1 c1_2 c1_3 c1_4 c1_5 c1_6 c2_0 c2_1 c2_2 c3_0 c3_1 c3_2 f1 f2
      obtain ⟨b0, b1, b2, b3⟩ := B0.out
      refine ⟨?_, ?_, ?_⟩
      · (apply via; (focus (repeat first | (with_reducible assumption) | (with_reducible apply blk_drew) | (with_reducible apply blk_drewN) | (focus ((with_reducible apply blk_new_at); first | rfl | (simp; done))) | (with_reducible apply blk_alloc) | (focus ((with_reducible apply blk_far); rotate_left; first | omega | (dsimp only; omega))) | (with_reducible apply blk_set))); all_goals rfl)
      · (apply via; (focus (repeat first | (with_reducible assumption) | (with_reducible apply blk_drew) | (with_reducible apply blk_drewN) | (focus ((with_reducible apply blk_new_at); first | rfl | (simp; done))) | (with_reducible apply blk_alloc) | (focus ((with_reducible apply blk_far); rotate_left; first | omega | (dsimp only; omega))) | (with_reducible apply blk_set))); all_goals rfl)
      · (repeat first | (with_reducible assumption) | (with_reducible exact Below.refl _ _) | (with_reducible refine Below.drew ?_) | ((with_reducible refine Below.alloc ?_ ?_ _); rotate_left; first | omega | (focus (simp; done)) | (focus (simp; omega))) | ((with_reducible refine Below.setCell ?_ ?_ _); rotate_left; first | omega | (dsimp only; omega)))
    case hg2 =>
      rintro W2 ⟨r1, r2, hB2⟩
      refine bodyPost_ret (results_cc rfl _ _ (w.heap.size + 1) (w.heap.size + 1 + 1) 24 27 _ _ (0, 0) (0, 0) _ _ rfl r1 Try.underlying24 rfl (by kernel_rfl) rfl r2 Try.underlying27 rfl (by kernel_rfl)) rfl ?_
      exact ⟨rfl, hB2⟩
set_option maxHeartbeats 8000000 in
set_option maxRecDepth 100000 in
theorem lcd_Step.pi (k : Nat) (a0_1 a0_2 a0_3 a0_4 : Int) (a0_5 : Bool) (a0_6 a1 : Int) (w : World) (c1 : ¬ a0_2 < 455) (c5 : ¬ a0_1 < 153) (q1 q6 q8 : Bool) (q2 q3 q4 q5 q7 : Int)
    (H : lcd_heard.f k true 0 0 a0_3 a0_4 a0_5 a0_6 = some (q1, q2, q3, q4, q5, q6, q7, q8)) :
    Calls Try.prog 12 #[.agg #[.bool true, .int .u8 a0_1, .int .u16 a0_2, .int .u8 a0_3, .int .u8 a0_4, .bool a0_5, .int .u16 a0_6], .int .u16 a1] w fun e w' => e = .returned (.tuple #[.agg #[.bool q1, .int .u8 q2, .int .u16 q3, .int .u8 q4, .int .u8 q5, .bool q6, .int .u16 q7], .agg #[.bool false, .bool q8, .bool false]]) ∧ Below w.heap.size w w' := by
  have HH := Aside0.mk H
  clear H
  go_enter Try.func12, Try.ntmps12
  go_wp2_with fail
  refine (lcd_heard.calls k _ _ _ _ _ _ _ _ _ _ _ _ _ _ _ _ HH.out).mono ?_
  rintro e w2 ⟨rfl, hb⟩
  have k0 : w2.heap[w.heap.size]? = some (.cells #[.bool true, .int .u8 0, .int .u16 0, .int .u8 a0_3, .int .u8 a0_4, .bool a0_5, .int .u16 a0_6] 24 (0, 0)) := blk_below (by (apply via; (focus (repeat first | (with_reducible assumption) | (with_reducible apply blk_drew) | (with_reducible apply blk_drewN) | (focus ((with_reducible apply blk_new_at); first | rfl | (simp; done))) | (with_reducible apply blk_alloc) | (focus ((with_reducible apply blk_far); rotate_left; first | omega | (dsimp only; omega))) | (with_reducible apply blk_set))); all_goals rfl)) hb
  have k1 : w2.heap[w.heap.size + 1]? = some (.cells #[.bool false, .int .u8 0, .int .u16 0, .int .u8 0, .int .u8 0, .bool false, .int .u16 0] 24 (0, 0)) := blk_below (by (apply via; (focus (repeat first | (with_reducible assumption) | (with_reducible apply blk_drew) | (with_reducible apply blk_drewN) | (focus ((with_reducible apply blk_new_at); first | rfl | (simp; done))) | (with_reducible apply blk_alloc) | (focus ((with_reducible apply blk_far); rotate_left; first | omega | (dsimp only; omega))) | (with_reducible apply blk_set))); all_goals rfl)) hb
  have k2 : w2.heap[w.heap.size + 1 + 1]? = some (.cells #[.bool false, .bool false, .bool false] 27 (0, 0)) := blk_below (by (apply via; (focus (repeat first | (with_reducible assumption) | (with_reducible apply blk_drew) | (with_reducible apply blk_drewN) | (focus ((with_reducible apply blk_new_at); first | rfl | (simp; done))) | (with_reducible apply blk_alloc) | (focus ((with_reducible apply blk_far); rotate_left; first | omega | (dsimp only; omega))) | (with_reducible apply blk_set))); all_goals rfl)) hb
  have k3 : w2.heap[w.heap.size + 1 + 1 + 1]? = some (.cells #[.bool false, .bool false, .bool false] 27 (0, 0)) := blk_below (by (apply via; (focus (repeat first | (with_reducible assumption) | (with_reducible apply blk_drew) | (with_reducible apply blk_drewN) | (focus ((with_reducible apply blk_new_at); first | rfl | (simp; done))) | (with_reducible apply blk_alloc) | (focus ((with_reducible apply blk_far); rotate_left; first | omega | (dsimp only; omega))) | (with_reducible apply blk_set))); all_goals rfl)) hb
  have kB : Below w.heap.size w w2 := below_step (by (repeat first | (with_reducible assumption) | (with_reducible exact Below.refl _ _) | (with_reducible refine Below.drew ?_) | ((with_reducible refine Below.alloc ?_ ?_ _); rotate_left; first | omega | (focus (simp; done)) | (focus (simp; omega))) | ((with_reducible refine Below.setCell ?_ ?_ _); rotate_left; first | omega | (dsimp only; omega)))) hb
  clear hb
  have y0_0 := blk_cell k0 0
  have y0_1 := blk_cell k0 1
  have y0_2 := blk_cell k0 2
  have y0_3 := blk_cell k0 3
  have y0_4 := blk_cell k0 4
  have y0_5 := blk_cell k0 5
  have y0_6 := blk_cell k0 6
  have y3_0 := blk_cell k3 0
  have y3_1 := blk_cell k3 1
  have y3_2 := blk_cell k3 2
  simp only [List.getElem?_toArray, List.getElem?_cons_zero, List.getElem?_cons_succ] at y0_0 y0_1 y0_2 y0_3 y0_4 y0_5 y0_6 y3_0 y3_1 y3_2
  have u0 := fun i => blk_frozen k0 i
  have u3 := fun i => blk_frozen k3 i
  have K0 := Aside0.mk (And.intro k0 (And.intro k1 (And.intro k2 (And.intro k3 kB))))
  clear k0 k1 k2 k3 kB
  go_wp2
  refine at_world _ (fun W => W.heap[w.heap.size]? = some (.cells #[.bool q1, .int .u8 q2, .int .u16 q3, .int .u8 q4, .int .u8 q5, .bool q6, .int .u16 q7] 24 (0, 0)) ∧ W.heap[w.heap.size + 1]? = some (.cells #[.bool false, .int .u8 0, .int .u16 0, .int .u8 0, .int .u8 0, .bool false, .int .u16 0] 24 (0, 0)) ∧ W.heap[w.heap.size + 1 + 1]? = some (.cells #[.bool false, .bool false, .bool false] 27 (0, 0)) ∧ W.heap[w.heap.size + 1 + 1 + 1]? = some (.cells #[.bool false, .bool q8, .bool false] 27 (0, 0)) ∧ Below w.heap.size w W) ?hfacts ?hgo
  case hfacts =>
    clear y0_0 y0_1 y0_2 y0_3 y0_4 y0_5 y0_6 y3_0 y3_1 y3_2 u0 u3
    obtain ⟨k0, k1, k2, k3, kB⟩ := K0.out
    refine ⟨?_, ?_, ?_, ?_, ?_⟩
    · (apply via; (focus (repeat first | (with_reducible assumption) | (with_reducible apply blk_drew) | (with_reducible apply blk_drewN) | (focus ((with_reducible apply blk_new_at); first | rfl | (simp; done))) | (with_reducible apply blk_alloc) | (focus ((with_reducible apply blk_far); rotate_left; first | omega | (dsimp only; omega))) | (with_reducible apply blk_set))); all_goals rfl)
    · (apply via; (focus (repeat first | (with_reducible assumption) | (with_reducible apply blk_drew) | (with_reducible apply blk_drewN) | (focus ((with_reducible apply blk_new_at); first | rfl | (simp; done))) | (with_reducible apply blk_alloc) | (focus ((with_reducible apply blk_far); rotate_left; first | omega | (dsimp only; omega))) | (with_reducible apply blk_set))); all_goals rfl)
    · (apply via; (focus (repeat first | (with_reducible assumption) | (with_reducible apply blk_drew) | (with_reducible apply blk_drewN) | (focus ((with_reducible apply blk_new_at); first | rfl | (simp; done))) | (with_reducible apply blk_alloc) | (focus ((with_reducible apply blk_far); rotate_left; first | omega | (dsimp only; omega))) | (with_reducible apply blk_set))); all_goals rfl)
    · (apply via; (focus (repeat first | (with_reducible assumption) | (with_reducible apply blk_drew) | (with_reducible apply blk_drewN) | (focus ((with_reducible apply blk_new_at); first | rfl | (simp; done))) | (with_reducible apply blk_alloc) | (focus ((with_reducible apply blk_far); rotate_left; first | omega | (dsimp only; omega))) | (with_reducible apply blk_set))); all_goals rfl)
    · (repeat first | (with_reducible assumption) | (with_reducible exact Below.refl _ _) | (with_reducible refine Below.drew ?_) | ((with_reducible refine Below.alloc ?_ ?_ _); rotate_left; first | omega | (focus (simp; done)) | (focus (simp; omega))) | ((with_reducible refine Below.setCell ?_ ?_ _); rotate_left; first | omega | (dsimp only; omega)))
  case hgo =>
    rintro W ⟨b0, b1, b2, b3, hB⟩
    have c0_0 := blk_cell b0 0
    have c0_1 := blk_cell b0 1
    have c0_2 := blk_cell b0 2
    have c0_3 := blk_cell b0 3
    have c0_4 := blk_cell b0 4
    have c0_5 := blk_cell b0 5
    have c0_6 := blk_cell b0 6
    have c1_0 := blk_cell b1 0
    have c1_1 := blk_cell b1 1
    have c1_2 := blk_cell b1 2
    have c1_3 := blk_cell b1 3
    have c1_4 := blk_cell b1 4
    have c1_5 := blk_cell b1 5
    have c1_6 := blk_cell b1 6
    have c2_0 := blk_cell b2 0
    have c2_1 := blk_cell b2 1
    have c2_2 := blk_cell b2 2
    have c3_0 := blk_cell b3 0
    have c3_1 := blk_cell b3 1
    have c3_2 := blk_cell b3 2
    simp only [List.getElem?_toArray, List.getElem?_cons_zero, List.getElem?_cons_succ] at c0_0 c0_1 c0_2 c0_3 c0_4 c0_5 c0_6 c1_0 c1_1 c1_2 c1_3 c1_4 c1_5 c1_6 c2_0 c2_1 c2_2 c3_0 c3_1 c3_2
    have f1 := fun i => blk_frozen b1 i
    have f2 := fun i => blk_frozen b2 i
    have B0 := Aside0.mk (And.intro b0 (And.intro b1 (And.intro b2 b3)))
    clear b0 b1 b2 b3 y0_0 y0_1 y0_2 y0_3 y0_4 y0_5 y0_6 y3_0 y3_1 y3_2 u0 u3
    go_region
    all_goals go_wp2
    refine at_end _ (fun W2 => W2.heap[w.heap.size + 1]? = some (.cells #[.bool q1, .int .u8 q2, .int .u16 q3, .int .u8 q4, .int .u8 q5, .bool q6, .int .u16 q7] 24 (0, 0)) ∧ W2.heap[w.heap.size + 1 + 1]? = some (.cells #[.bool false, .bool q8, .bool false] 27 (0, 0)) ∧ Below w.heap.size w W2) ?hf2 ?hg2
    case hf2 =>
      clear c0_0 c0_1 c0_2 c0_3 c0_4 c0_5 c0_6 c1_0 c1_1 c1_2 c1_3 c1_4 c1_5 c1_6 c2_0 c2_1 c2_2 c3_0 c3_1 c3_2 f1 f2
      obtain ⟨b0, b1, b2, b3⟩ := B0.out
      refine ⟨?_, ?_, ?_⟩
      · (apply via; (focus (repeat first | (with_reducible assumption) | (with_reducible apply blk_drew) | (with_reducible apply blk_drewN) | (focus ((with_reducible apply blk_new_at); first | rfl | (simp; done))) | (with_reducible apply blk_alloc) | (focus ((with_reducible apply blk_far); rotate_left; first | omega | (dsimp only; omega))) | (with_reducible apply blk_set))); all_goals rfl)
      · (apply via; (focus (repeat first | (with_reducible assumption) | (with_reducible apply blk_drew) | (with_reducible apply blk_drewN) | (focus ((with_reducible apply blk_new_at); first | rfl | (simp; done))) | (with_reducible apply blk_alloc) | (focus ((with_reducible apply blk_far); rotate_left; first | omega | (dsimp only; omega))) | (with_reducible apply blk_set))); all_goals rfl)
      · (repeat first | (with_reducible assumption) | (with_reducible exact Below.refl _ _) | (with_reducible refine Below.drew ?_) | ((with_reducible refine Below.alloc ?_ ?_ _); rotate_left; first | omega | (focus (simp; done)) | (focus (simp; omega))) | ((with_reducible refine Below.setCell ?_ ?_ _); rotate_left; first | omega | (dsimp only; omega)))
    case hg2 =>
      rintro W2 ⟨r1, r2, hB2⟩
      refine bodyPost_ret (results_cc rfl _ _ (w.heap.size + 1) (w.heap.size + 1 + 1) 24 27 _ _ (0, 0) (0, 0) _ _ rfl r1 Try.underlying24 rfl (by kernel_rfl) rfl r2 Try.underlying27 rfl (by kernel_rfl)) rfl ?_
      exact ⟨rfl, hB2⟩
set_option maxHeartbeats 8000000 in
set_option maxRecDepth 100000 in
theorem lcd_Step.po (a0_1 a0_2 a0_3 a0_4 : Int) (a0_5 : Bool) (a0_6 a1 : Int) (w : World) :
    Calls Try.prog 12 #[.agg #[.bool false, .int .u8 a0_1, .int .u16 a0_2, .int .u8 a0_3, .int .u8 a0_4, .bool a0_5, .int .u16 a0_6], .int .u16 a1] w fun e w' => e = .returned (.tuple #[.agg #[.bool false, .int .u8 a0_1, .int .u16 a0_2, .int .u8 a0_3, .int .u8 a0_4, .bool a0_5, .int .u16 a0_6], .agg #[.bool false, .bool false, .bool false]]) ∧ Below w.heap.size w w' := by
  go_enter Try.func12, Try.ntmps12
  go_wp2
  refine at_world _ (fun W => W.heap[w.heap.size]? = some (.cells #[.bool false, .int .u8 a0_1, .int .u16 a0_2, .int .u8 a0_3, .int .u8 a0_4, .bool a0_5, .int .u16 a0_6] 24 (0, 0)) ∧ W.heap[w.heap.size + 1]? = some (.cells #[.bool false, .int .u8 0, .int .u16 0, .int .u8 0, .int .u8 0, .bool false, .int .u16 0] 24 (0, 0)) ∧ W.heap[w.heap.size + 1 + 1]? = some (.cells #[.bool false, .bool false, .bool false] 27 (0, 0)) ∧ W.heap[w.heap.size + 1 + 1 + 1]? = some (.cells #[.bool false, .bool false, .bool false] 27 (0, 0)) ∧ Below w.heap.size w W) ?hfacts ?hgo
  case hfacts =>
    refine ⟨?_, ?_, ?_, ?_, ?_⟩
    · (apply via; (focus (repeat first | (with_reducible assumption) | (with_reducible apply blk_drew) | (with_reducible apply blk_drewN) | (focus ((with_reducible apply blk_new_at); first | rfl | (simp; done))) | (with_reducible apply blk_alloc) | (focus ((with_reducible apply blk_far); rotate_left; first | omega | (dsimp only; omega))) | (with_reducible apply blk_set))); all_goals rfl)
    · (apply via; (focus (repeat first | (with_reducible assumption) | (with_reducible apply blk_drew) | (with_reducible apply blk_drewN) | (focus ((with_reducible apply blk_new_at); first | rfl | (simp; done))) | (with_reducible apply blk_alloc) | (focus ((with_reducible apply blk_far); rotate_left; first | omega | (dsimp only; omega))) | (with_reducible apply blk_set))); all_goals rfl)
    · (apply via; (focus (repeat first | (with_reducible assumption) | (with_reducible apply blk_drew) | (with_reducible apply blk_drewN) | (focus ((with_reducible apply blk_new_at); first | rfl | (simp; done))) | (with_reducible apply blk_alloc) | (focus ((with_reducible apply blk_far); rotate_left; first | omega | (dsimp only; omega))) | (with_reducible apply blk_set))); all_goals rfl)
    · (apply via; (focus (repeat first | (with_reducible assumption) | (with_reducible apply blk_drew) | (with_reducible apply blk_drewN) | (focus ((with_reducible apply blk_new_at); first | rfl | (simp; done))) | (with_reducible apply blk_alloc) | (focus ((with_reducible apply blk_far); rotate_left; first | omega | (dsimp only; omega))) | (with_reducible apply blk_set))); all_goals rfl)
    · (repeat first | (with_reducible assumption) | (with_reducible exact Below.refl _ _) | (with_reducible refine Below.drew ?_) | ((with_reducible refine Below.alloc ?_ ?_ _); rotate_left; first | omega | (focus (simp; done)) | (focus (simp; omega))) | ((with_reducible refine Below.setCell ?_ ?_ _); rotate_left; first | omega | (dsimp only; omega)))
  case hgo =>
    rintro W ⟨b0, b1, b2, b3, hB⟩
    have c0_0 := blk_cell b0 0
    have c0_1 := blk_cell b0 1
    have c0_2 := blk_cell b0 2
    have c0_3 := blk_cell b0 3
    have c0_4 := blk_cell b0 4
    have c0_5 := blk_cell b0 5
    have c0_6 := blk_cell b0 6
    have c1_0 := blk_cell b1 0
    have c1_1 := blk_cell b1 1
    have c1_2 := blk_cell b1 2
    have c1_3 := blk_cell b1 3
    have c1_4 := blk_cell b1 4
    have c1_5 := blk_cell b1 5
    have c1_6 := blk_cell b1 6
    have c2_0 := blk_cell b2 0
    have c2_1 := blk_cell b2 1
    have c2_2 := blk_cell b2 2
    have c3_0 := blk_cell b3 0
    have c3_1 := blk_cell b3 1
    have c3_2 := blk_cell b3 2
    simp only [List.getElem?_toArray, List.getElem?_cons_zero, List.getElem?_cons_succ] at c0_0 c0_1 c0_2 c0_3 c0_4 c0_5 c0_6 c1_0 c1_1 c1_2 c1_3 c1_4 c1_5 c1_6 c2_0 c2_1 c2_2 c3_0 c3_1 c3_2
    have f1 := fun i => blk_frozen b1 i
    have f2 := fun i => blk_frozen b2 i
    have B0 := Aside0.mk (And.intro b0 (And.intro b1 (And.intro b2 b3)))
    clear b0 b1 b2 b3
    go_region
    all_goals go_wp2
    refine at_end _ (fun W2 => W2.heap[w.heap.size + 1]? = some (.cells #[.bool false, .int .u8 a0_1, .int .u16 a0_2, .int .u8 a0_3, .int .u8 a0_4, .bool a0_5, .int .u16 a0_6] 24 (0, 0)) ∧ W2.heap[w.heap.size + 1 + 1]? = some (.cells #[.bool false, .bool false, .bool false] 27 (0, 0)) ∧ Below w.heap.size w W2) ?hf2 ?hg2
    case hf2 =>
      clear c0_0 c0_1 c0_2 c0_3 c0_4 c0_5 c0_6 c1_0 c1_1 c1_2 c1_3 c1_4 c1_5 c1_6 c2_0 c2_1 c2_2 c3_0 c3_1 c3_2 f1 f2
      obtain ⟨b0, b1, b2, b3⟩ := B0.out
      refine ⟨?_, ?_, ?_⟩
      · (apply via; (focus (repeat first | (with_reducible assumption) | (with_reducible apply blk_drew) | (with_reducible apply blk_drewN) | (focus ((with_reducible apply blk_new_at); first | rfl | (simp; done))) | (with_reducible apply blk_alloc) | (focus ((with_reducible apply blk_far); rotate_left; first | omega | (dsimp only; omega))) | (with_reducible apply blk_set))); all_goals rfl)
      · (apply via; (focus (repeat first | (with_reducible assumption) | (with_reducible apply blk_drew) | (with_reducible apply blk_drewN) | (focus ((with_reducible apply blk_new_at); first | rfl | (simp; done))) | (with_reducible apply blk_alloc) | (focus ((with_reducible apply blk_far); rotate_left; first | omega | (dsimp only; omega))) | (with_reducible apply blk_set))); all_goals rfl)
      · (repeat first | (with_reducible assumption) | (with_reducible exact Below.refl _ _) | (with_reducible refine Below.drew ?_) | ((with_reducible refine Below.alloc ?_ ?_ _); rotate_left; first | omega | (focus (simp; done)) | (focus (simp; omega))) | ((with_reducible refine Below.setCell ?_ ?_ _); rotate_left; first | omega | (dsimp only; omega)))
    case hg2 =>
      rintro W2 ⟨r1, r2, hB2⟩
      refine bodyPost_ret (results_cc rfl _ _ (w.heap.size + 1) (w.heap.size + 1 + 1) 24 27 _ _ (0, 0) (0, 0) _ _ rfl r1 Try.underlying24 rfl (by kernel_rfl) rfl r2 Try.underlying27 rfl (by kernel_rfl)) rfl ?_
      exact ⟨rfl, hB2⟩
set_option maxRecDepth 100000 in
theorem lcd_Step.calls (k : Nat) (a0_0 : Bool) (a0_1 : Int) (a0_2 : Int) (a0_3 : Int) (a0_4 : Int) (a0_5 : Bool) (a0_6 : Int) (a1 : Int) (r1 : Bool) (r2 : Int) (r3 : Int) (r4 : Int) (r5 : Int) (r6 : Bool) (r7 : Int) (r8 : Bool) (r9 : Bool) (r10 : Bool) (w : World) (h : lcd_Step.f k a0_0 a0_1 a0_2 a0_3 a0_4 a0_5 a0_6 a1 = some (r1, r2, r3, r4, r5, r6, r7, r8, r9, r10)) :
    Calls Try.prog 12 #[.agg #[.bool a0_0, .int .u8 a0_1, .int .u16 a0_2, .int .u8 a0_3, .int .u8 a0_4, .bool a0_5, .int .u16 a0_6], .int .u16 a1] w fun e w' => e = .returned (.tuple #[.agg #[.bool r1, .int .u8 r2, .int .u16 r3, .int .u8 r4, .int .u8 r5, .bool r6, .int .u16 r7], .agg #[.bool r8, .bool r9, .bool r10]]) ∧ Below w.heap.size w w' := by
  unfold lcd_Step.f at h
  cases a0_0 with
  | false =>
    rw [if_neg (by simp)] at h
    simp only [Option.some.injEq, Prod.mk.injEq] at h
    obtain ⟨rfl, rfl, rfl, rfl, rfl, rfl, rfl, rfl, rfl, rfl⟩ := h
    exact lcd_Step.po a0_1 a0_2 a0_3 a0_4 a0_5 a0_6 a1 w
  | true =>
    rw [if_pos rfl] at h
    by_cases c1 : a0_2 < 455
    · rw [if_pos c1] at h
      by_cases c2 : a0_1 < 144
      · rw [if_pos c2] at h
        by_cases c3 : ((IntKind.u16.wrap (a0_2 + 1)) == 80) = true
        · rw [if_pos c3] at h
          by_cases c4 : 200 < a1
          · rw [if_pos c4] at h
            obtain ⟨hq, rfl, rfl⟩ := lcd_Step.tail_some h
            exact lcd_Step.pa k a0_1 a0_2 a0_3 a0_4 a0_5 a0_6 a1 w c1 c2 c3 c4 r1 r6 r9 r2 r3 r4 r5 r7 hq
          · rw [if_neg c4] at h
            obtain ⟨hq, rfl, rfl⟩ := lcd_Step.tail_some h
            exact lcd_Step.pb k a0_1 a0_2 a0_3 a0_4 a0_5 a0_6 a1 w c1 c2 c3 c4 r1 r6 r9 r2 r3 r4 r5 r7 hq
        · rw [if_neg c3] at h
          replace c3 := Bool.eq_false_iff.mpr c3
          obtain ⟨hq, rfl, rfl⟩ := lcd_Step.tail_some h
          exact lcd_Step.pc k a0_1 a0_2 a0_3 a0_4 a0_5 a0_6 a1 w c1 c2 c3 r1 r6 r9 r2 r3 r4 r5 r7 hq
      · rw [if_neg c2] at h
        by_cases c3 : (a0_1 == 144) = true
        · rw [if_pos c3] at h
          obtain ⟨hq, rfl, rfl⟩ := lcd_Step.tail_some h
          exact lcd_Step.pd k a0_1 a0_2 a0_3 a0_4 a0_5 a0_6 a1 w c1 c2 c3 r1 r6 r9 r2 r3 r4 r5 r7 hq
        · rw [if_neg c3] at h
          replace c3 := Bool.eq_false_iff.mpr c3
          obtain ⟨hq, rfl, rfl⟩ := lcd_Step.tail_some h
          exact lcd_Step.pe k a0_1 a0_2 a0_3 a0_4 a0_5 a0_6 a1 w c1 c2 c3 r1 r6 r9 r2 r3 r4 r5 r7 hq
    · rw [if_neg c1] at h
      by_cases c5 : a0_1 < 153
      · rw [if_pos c5] at h
        by_cases c2 : ((a0_1 + 1) % 256) < 144
        · rw [if_pos c2] at h
          obtain ⟨hq, rfl, rfl⟩ := lcd_Step.tail_some h
          exact lcd_Step.pf k a0_1 a0_2 a0_3 a0_4 a0_5 a0_6 a1 w c1 c5 c2 r1 r6 r9 r2 r3 r4 r5 r7 hq
        · rw [if_neg c2] at h
          by_cases c3 : (((a0_1 + 1) % 256) == 144) = true
          · rw [if_pos c3] at h
            obtain ⟨hq, rfl, rfl⟩ := lcd_Step.tail_some h
            exact lcd_Step.pg k a0_1 a0_2 a0_3 a0_4 a0_5 a0_6 a1 w c1 c5 c2 c3 r1 r6 r9 r2 r3 r4 r5 r7 hq
          · rw [if_neg c3] at h
            replace c3 := Bool.eq_false_iff.mpr c3
            obtain ⟨hq, rfl, rfl⟩ := lcd_Step.tail_some h
            exact lcd_Step.ph k a0_1 a0_2 a0_3 a0_4 a0_5 a0_6 a1 w c1 c5 c2 c3 r1 r6 r9 r2 r3 r4 r5 r7 hq
      · rw [if_neg c5] at h
        obtain ⟨hq, rfl, rfl⟩ := lcd_Step.tail_some h
        exact lcd_Step.pi k a0_1 a0_2 a0_3 a0_4 a0_5 a0_6 a1 w c1 c5 r1 r6 r9 r2 r3 r4 r5 r7 hq

end Go.Proofs.Ytiponhdcjccmaaa.P
