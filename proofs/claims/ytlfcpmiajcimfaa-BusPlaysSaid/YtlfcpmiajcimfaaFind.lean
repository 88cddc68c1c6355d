/- The contract of bus.find: the table's last row whose begin is not above the address. No condition. -/
import Derived.Test.YtlfcpmiajcimfaaBase
import Derived.Deep.WholeRow
namespace Go.Proofs.Ytlfcpmiajcimfaa.P
open Go.RowKit Go.Proofs.YtlfcpmiajcimfaaW.PrintWords Go.Proofs.YtlfcpmiajcimfaaW.PrintLast Go.Proofs.YtlfcpmiajcimfaaW.PrintMore
set_option linter.unusedVariables false
set_option linter.unusedSimpArgs false
theorem at_world {P : Program} {c : Code} {Q : Exit → Act → World → Prop} {a : Act} (W : World) (F : World → Prop) (hf : F W) (h : ∀ W', F W' → c.wp P Q a W') : c.wp P Q a W := h W hf
theorem at_end {P : Program} {fn : Func} {R : Ending → World → Prop} {x : Exit} {a : Act} (W : World) (F : World → Prop) (hf : F W) (h : ∀ W', F W' → bodyPost P fn R x a W') : bodyPost P fn R x a W := h W hf
theorem via {w : World} {g : Nat} {t : TypeId} {cs cs' : Array Value} (h : w.heap[g]? = some (.cells cs t (0, 0))) (e : cs = cs') : w.heap[g]? = some (.cells cs' t (0, 0)) := e ▸ h
theorem blk_new_at (w : World) (o : Obj) (g : Nat) (hg : w.heap.size = g) : (w.alloc o).heap[g]? = some o := hg ▸ blk_new w o
def codeSnd : Code → Code
  | .seq _ b => b
  | c => c
def codeFst : Code → Code
  | .seq a _ => a
  | c => c
def codeIn : Code → Code
  | .block _ c => c
  | .loop c => c
  | c => c
noncomputable def findBody : Code := codeIn (codeIn (codeSnd (codeFst (codeSnd (codeSnd (codeSnd (Try.f29.body.getD .skip)))))))
/-- The block of the row found so far, the result's block, and what lay before. -/
structure FindAt (g : Nat) (w W : World) (F R : Int) : Prop where
  b0 : W.heap[g]? = some (.cells #[.int .u16 0, .int .i64 0] 54 (0, 0))
  b2 : W.heap[g + 1 + 1]? = some (.cells #[.int .u16 F, .int .i64 R] 54 (0, 0))
  hB : Below g w W
  hs : g + 3 ≤ W.heap.size
def bestOf (a : Int) : List (Int × Int) → Int × Int → Int × Int
  | [], p => p
  | q :: l, p => bestOf a l (if q.1 ≤ a then q else p)
theorem find_ix0 (W : World) : (Instr.index 59 (.agg #[.int .u16 0, .int .i64 0, .int .u16 32768, .int .i64 1, .int .u16 40960, .int .i64 2, .int .u16 49152, .int .i64 3, .int .u16 57344, .int .i64 3, .int .u16 65024, .int .i64 4, .int .u16 65184, .int .i64 5, .int .u16 65280, .int .i64 6, .int .u16 65408, .int .i64 7, .int .u16 65535, .int .i64 8]) (.int .i64 0)).run Try.prog W = .ok (.agg #[.int .u16 0, .int .i64 0]) W := by kernel_rfl
set_option maxHeartbeats 4000000 in
set_option maxRecDepth 100000 in
theorem find_round0 (Q : Exit → Act → World → Prop) (m : Nat) (a F R : Int) (g : Nat) (w W : World) (u5 u6 x7 x8 x9 x10 x11 x12 x13 x14 x15 x16 x17 x18 x19 u22 u23 u24 u25 u26 u27 u28 u29 u30 : Value) (h : FindAt g w W F R)
    (next : ∀ (F' R' : Int) (W' : World) (u5 u6 x7 x8 x9 x10 x11 x12 x13 x14 x15 x16 x17 x18 x19 u22 u23 u24 u25 u26 u27 u28 u29 u30 : Value), (F', R') = (if (0 : Int) ≤ a then (0, 0) else (F, R)) → FindAt g w W' F' R' → Code.rounds Try.prog findBody Q m { tmps := #[.int .u16 a, undef, .pointer (some ⟨g, 0, none⟩), .pointer (some ⟨g + 1, 0, none⟩), .pointer (some ⟨g + 1 + 1, 0, none⟩), u5, u6, x7, x8, x9, x10, x11, x12, x13, x14, x15, x16, x17, x18, x19, .agg #[.int .u16 0, .int .i64 0, .int .u16 32768, .int .i64 1, .int .u16 40960, .int .i64 2, .int .u16 49152, .int .i64 3, .int .u16 57344, .int .i64 3, .int .u16 65024, .int .i64 4, .int .u16 65184, .int .i64 5, .int .u16 65280, .int .i64 6, .int .u16 65408, .int .i64 7, .int .u16 65535, .int .i64 8], .int .i64 1, u22, u23, u24, u25, u26, u27, u28, u29, u30], defers := [] } W') :
    Code.rounds Try.prog findBody Q (m + 1) { tmps := #[.int .u16 a, undef, .pointer (some ⟨g, 0, none⟩), .pointer (some ⟨g + 1, 0, none⟩), .pointer (some ⟨g + 1 + 1, 0, none⟩), u5, u6, x7, x8, x9, x10, x11, x12, x13, x14, x15, x16, x17, x18, x19, .agg #[.int .u16 0, .int .i64 0, .int .u16 32768, .int .i64 1, .int .u16 40960, .int .i64 2, .int .u16 49152, .int .i64 3, .int .u16 57344, .int .i64 3, .int .u16 65024, .int .i64 4, .int .u16 65184, .int .i64 5, .int .u16 65280, .int .i64 6, .int .u16 65408, .int .i64 7, .int .u16 65535, .int .i64 8], .int .i64 0, u22, u23, u24, u25, u26, u27, u28, u29, u30], defers := [] } W := by
  rw [rounds_succ]
  have hnext : ∀ (a' : Act) (W' : World), Code.rounds Try.prog findBody Q m a' W' = Code.rounds Try.prog findBody Q m a' W' := fun _ _ => rfl
  obtain ⟨K, hK⟩ : ∃ K, Code.rounds Try.prog findBody Q m = K := ⟨_, rfl⟩
  rw [hK] at next ⊢
  clear hK hnext
  obtain ⟨b0, b2, hB, hs⟩ := h
  have y0 := blk_cell b2 0
  have y1 := blk_cell b2 1
  simp only [List.getElem?_toArray, List.getElem?_cons_zero, List.getElem?_cons_succ] at y0 y1
  have f2 := fun i => blk_frozen b2 i
  have b3 := blk_alloc b2 (.cells #[.int .u16 0, .int .i64 0] 54)
  have z0 := blk_cell b3 0
  have z1 := blk_cell b3 1
  simp only [List.getElem?_toArray, List.getElem?_cons_zero, List.getElem?_cons_succ] at z0 z1
  have f3 := fun i => blk_frozen b3 i
  simp only [findBody, codeSnd, codeFst, codeIn, Try.f29, Option.getD_some]
  have B0 := Aside0.mk (And.intro b0 (And.intro b2 (And.intro hB hs)))
  clear b0 b2 b3 hB hs
  have NX := Aside0.mk next
  clear next
  have hix := find_ix0
  by_cases hc : (0 : Int) ≤ a
  · skip
    go_wp2
    obtain ⟨b0, b2, hB, hs⟩ := B0.out
    refine NX.out 0 0 _ _ _ _ _ _ _ _ _ _ _ _ _ _ _ _ _ _ _ _ _ _ _ _ _ (by first | rw [if_pos hc] | rw [if_neg (by omega)]) ⟨?_, ?_, ?_, ?_⟩
    · (apply via; (focus (repeat first | (with_reducible assumption) | (with_reducible apply blk_drew) | (with_reducible apply blk_drewN) | (focus ((with_reducible apply blk_new_at); first | rfl | (simp; done))) | (with_reducible apply blk_alloc) | (focus ((with_reducible apply blk_far); rotate_left; first | omega | (dsimp only; omega))) | (with_reducible apply blk_set))); all_goals rfl)
    · (apply via; (focus (repeat first | (with_reducible assumption) | (with_reducible apply blk_drew) | (with_reducible apply blk_drewN) | (focus ((with_reducible apply blk_new_at); first | rfl | (simp; done))) | (with_reducible apply blk_alloc) | (focus ((with_reducible apply blk_far); rotate_left; first | omega | (dsimp only; omega))) | (with_reducible apply blk_set))); all_goals rfl)
    · (repeat first | (with_reducible assumption) | (with_reducible exact Below.refl _ _) | (with_reducible refine Below.drew ?_) | ((with_reducible refine Below.alloc ?_ ?_ _); rotate_left; first | omega | (focus (simp; done)) | (focus (simp; omega))) | ((with_reducible refine Below.setCell ?_ ?_ _); rotate_left; first | omega | (dsimp only; omega)))
    · simp; omega
  · skip
    go_wp2
    obtain ⟨b0, b2, hB, hs⟩ := B0.out
    refine NX.out F R _ _ _ _ _ _ _ _ _ _ _ _ _ _ _ _ _ _ _ _ _ _ _ _ _ (by first | rw [if_pos hc] | rw [if_neg (by omega)]) ⟨?_, ?_, ?_, ?_⟩
    · (apply via; (focus (repeat first | (with_reducible assumption) | (with_reducible apply blk_drew) | (with_reducible apply blk_drewN) | (focus ((with_reducible apply blk_new_at); first | rfl | (simp; done))) | (with_reducible apply blk_alloc) | (focus ((with_reducible apply blk_far); rotate_left; first | omega | (dsimp only; omega))) | (with_reducible apply blk_set))); all_goals rfl)
    · (apply via; (focus (repeat first | (with_reducible assumption) | (with_reducible apply blk_drew) | (with_reducible apply blk_drewN) | (focus ((with_reducible apply blk_new_at); first | rfl | (simp; done))) | (with_reducible apply blk_alloc) | (focus ((with_reducible apply blk_far); rotate_left; first | omega | (dsimp only; omega))) | (with_reducible apply blk_set))); all_goals rfl)
    · (repeat first | (with_reducible assumption) | (with_reducible exact Below.refl _ _) | (with_reducible refine Below.drew ?_) | ((with_reducible refine Below.alloc ?_ ?_ _); rotate_left; first | omega | (focus (simp; done)) | (focus (simp; omega))) | ((with_reducible refine Below.setCell ?_ ?_ _); rotate_left; first | omega | (dsimp only; omega)))
    · simp; omega
theorem find_ix1 (W : World) : (Instr.index 59 (.agg #[.int .u16 0, .int .i64 0, .int .u16 32768, .int .i64 1, .int .u16 40960, .int .i64 2, .int .u16 49152, .int .i64 3, .int .u16 57344, .int .i64 3, .int .u16 65024, .int .i64 4, .int .u16 65184, .int .i64 5, .int .u16 65280, .int .i64 6, .int .u16 65408, .int .i64 7, .int .u16 65535, .int .i64 8]) (.int .i64 1)).run Try.prog W = .ok (.agg #[.int .u16 32768, .int .i64 1]) W := by kernel_rfl
set_option maxHeartbeats 4000000 in
set_option maxRecDepth 100000 in
theorem find_round1 (Q : Exit → Act → World → Prop) (m : Nat) (a F R : Int) (g : Nat) (w W : World) (u5 u6 x7 x8 x9 x10 x11 x12 x13 x14 x15 x16 x17 x18 x19 u22 u23 u24 u25 u26 u27 u28 u29 u30 : Value) (h : FindAt g w W F R)
    (next : ∀ (F' R' : Int) (W' : World) (u5 u6 x7 x8 x9 x10 x11 x12 x13 x14 x15 x16 x17 x18 x19 u22 u23 u24 u25 u26 u27 u28 u29 u30 : Value), (F', R') = (if (32768 : Int) ≤ a then (32768, 1) else (F, R)) → FindAt g w W' F' R' → Code.rounds Try.prog findBody Q m { tmps := #[.int .u16 a, undef, .pointer (some ⟨g, 0, none⟩), .pointer (some ⟨g + 1, 0, none⟩), .pointer (some ⟨g + 1 + 1, 0, none⟩), u5, u6, x7, x8, x9, x10, x11, x12, x13, x14, x15, x16, x17, x18, x19, .agg #[.int .u16 0, .int .i64 0, .int .u16 32768, .int .i64 1, .int .u16 40960, .int .i64 2, .int .u16 49152, .int .i64 3, .int .u16 57344, .int .i64 3, .int .u16 65024, .int .i64 4, .int .u16 65184, .int .i64 5, .int .u16 65280, .int .i64 6, .int .u16 65408, .int .i64 7, .int .u16 65535, .int .i64 8], .int .i64 2, u22, u23, u24, u25, u26, u27, u28, u29, u30], defers := [] } W') :
    Code.rounds Try.prog findBody Q (m + 1) { tmps := #[.int .u16 a, undef, .pointer (some ⟨g, 0, none⟩), .pointer (some ⟨g + 1, 0, none⟩), .pointer (some ⟨g + 1 + 1, 0, none⟩), u5, u6, x7, x8, x9, x10, x11, x12, x13, x14, x15, x16, x17, x18, x19, .agg #[.int .u16 0, .int .i64 0, .int .u16 32768, .int .i64 1, .int .u16 40960, .int .i64 2, .int .u16 49152, .int .i64 3, .int .u16 57344, .int .i64 3, .int .u16 65024, .int .i64 4, .int .u16 65184, .int .i64 5, .int .u16 65280, .int .i64 6, .int .u16 65408, .int .i64 7, .int .u16 65535, .int .i64 8], .int .i64 1, u22, u23, u24, u25, u26, u27, u28, u29, u30], defers := [] } W := by
  rw [rounds_succ]
  have hnext : ∀ (a' : Act) (W' : World), Code.rounds Try.prog findBody Q m a' W' = Code.rounds Try.prog findBody Q m a' W' := fun _ _ => rfl
  obtain ⟨K, hK⟩ : ∃ K, Code.rounds Try.prog findBody Q m = K := ⟨_, rfl⟩
  rw [hK] at next ⊢
  clear hK hnext
  obtain ⟨b0, b2, hB, hs⟩ := h
  have y0 := blk_cell b2 0
  have y1 := blk_cell b2 1
  simp only [List.getElem?_toArray, List.getElem?_cons_zero, List.getElem?_cons_succ] at y0 y1
  have f2 := fun i => blk_frozen b2 i
  have b3 := blk_alloc b2 (.cells #[.int .u16 32768, .int .i64 1] 54)
  have z0 := blk_cell b3 0
  have z1 := blk_cell b3 1
  simp only [List.getElem?_toArray, List.getElem?_cons_zero, List.getElem?_cons_succ] at z0 z1
  have f3 := fun i => blk_frozen b3 i
  simp only [findBody, codeSnd, codeFst, codeIn, Try.f29, Option.getD_some]
  have B0 := Aside0.mk (And.intro b0 (And.intro b2 (And.intro hB hs)))
  clear b0 b2 b3 hB hs
  have NX := Aside0.mk next
  clear next
  have hix := find_ix1
  by_cases hc : (32768 : Int) ≤ a
  · skip
    go_wp2
    obtain ⟨b0, b2, hB, hs⟩ := B0.out
    refine NX.out 32768 1 _ _ _ _ _ _ _ _ _ _ _ _ _ _ _ _ _ _ _ _ _ _ _ _ _ (by first | rw [if_pos hc] | rw [if_neg (by omega)]) ⟨?_, ?_, ?_, ?_⟩
    · (apply via; (focus (repeat first | (with_reducible assumption) | (with_reducible apply blk_drew) | (with_reducible apply blk_drewN) | (focus ((with_reducible apply blk_new_at); first | rfl | (simp; done))) | (with_reducible apply blk_alloc) | (focus ((with_reducible apply blk_far); rotate_left; first | omega | (dsimp only; omega))) | (with_reducible apply blk_set))); all_goals rfl)
    · (apply via; (focus (repeat first | (with_reducible assumption) | (with_reducible apply blk_drew) | (with_reducible apply blk_drewN) | (focus ((with_reducible apply blk_new_at); first | rfl | (simp; done))) | (with_reducible apply blk_alloc) | (focus ((with_reducible apply blk_far); rotate_left; first | omega | (dsimp only; omega))) | (with_reducible apply blk_set))); all_goals rfl)
    · (repeat first | (with_reducible assumption) | (with_reducible exact Below.refl _ _) | (with_reducible refine Below.drew ?_) | ((with_reducible refine Below.alloc ?_ ?_ _); rotate_left; first | omega | (focus (simp; done)) | (focus (simp; omega))) | ((with_reducible refine Below.setCell ?_ ?_ _); rotate_left; first | omega | (dsimp only; omega)))
    · simp; omega
  · skip
    go_wp2
    obtain ⟨b0, b2, hB, hs⟩ := B0.out
    refine NX.out F R _ _ _ _ _ _ _ _ _ _ _ _ _ _ _ _ _ _ _ _ _ _ _ _ _ (by first | rw [if_pos hc] | rw [if_neg (by omega)]) ⟨?_, ?_, ?_, ?_⟩
    · (apply via; (focus (repeat first | (with_reducible assumption) | (with_reducible apply blk_drew) | (with_reducible apply blk_drewN) | (focus ((with_reducible apply blk_new_at); first | rfl | (simp; done))) | (with_reducible apply blk_alloc) | (focus ((with_reducible apply blk_far); rotate_left; first | omega | (dsimp only; omega))) | (with_reducible apply blk_set))); all_goals rfl)
    · (apply via; (focus (repeat first | (with_reducible assumption) | (with_reducible apply blk_drew) | (with_reducible apply blk_drewN) | (focus ((with_reducible apply blk_new_at); first | rfl | (simp; done))) | (with_reducible apply blk_alloc) | (focus ((with_reducible apply blk_far); rotate_left; first | omega | (dsimp only; omega))) | (with_reducible apply blk_set))); all_goals rfl)
    · (repeat first | (with_reducible assumption) | (with_reducible exact Below.refl _ _) | (with_reducible refine Below.drew ?_) | ((with_reducible refine Below.alloc ?_ ?_ _); rotate_left; first | omega | (focus (simp; done)) | (focus (simp; omega))) | ((with_reducible refine Below.setCell ?_ ?_ _); rotate_left; first | omega | (dsimp only; omega)))
    · simp; omega
theorem find_ix2 (W : World) : (Instr.index 59 (.agg #[.int .u16 0, .int .i64 0, .int .u16 32768, .int .i64 1, .int .u16 40960, .int .i64 2, .int .u16 49152, .int .i64 3, .int .u16 57344, .int .i64 3, .int .u16 65024, .int .i64 4, .int .u16 65184, .int .i64 5, .int .u16 65280, .int .i64 6, .int .u16 65408, .int .i64 7, .int .u16 65535, .int .i64 8]) (.int .i64 2)).run Try.prog W = .ok (.agg #[.int .u16 40960, .int .i64 2]) W := by kernel_rfl
set_option maxHeartbeats 4000000 in
set_option maxRecDepth 100000 in
theorem find_round2 (Q : Exit → Act → World → Prop) (m : Nat) (a F R : Int) (g : Nat) (w W : World) (u5 u6 x7 x8 x9 x10 x11 x12 x13 x14 x15 x16 x17 x18 x19 u22 u23 u24 u25 u26 u27 u28 u29 u30 : Value) (h : FindAt g w W F R)
    (next : ∀ (F' R' : Int) (W' : World) (u5 u6 x7 x8 x9 x10 x11 x12 x13 x14 x15 x16 x17 x18 x19 u22 u23 u24 u25 u26 u27 u28 u29 u30 : Value), (F', R') = (if (40960 : Int) ≤ a then (40960, 2) else (F, R)) → FindAt g w W' F' R' → Code.rounds Try.prog findBody Q m { tmps := #[.int .u16 a, undef, .pointer (some ⟨g, 0, none⟩), .pointer (some ⟨g + 1, 0, none⟩), .pointer (some ⟨g + 1 + 1, 0, none⟩), u5, u6, x7, x8, x9, x10, x11, x12, x13, x14, x15, x16, x17, x18, x19, .agg #[.int .u16 0, .int .i64 0, .int .u16 32768, .int .i64 1, .int .u16 40960, .int .i64 2, .int .u16 49152, .int .i64 3, .int .u16 57344, .int .i64 3, .int .u16 65024, .int .i64 4, .int .u16 65184, .int .i64 5, .int .u16 65280, .int .i64 6, .int .u16 65408, .int .i64 7, .int .u16 65535, .int .i64 8], .int .i64 3, u22, u23, u24, u25, u26, u27, u28, u29, u30], defers := [] } W') :
    Code.rounds Try.prog findBody Q (m + 1) { tmps := #[.int .u16 a, undef, .pointer (some ⟨g, 0, none⟩), .pointer (some ⟨g + 1, 0, none⟩), .pointer (some ⟨g + 1 + 1, 0, none⟩), u5, u6, x7, x8, x9, x10, x11, x12, x13, x14, x15, x16, x17, x18, x19, .agg #[.int .u16 0, .int .i64 0, .int .u16 32768, .int .i64 1, .int .u16 40960, .int .i64 2, .int .u16 49152, .int .i64 3, .int .u16 57344, .int .i64 3, .int .u16 65024, .int .i64 4, .int .u16 65184, .int .i64 5, .int .u16 65280, .int .i64 6, .int .u16 65408, .int .i64 7, .int .u16 65535, .int .i64 8], .int .i64 2, u22, u23, u24, u25, u26, u27, u28, u29, u30], defers := [] } W := by
  rw [rounds_succ]
  have hnext : ∀ (a' : Act) (W' : World), Code.rounds Try.prog findBody Q m a' W' = Code.rounds Try.prog findBody Q m a' W' := fun _ _ => rfl
  obtain ⟨K, hK⟩ : ∃ K, Code.rounds Try.prog findBody Q m = K := ⟨_, rfl⟩
  rw [hK] at next ⊢
  clear hK hnext
  obtain ⟨b0, b2, hB, hs⟩ := h
  have y0 := blk_cell b2 0
  have y1 := blk_cell b2 1
  simp only [List.getElem?_toArray, List.getElem?_cons_zero, List.getElem?_cons_succ] at y0 y1
  have f2 := fun i => blk_frozen b2 i
  have b3 := blk_alloc b2 (.cells #[.int .u16 40960, .int .i64 2] 54)
  have z0 := blk_cell b3 0
  have z1 := blk_cell b3 1
  simp only [List.getElem?_toArray, List.getElem?_cons_zero, List.getElem?_cons_succ] at z0 z1
  have f3 := fun i => blk_frozen b3 i
  simp only [findBody, codeSnd, codeFst, codeIn, Try.f29, Option.getD_some]
  have B0 := Aside0.mk (And.intro b0 (And.intro b2 (And.intro hB hs)))
  clear b0 b2 b3 hB hs
  have NX := Aside0.mk next
  clear next
  have hix := find_ix2
  by_cases hc : (40960 : Int) ≤ a
  · skip
    go_wp2
    obtain ⟨b0, b2, hB, hs⟩ := B0.out
    refine NX.out 40960 2 _ _ _ _ _ _ _ _ _ _ _ _ _ _ _ _ _ _ _ _ _ _ _ _ _ (by first | rw [if_pos hc] | rw [if_neg (by omega)]) ⟨?_, ?_, ?_, ?_⟩
    · (apply via; (focus (repeat first | (with_reducible assumption) | (with_reducible apply blk_drew) | (with_reducible apply blk_drewN) | (focus ((with_reducible apply blk_new_at); first | rfl | (simp; done))) | (with_reducible apply blk_alloc) | (focus ((with_reducible apply blk_far); rotate_left; first | omega | (dsimp only; omega))) | (with_reducible apply blk_set))); all_goals rfl)
    · (apply via; (focus (repeat first | (with_reducible assumption) | (with_reducible apply blk_drew) | (with_reducible apply blk_drewN) | (focus ((with_reducible apply blk_new_at); first | rfl | (simp; done))) | (with_reducible apply blk_alloc) | (focus ((with_reducible apply blk_far); rotate_left; first | omega | (dsimp only; omega))) | (with_reducible apply blk_set))); all_goals rfl)
    · (repeat first | (with_reducible assumption) | (with_reducible exact Below.refl _ _) | (with_reducible refine Below.drew ?_) | ((with_reducible refine Below.alloc ?_ ?_ _); rotate_left; first | omega | (focus (simp; done)) | (focus (simp; omega))) | ((with_reducible refine Below.setCell ?_ ?_ _); rotate_left; first | omega | (dsimp only; omega)))
    · simp; omega
  · skip
    go_wp2
    obtain ⟨b0, b2, hB, hs⟩ := B0.out
    refine NX.out F R _ _ _ _ _ _ _ _ _ _ _ _ _ _ _ _ _ _ _ _ _ _ _ _ _ (by first | rw [if_pos hc] | rw [if_neg (by omega)]) ⟨?_, ?_, ?_, ?_⟩
    · (apply via; (focus (repeat first | (with_reducible assumption) | (with_reducible apply blk_drew) | (with_reducible apply blk_drewN) | (focus ((with_reducible apply blk_new_at); first | rfl | (simp; done))) | (with_reducible apply blk_alloc) | (focus ((with_reducible apply blk_far); rotate_left; first | omega | (dsimp only; omega))) | (with_reducible apply blk_set))); all_goals rfl)
    · (apply via; (focus (repeat first | (with_reducible assumption) | (with_reducible apply blk_drew) | (with_reducible apply blk_drewN) | (focus ((with_reducible apply blk_new_at); first | rfl | (simp; done))) | (with_reducible apply blk_alloc) | (focus ((with_reducible apply blk_far); rotate_left; first | omega | (dsimp only; omega))) | (with_reducible apply blk_set))); all_goals rfl)
    · (repeat first | (with_reducible assumption) | (with_reducible exact Below.refl _ _) | (with_reducible refine Below.drew ?_) | ((with_reducible refine Below.alloc ?_ ?_ _); rotate_left; first | omega | (focus (simp; done)) | (focus (simp; omega))) | ((with_reducible refine Below.setCell ?_ ?_ _); rotate_left; first | omega | (dsimp only; omega)))
    · simp; omega
theorem find_ix3 (W : World) : (Instr.index 59 (.agg #[.int .u16 0, .int .i64 0, .int .u16 32768, .int .i64 1, .int .u16 40960, .int .i64 2, .int .u16 49152, .int .i64 3, .int .u16 57344, .int .i64 3, .int .u16 65024, .int .i64 4, .int .u16 65184, .int .i64 5, .int .u16 65280, .int .i64 6, .int .u16 65408, .int .i64 7, .int .u16 65535, .int .i64 8]) (.int .i64 3)).run Try.prog W = .ok (.agg #[.int .u16 49152, .int .i64 3]) W := by kernel_rfl
set_option maxHeartbeats 4000000 in
set_option maxRecDepth 100000 in
theorem find_round3 (Q : Exit → Act → World → Prop) (m : Nat) (a F R : Int) (g : Nat) (w W : World) (u5 u6 x7 x8 x9 x10 x11 x12 x13 x14 x15 x16 x17 x18 x19 u22 u23 u24 u25 u26 u27 u28 u29 u30 : Value) (h : FindAt g w W F R)
    (next : ∀ (F' R' : Int) (W' : World) (u5 u6 x7 x8 x9 x10 x11 x12 x13 x14 x15 x16 x17 x18 x19 u22 u23 u24 u25 u26 u27 u28 u29 u30 : Value), (F', R') = (if (49152 : Int) ≤ a then (49152, 3) else (F, R)) → FindAt g w W' F' R' → Code.rounds Try.prog findBody Q m { tmps := #[.int .u16 a, undef, .pointer (some ⟨g, 0, none⟩), .pointer (some ⟨g + 1, 0, none⟩), .pointer (some ⟨g + 1 + 1, 0, none⟩), u5, u6, x7, x8, x9, x10, x11, x12, x13, x14, x15, x16, x17, x18, x19, .agg #[.int .u16 0, .int .i64 0, .int .u16 32768, .int .i64 1, .int .u16 40960, .int .i64 2, .int .u16 49152, .int .i64 3, .int .u16 57344, .int .i64 3, .int .u16 65024, .int .i64 4, .int .u16 65184, .int .i64 5, .int .u16 65280, .int .i64 6, .int .u16 65408, .int .i64 7, .int .u16 65535, .int .i64 8], .int .i64 4, u22, u23, u24, u25, u26, u27, u28, u29, u30], defers := [] } W') :
    Code.rounds Try.prog findBody Q (m + 1) { tmps := #[.int .u16 a, undef, .pointer (some ⟨g, 0, none⟩), .pointer (some ⟨g + 1, 0, none⟩), .pointer (some ⟨g + 1 + 1, 0, none⟩), u5, u6, x7, x8, x9, x10, x11, x12, x13, x14, x15, x16, x17, x18, x19, .agg #[.int .u16 0, .int .i64 0, .int .u16 32768, .int .i64 1, .int .u16 40960, .int .i64 2, .int .u16 49152, .int .i64 3, .int .u16 57344, .int .i64 3, .int .u16 65024, .int .i64 4, .int .u16 65184, .int .i64 5, .int .u16 65280, .int .i64 6, .int .u16 65408, .int .i64 7, .int .u16 65535, .int .i64 8], .int .i64 3, u22, u23, u24, u25, u26, u27, u28, u29, u30], defers := [] } W := by
  rw [rounds_succ]
  have hnext : ∀ (a' : Act) (W' : World), Code.rounds Try.prog findBody Q m a' W' = Code.rounds Try.prog findBody Q m a' W' := fun _ _ => rfl
  obtain ⟨K, hK⟩ : ∃ K, Code.rounds Try.prog findBody Q m = K := ⟨_, rfl⟩
  rw [hK] at next ⊢
  clear hK hnext
  obtain ⟨b0, b2, hB, hs⟩ := h
  have y0 := blk_cell b2 0
  have y1 := blk_cell b2 1
  simp only [List.getElem?_toArray, List.getElem?_cons_zero, List.getElem?_cons_succ] at y0 y1
  have f2 := fun i => blk_frozen b2 i
  have b3 := blk_alloc b2 (.cells #[.int .u16 49152, .int .i64 3] 54)
  have z0 := blk_cell b3 0
  have z1 := blk_cell b3 1
  simp only [List.getElem?_toArray, List.getElem?_cons_zero, List.getElem?_cons_succ] at z0 z1
  have f3 := fun i => blk_frozen b3 i
  simp only [findBody, codeSnd, codeFst, codeIn, Try.f29, Option.getD_some]
  have B0 := Aside0.mk (And.intro b0 (And.intro b2 (And.intro hB hs)))
  clear b0 b2 b3 hB hs
  have NX := Aside0.mk next
  clear next
  have hix := find_ix3
  by_cases hc : (49152 : Int) ≤ a
  · skip
    go_wp2
    obtain ⟨b0, b2, hB, hs⟩ := B0.out
    refine NX.out 49152 3 _ _ _ _ _ _ _ _ _ _ _ _ _ _ _ _ _ _ _ _ _ _ _ _ _ (by first | rw [if_pos hc] | rw [if_neg (by omega)]) ⟨?_, ?_, ?_, ?_⟩
    · (apply via; (focus (repeat first | (with_reducible assumption) | (with_reducible apply blk_drew) | (with_reducible apply blk_drewN) | (focus ((with_reducible apply blk_new_at); first | rfl | (simp; done))) | (with_reducible apply blk_alloc) | (focus ((with_reducible apply blk_far); rotate_left; first | omega | (dsimp only; omega))) | (with_reducible apply blk_set))); all_goals rfl)
    · (apply via; (focus (repeat first | (with_reducible assumption) | (with_reducible apply blk_drew) | (with_reducible apply blk_drewN) | (focus ((with_reducible apply blk_new_at); first | rfl | (simp; done))) | (with_reducible apply blk_alloc) | (focus ((with_reducible apply blk_far); rotate_left; first | omega | (dsimp only; omega))) | (with_reducible apply blk_set))); all_goals rfl)
    · (repeat first | (with_reducible assumption) | (with_reducible exact Below.refl _ _) | (with_reducible refine Below.drew ?_) | ((with_reducible refine Below.alloc ?_ ?_ _); rotate_left; first | omega | (focus (simp; done)) | (focus (simp; omega))) | ((with_reducible refine Below.setCell ?_ ?_ _); rotate_left; first | omega | (dsimp only; omega)))
    · simp; omega
  · skip
    go_wp2
    obtain ⟨b0, b2, hB, hs⟩ := B0.out
    refine NX.out F R _ _ _ _ _ _ _ _ _ _ _ _ _ _ _ _ _ _ _ _ _ _ _ _ _ (by first | rw [if_pos hc] | rw [if_neg (by omega)]) ⟨?_, ?_, ?_, ?_⟩
    · (apply via; (focus (repeat first | (with_reducible assumption) | (with_reducible apply blk_drew) | (with_reducible apply blk_drewN) | (focus ((with_reducible apply blk_new_at); first | rfl | (simp; done))) | (with_reducible apply blk_alloc) | (focus ((with_reducible apply blk_far); rotate_left; first | omega | (dsimp only; omega))) | (with_reducible apply blk_set))); all_goals rfl)
    · (apply via; (focus (repeat first | (with_reducible assumption) | (with_reducible apply blk_drew) | (with_reducible apply blk_drewN) | (focus ((with_reducible apply blk_new_at); first | rfl | (simp; done))) | (with_reducible apply blk_alloc) | (focus ((with_reducible apply blk_far); rotate_left; first | omega | (dsimp only; omega))) | (with_reducible apply blk_set))); all_goals rfl)
    · (repeat first | (with_reducible assumption) | (with_reducible exact Below.refl _ _) | (with_reducible refine Below.drew ?_) | ((with_reducible refine Below.alloc ?_ ?_ _); rotate_left; first | omega | (focus (simp; done)) | (focus (simp; omega))) | ((with_reducible refine Below.setCell ?_ ?_ _); rotate_left; first | omega | (dsimp only; omega)))
    · simp; omega
theorem find_ix4 (W : World) : (Instr.index 59 (.agg #[.int .u16 0, .int .i64 0, .int .u16 32768, .int .i64 1, .int .u16 40960, .int .i64 2, .int .u16 49152, .int .i64 3, .int .u16 57344, .int .i64 3, .int .u16 65024, .int .i64 4, .int .u16 65184, .int .i64 5, .int .u16 65280, .int .i64 6, .int .u16 65408, .int .i64 7, .int .u16 65535, .int .i64 8]) (.int .i64 4)).run Try.prog W = .ok (.agg #[.int .u16 57344, .int .i64 3]) W := by kernel_rfl
set_option maxHeartbeats 4000000 in
set_option maxRecDepth 100000 in
theorem find_round4 (Q : Exit → Act → World → Prop) (m : Nat) (a F R : Int) (g : Nat) (w W : World) (u5 u6 x7 x8 x9 x10 x11 x12 x13 x14 x15 x16 x17 x18 x19 u22 u23 u24 u25 u26 u27 u28 u29 u30 : Value) (h : FindAt g w W F R)
    (next : ∀ (F' R' : Int) (W' : World) (u5 u6 x7 x8 x9 x10 x11 x12 x13 x14 x15 x16 x17 x18 x19 u22 u23 u24 u25 u26 u27 u28 u29 u30 : Value), (F', R') = (if (57344 : Int) ≤ a then (57344, 3) else (F, R)) → FindAt g w W' F' R' → Code.rounds Try.prog findBody Q m { tmps := #[.int .u16 a, undef, .pointer (some ⟨g, 0, none⟩), .pointer (some ⟨g + 1, 0, none⟩), .pointer (some ⟨g + 1 + 1, 0, none⟩), u5, u6, x7, x8, x9, x10, x11, x12, x13, x14, x15, x16, x17, x18, x19, .agg #[.int .u16 0, .int .i64 0, .int .u16 32768, .int .i64 1, .int .u16 40960, .int .i64 2, .int .u16 49152, .int .i64 3, .int .u16 57344, .int .i64 3, .int .u16 65024, .int .i64 4, .int .u16 65184, .int .i64 5, .int .u16 65280, .int .i64 6, .int .u16 65408, .int .i64 7, .int .u16 65535, .int .i64 8], .int .i64 5, u22, u23, u24, u25, u26, u27, u28, u29, u30], defers := [] } W') :
    Code.rounds Try.prog findBody Q (m + 1) { tmps := #[.int .u16 a, undef, .pointer (some ⟨g, 0, none⟩), .pointer (some ⟨g + 1, 0, none⟩), .pointer (some ⟨g + 1 + 1, 0, none⟩), u5, u6, x7, x8, x9, x10, x11, x12, x13, x14, x15, x16, x17, x18, x19, .agg #[.int .u16 0, .int .i64 0, .int .u16 32768, .int .i64 1, .int .u16 40960, .int .i64 2, .int .u16 49152, .int .i64 3, .int .u16 57344, .int .i64 3, .int .u16 65024, .int .i64 4, .int .u16 65184, .int .i64 5, .int .u16 65280, .int .i64 6, .int .u16 65408, .int .i64 7, .int .u16 65535, .int .i64 8], .int .i64 4, u22, u23, u24, u25, u26, u27, u28, u29, u30], defers := [] } W := by
  rw [rounds_succ]
  have hnext : ∀ (a' : Act) (W' : World), Code.rounds Try.prog findBody Q m a' W' = Code.rounds Try.prog findBody Q m a' W' := fun _ _ => rfl
  obtain ⟨K, hK⟩ : ∃ K, Code.rounds Try.prog findBody Q m = K := ⟨_, rfl⟩
  rw [hK] at next ⊢
  clear hK hnext
  obtain ⟨b0, b2, hB, hs⟩ := h
  have y0 := blk_cell b2 0
  have y1 := blk_cell b2 1
  simp only [List.getElem?_toArray, List.getElem?_cons_zero, List.getElem?_cons_succ] at y0 y1
  have f2 := fun i => blk_frozen b2 i
  have b3 := blk_alloc b2 (.cells #[.int .u16 57344, .int .i64 3] 54)
  have z0 := blk_cell b3 0
  have z1 := blk_cell b3 1
  simp only [List.getElem?_toArray, List.getElem?_cons_zero, List.getElem?_cons_succ] at z0 z1
  have f3 := fun i => blk_frozen b3 i
  simp only [findBody, codeSnd, codeFst, codeIn, Try.f29, Option.getD_some]
  have B0 := Aside0.mk (And.intro b0 (And.intro b2 (And.intro hB hs)))
  clear b0 b2 b3 hB hs
  have NX := Aside0.mk next
  clear next
  have hix := find_ix4
  by_cases hc : (57344 : Int) ≤ a
  · skip
    go_wp2
    obtain ⟨b0, b2, hB, hs⟩ := B0.out
    refine NX.out 57344 3 _ _ _ _ _ _ _ _ _ _ _ _ _ _ _ _ _ _ _ _ _ _ _ _ _ (by first | rw [if_pos hc] | rw [if_neg (by omega)]) ⟨?_, ?_, ?_, ?_⟩
    · (apply via; (focus (repeat first | (with_reducible assumption) | (with_reducible apply blk_drew) | (with_reducible apply blk_drewN) | (focus ((with_reducible apply blk_new_at); first | rfl | (simp; done))) | (with_reducible apply blk_alloc) | (focus ((with_reducible apply blk_far); rotate_left; first | omega | (dsimp only; omega))) | (with_reducible apply blk_set))); all_goals rfl)
    · (apply via; (focus (repeat first | (with_reducible assumption) | (with_reducible apply blk_drew) | (with_reducible apply blk_drewN) | (focus ((with_reducible apply blk_new_at); first | rfl | (simp; done))) | (with_reducible apply blk_alloc) | (focus ((with_reducible apply blk_far); rotate_left; first | omega | (dsimp only; omega))) | (with_reducible apply blk_set))); all_goals rfl)
    · (repeat first | (with_reducible assumption) | (with_reducible exact Below.refl _ _) | (with_reducible refine Below.drew ?_) | ((with_reducible refine Below.alloc ?_ ?_ _); rotate_left; first | omega | (focus (simp; done)) | (focus (simp; omega))) | ((with_reducible refine Below.setCell ?_ ?_ _); rotate_left; first | omega | (dsimp only; omega)))
    · simp; omega
  · skip
    go_wp2
    obtain ⟨b0, b2, hB, hs⟩ := B0.out
    refine NX.out F R _ _ _ _ _ _ _ _ _ _ _ _ _ _ _ _ _ _ _ _ _ _ _ _ _ (by first | rw [if_pos hc] | rw [if_neg (by omega)]) ⟨?_, ?_, ?_, ?_⟩
    · (apply via; (focus (repeat first | (with_reducible assumption) | (with_reducible apply blk_drew) | (with_reducible apply blk_drewN) | (focus ((with_reducible apply blk_new_at); first | rfl | (simp; done))) | (with_reducible apply blk_alloc) | (focus ((with_reducible apply blk_far); rotate_left; first | omega | (dsimp only; omega))) | (with_reducible apply blk_set))); all_goals rfl)
    · (apply via; (focus (repeat first | (with_reducible assumption) | (with_reducible apply blk_drew) | (with_reducible apply blk_drewN) | (focus ((with_reducible apply blk_new_at); first | rfl | (simp; done))) | (with_reducible apply blk_alloc) | (focus ((with_reducible apply blk_far); rotate_left; first | omega | (dsimp only; omega))) | (with_reducible apply blk_set))); all_goals rfl)
    · (repeat first | (with_reducible assumption) | (with_reducible exact Below.refl _ _) | (with_reducible refine Below.drew ?_) | ((with_reducible refine Below.alloc ?_ ?_ _); rotate_left; first | omega | (focus (simp; done)) | (focus (simp; omega))) | ((with_reducible refine Below.setCell ?_ ?_ _); rotate_left; first | omega | (dsimp only; omega)))
    · simp; omega
theorem find_ix5 (W : World) : (Instr.index 59 (.agg #[.int .u16 0, .int .i64 0, .int .u16 32768, .int .i64 1, .int .u16 40960, .int .i64 2, .int .u16 49152, .int .i64 3, .int .u16 57344, .int .i64 3, .int .u16 65024, .int .i64 4, .int .u16 65184, .int .i64 5, .int .u16 65280, .int .i64 6, .int .u16 65408, .int .i64 7, .int .u16 65535, .int .i64 8]) (.int .i64 5)).run Try.prog W = .ok (.agg #[.int .u16 65024, .int .i64 4]) W := by kernel_rfl
set_option maxHeartbeats 4000000 in
set_option maxRecDepth 100000 in
theorem find_round5 (Q : Exit → Act → World → Prop) (m : Nat) (a F R : Int) (g : Nat) (w W : World) (u5 u6 x7 x8 x9 x10 x11 x12 x13 x14 x15 x16 x17 x18 x19 u22 u23 u24 u25 u26 u27 u28 u29 u30 : Value) (h : FindAt g w W F R)
    (next : ∀ (F' R' : Int) (W' : World) (u5 u6 x7 x8 x9 x10 x11 x12 x13 x14 x15 x16 x17 x18 x19 u22 u23 u24 u25 u26 u27 u28 u29 u30 : Value), (F', R') = (if (65024 : Int) ≤ a then (65024, 4) else (F, R)) → FindAt g w W' F' R' → Code.rounds Try.prog findBody Q m { tmps := #[.int .u16 a, undef, .pointer (some ⟨g, 0, none⟩), .pointer (some ⟨g + 1, 0, none⟩), .pointer (some ⟨g + 1 + 1, 0, none⟩), u5, u6, x7, x8, x9, x10, x11, x12, x13, x14, x15, x16, x17, x18, x19, .agg #[.int .u16 0, .int .i64 0, .int .u16 32768, .int .i64 1, .int .u16 40960, .int .i64 2, .int .u16 49152, .int .i64 3, .int .u16 57344, .int .i64 3, .int .u16 65024, .int .i64 4, .int .u16 65184, .int .i64 5, .int .u16 65280, .int .i64 6, .int .u16 65408, .int .i64 7, .int .u16 65535, .int .i64 8], .int .i64 6, u22, u23, u24, u25, u26, u27, u28, u29, u30], defers := [] } W') :
    Code.rounds Try.prog findBody Q (m + 1) { tmps := #[.int .u16 a, undef, .pointer (some ⟨g, 0, none⟩), .pointer (some ⟨g + 1, 0, none⟩), .pointer (some ⟨g + 1 + 1, 0, none⟩), u5, u6, x7, x8, x9, x10, x11, x12, x13, x14, x15, x16, x17, x18, x19, .agg #[.int .u16 0, .int .i64 0, .int .u16 32768, .int .i64 1, .int .u16 40960, .int .i64 2, .int .u16 49152, .int .i64 3, .int .u16 57344, .int .i64 3, .int .u16 65024, .int .i64 4, .int .u16 65184, .int .i64 5, .int .u16 65280, .int .i64 6, .int .u16 65408, .int .i64 7, .int .u16 65535, .int .i64 8], .int .i64 5, u22, u23, u24, u25, u26, u27, u28, u29, u30], defers := [] } W := by
  rw [rounds_succ]
  have hnext : ∀ (a' : Act) (W' : World), Code.rounds Try.prog findBody Q m a' W' = Code.rounds Try.prog findBody Q m a' W' := fun _ _ => rfl
  obtain ⟨K, hK⟩ : ∃ K, Code.rounds Try.prog findBody Q m = K := ⟨_, rfl⟩
  rw [hK] at next ⊢
  clear hK hnext
  obtain ⟨b0, b2, hB, hs⟩ := h
  have y0 := blk_cell b2 0
  have y1 := blk_cell b2 1
  simp only [List.getElem?_toArray, List.getElem?_cons_zero, List.getElem?_cons_succ] at y0 y1
  have f2 := fun i => blk_frozen b2 i
  have b3 := blk_alloc b2 (.cells #[.int .u16 65024, .int .i64 4] 54)
  have z0 := blk_cell b3 0
  have z1 := blk_cell b3 1
  simp only [List.getElem?_toArray, List.getElem?_cons_zero, List.getElem?_cons_succ] at z0 z1
  have f3 := fun i => blk_frozen b3 i
  simp only [findBody, codeSnd, codeFst, codeIn, Try.f29, Option.getD_some]
  have B0 := Aside0.mk (And.intro b0 (And.intro b2 (And.intro hB hs)))
  clear b0 b2 b3 hB hs
  have NX := Aside0.mk next
  clear next
  have hix := find_ix5
  by_cases hc : (65024 : Int) ≤ a
  · skip
    go_wp2
    obtain ⟨b0, b2, hB, hs⟩ := B0.out
    refine NX.out 65024 4 _ _ _ _ _ _ _ _ _ _ _ _ _ _ _ _ _ _ _ _ _ _ _ _ _ (by first | rw [if_pos hc] | rw [if_neg (by omega)]) ⟨?_, ?_, ?_, ?_⟩
    · (apply via; (focus (repeat first | (with_reducible assumption) | (with_reducible apply blk_drew) | (with_reducible apply blk_drewN) | (focus ((with_reducible apply blk_new_at); first | rfl | (simp; done))) | (with_reducible apply blk_alloc) | (focus ((with_reducible apply blk_far); rotate_left; first | omega | (dsimp only; omega))) | (with_reducible apply blk_set))); all_goals rfl)
    · (apply via; (focus (repeat first | (with_reducible assumption) | (with_reducible apply blk_drew) | (with_reducible apply blk_drewN) | (focus ((with_reducible apply blk_new_at); first | rfl | (simp; done))) | (with_reducible apply blk_alloc) | (focus ((with_reducible apply blk_far); rotate_left; first | omega | (dsimp only; omega))) | (with_reducible apply blk_set))); all_goals rfl)
    · (repeat first | (with_reducible assumption) | (with_reducible exact Below.refl _ _) | (with_reducible refine Below.drew ?_) | ((with_reducible refine Below.alloc ?_ ?_ _); rotate_left; first | omega | (focus (simp; done)) | (focus (simp; omega))) | ((with_reducible refine Below.setCell ?_ ?_ _); rotate_left; first | omega | (dsimp only; omega)))
    · simp; omega
  · skip
    go_wp2
    obtain ⟨b0, b2, hB, hs⟩ := B0.out
    refine NX.out F R _ _ _ _ _ _ _ _ _ _ _ _ _ _ _ _ _ _ _ _ _ _ _ _ _ (by first | rw [if_pos hc] | rw [if_neg (by omega)]) ⟨?_, ?_, ?_, ?_⟩
    · (apply via; (focus (repeat first | (with_reducible assumption) | (with_reducible apply blk_drew) | (with_reducible apply blk_drewN) | (focus ((with_reducible apply blk_new_at); first | rfl | (simp; done))) | (with_reducible apply blk_alloc) | (focus ((with_reducible apply blk_far); rotate_left; first | omega | (dsimp only; omega))) | (with_reducible apply blk_set))); all_goals rfl)
    · (apply via; (focus (repeat first | (with_reducible assumption) | (with_reducible apply blk_drew) | (with_reducible apply blk_drewN) | (focus ((with_reducible apply blk_new_at); first | rfl | (simp; done))) | (with_reducible apply blk_alloc) | (focus ((with_reducible apply blk_far); rotate_left; first | omega | (dsimp only; omega))) | (with_reducible apply blk_set))); all_goals rfl)
    · (repeat first | (with_reducible assumption) | (with_reducible exact Below.refl _ _) | (with_reducible refine Below.drew ?_) | ((with_reducible refine Below.alloc ?_ ?_ _); rotate_left; first | omega | (focus (simp; done)) | (focus (simp; omega))) | ((with_reducible refine Below.setCell ?_ ?_ _); rotate_left; first | omega | (dsimp only; omega)))
    · simp; omega
theorem find_ix6 (W : World) : (Instr.index 59 (.agg #[.int .u16 0, .int .i64 0, .int .u16 32768, .int .i64 1, .int .u16 40960, .int .i64 2, .int .u16 49152, .int .i64 3, .int .u16 57344, .int .i64 3, .int .u16 65024, .int .i64 4, .int .u16 65184, .int .i64 5, .int .u16 65280, .int .i64 6, .int .u16 65408, .int .i64 7, .int .u16 65535, .int .i64 8]) (.int .i64 6)).run Try.prog W = .ok (.agg #[.int .u16 65184, .int .i64 5]) W := by kernel_rfl
set_option maxHeartbeats 4000000 in
set_option maxRecDepth 100000 in
theorem find_round6 (Q : Exit → Act → World → Prop) (m : Nat) (a F R : Int) (g : Nat) (w W : World) (u5 u6 x7 x8 x9 x10 x11 x12 x13 x14 x15 x16 x17 x18 x19 u22 u23 u24 u25 u26 u27 u28 u29 u30 : Value) (h : FindAt g w W F R)
    (next : ∀ (F' R' : Int) (W' : World) (u5 u6 x7 x8 x9 x10 x11 x12 x13 x14 x15 x16 x17 x18 x19 u22 u23 u24 u25 u26 u27 u28 u29 u30 : Value), (F', R') = (if (65184 : Int) ≤ a then (65184, 5) else (F, R)) → FindAt g w W' F' R' → Code.rounds Try.prog findBody Q m { tmps := #[.int .u16 a, undef, .pointer (some ⟨g, 0, none⟩), .pointer (some ⟨g + 1, 0, none⟩), .pointer (some ⟨g + 1 + 1, 0, none⟩), u5, u6, x7, x8, x9, x10, x11, x12, x13, x14, x15, x16, x17, x18, x19, .agg #[.int .u16 0, .int .i64 0, .int .u16 32768, .int .i64 1, .int .u16 40960, .int .i64 2, .int .u16 49152, .int .i64 3, .int .u16 57344, .int .i64 3, .int .u16 65024, .int .i64 4, .int .u16 65184, .int .i64 5, .int .u16 65280, .int .i64 6, .int .u16 65408, .int .i64 7, .int .u16 65535, .int .i64 8], .int .i64 7, u22, u23, u24, u25, u26, u27, u28, u29, u30], defers := [] } W') :
    Code.rounds Try.prog findBody Q (m + 1) { tmps := #[.int .u16 a, undef, .pointer (some ⟨g, 0, none⟩), .pointer (some ⟨g + 1, 0, none⟩), .pointer (some ⟨g + 1 + 1, 0, none⟩), u5, u6, x7, x8, x9, x10, x11, x12, x13, x14, x15, x16, x17, x18, x19, .agg #[.int .u16 0, .int .i64 0, .int .u16 32768, .int .i64 1, .int .u16 40960, .int .i64 2, .int .u16 49152, .int .i64 3, .int .u16 57344, .int .i64 3, .int .u16 65024, .int .i64 4, .int .u16 65184, .int .i64 5, .int .u16 65280, .int .i64 6, .int .u16 65408, .int .i64 7, .int .u16 65535, .int .i64 8], .int .i64 6, u22, u23, u24, u25, u26, u27, u28, u29, u30], defers := [] } W := by
  rw [rounds_succ]
  have hnext : ∀ (a' : Act) (W' : World), Code.rounds Try.prog findBody Q m a' W' = Code.rounds Try.prog findBody Q m a' W' := fun _ _ => rfl
  obtain ⟨K, hK⟩ : ∃ K, Code.rounds Try.prog findBody Q m = K := ⟨_, rfl⟩
  rw [hK] at next ⊢
  clear hK hnext
  obtain ⟨b0, b2, hB, hs⟩ := h
  have y0 := blk_cell b2 0
  have y1 := blk_cell b2 1
  simp only [List.getElem?_toArray, List.getElem?_cons_zero, List.getElem?_cons_succ] at y0 y1
  have f2 := fun i => blk_frozen b2 i
  have b3 := blk_alloc b2 (.cells #[.int .u16 65184, .int .i64 5] 54)
  have z0 := blk_cell b3 0
  have z1 := blk_cell b3 1
  simp only [List.getElem?_toArray, List.getElem?_cons_zero, List.getElem?_cons_succ] at z0 z1
  have f3 := fun i => blk_frozen b3 i
  simp only [findBody, codeSnd, codeFst, codeIn, Try.f29, Option.getD_some]
  have B0 := Aside0.mk (And.intro b0 (And.intro b2 (And.intro hB hs)))
  clear b0 b2 b3 hB hs
  have NX := Aside0.mk next
  clear next
  have hix := find_ix6
  by_cases hc : (65184 : Int) ≤ a
  · skip
    go_wp2
    obtain ⟨b0, b2, hB, hs⟩ := B0.out
    refine NX.out 65184 5 _ _ _ _ _ _ _ _ _ _ _ _ _ _ _ _ _ _ _ _ _ _ _ _ _ (by first | rw [if_pos hc] | rw [if_neg (by omega)]) ⟨?_, ?_, ?_, ?_⟩
    · (apply via; (focus (repeat first | (with_reducible assumption) | (with_reducible apply blk_drew) | (with_reducible apply blk_drewN) | (focus ((with_reducible apply blk_new_at); first | rfl | (simp; done))) | (with_reducible apply blk_alloc) | (focus ((with_reducible apply blk_far); rotate_left; first | omega | (dsimp only; omega))) | (with_reducible apply blk_set))); all_goals rfl)
    · (apply via; (focus (repeat first | (with_reducible assumption) | (with_reducible apply blk_drew) | (with_reducible apply blk_drewN) | (focus ((with_reducible apply blk_new_at); first | rfl | (simp; done))) | (with_reducible apply blk_alloc) | (focus ((with_reducible apply blk_far); rotate_left; first | omega | (dsimp only; omega))) | (with_reducible apply blk_set))); all_goals rfl)
    · (repeat first | (with_reducible assumption) | (with_reducible exact Below.refl _ _) | (with_reducible refine Below.drew ?_) | ((with_reducible refine Below.alloc ?_ ?_ _); rotate_left; first | omega | (focus (simp; done)) | (focus (simp; omega))) | ((with_reducible refine Below.setCell ?_ ?_ _); rotate_left; first | omega | (dsimp only; omega)))
    · simp; omega
  · skip
    go_wp2
    obtain ⟨b0, b2, hB, hs⟩ := B0.out
    refine NX.out F R _ _ _ _ _ _ _ _ _ _ _ _ _ _ _ _ _ _ _ _ _ _ _ _ _ (by first | rw [if_pos hc] | rw [if_neg (by omega)]) ⟨?_, ?_, ?_, ?_⟩
    · (apply via; (focus (repeat first | (with_reducible assumption) | (with_reducible apply blk_drew) | (with_reducible apply blk_drewN) | (focus ((with_reducible apply blk_new_at); first | rfl | (simp; done))) | (with_reducible apply blk_alloc) | (focus ((with_reducible apply blk_far); rotate_left; first | omega | (dsimp only; omega))) | (with_reducible apply blk_set))); all_goals rfl)
    · (apply via; (focus (repeat first | (with_reducible assumption) | (with_reducible apply blk_drew) | (with_reducible apply blk_drewN) | (focus ((with_reducible apply blk_new_at); first | rfl | (simp; done))) | (with_reducible apply blk_alloc) | (focus ((with_reducible apply blk_far); rotate_left; first | omega | (dsimp only; omega))) | (with_reducible apply blk_set))); all_goals rfl)
    · (repeat first | (with_reducible assumption) | (with_reducible exact Below.refl _ _) | (with_reducible refine Below.drew ?_) | ((with_reducible refine Below.alloc ?_ ?_ _); rotate_left; first | omega | (focus (simp; done)) | (focus (simp; omega))) | ((with_reducible refine Below.setCell ?_ ?_ _); rotate_left; first | omega | (dsimp only; omega)))
    · simp; omega
theorem find_ix7 (W : World) : (Instr.index 59 (.agg #[.int .u16 0, .int .i64 0, .int .u16 32768, .int .i64 1, .int .u16 40960, .int .i64 2, .int .u16 49152, .int .i64 3, .int .u16 57344, .int .i64 3, .int .u16 65024, .int .i64 4, .int .u16 65184, .int .i64 5, .int .u16 65280, .int .i64 6, .int .u16 65408, .int .i64 7, .int .u16 65535, .int .i64 8]) (.int .i64 7)).run Try.prog W = .ok (.agg #[.int .u16 65280, .int .i64 6]) W := by kernel_rfl
set_option maxHeartbeats 4000000 in
set_option maxRecDepth 100000 in
theorem find_round7 (Q : Exit → Act → World → Prop) (m : Nat) (a F R : Int) (g : Nat) (w W : World) (u5 u6 x7 x8 x9 x10 x11 x12 x13 x14 x15 x16 x17 x18 x19 u22 u23 u24 u25 u26 u27 u28 u29 u30 : Value) (h : FindAt g w W F R)
    (next : ∀ (F' R' : Int) (W' : World) (u5 u6 x7 x8 x9 x10 x11 x12 x13 x14 x15 x16 x17 x18 x19 u22 u23 u24 u25 u26 u27 u28 u29 u30 : Value), (F', R') = (if (65280 : Int) ≤ a then (65280, 6) else (F, R)) → FindAt g w W' F' R' → Code.rounds Try.prog findBody Q m { tmps := #[.int .u16 a, undef, .pointer (some ⟨g, 0, none⟩), .pointer (some ⟨g + 1, 0, none⟩), .pointer (some ⟨g + 1 + 1, 0, none⟩), u5, u6, x7, x8, x9, x10, x11, x12, x13, x14, x15, x16, x17, x18, x19, .agg #[.int .u16 0, .int .i64 0, .int .u16 32768, .int .i64 1, .int .u16 40960, .int .i64 2, .int .u16 49152, .int .i64 3, .int .u16 57344, .int .i64 3, .int .u16 65024, .int .i64 4, .int .u16 65184, .int .i64 5, .int .u16 65280, .int .i64 6, .int .u16 65408, .int .i64 7, .int .u16 65535, .int .i64 8], .int .i64 8, u22, u23, u24, u25, u26, u27, u28, u29, u30], defers := [] } W') :
    Code.rounds Try.prog findBody Q (m + 1) { tmps := #[.int .u16 a, undef, .pointer (some ⟨g, 0, none⟩), .pointer (some ⟨g + 1, 0, none⟩), .pointer (some ⟨g + 1 + 1, 0, none⟩), u5, u6, x7, x8, x9, x10, x11, x12, x13, x14, x15, x16, x17, x18, x19, .agg #[.int .u16 0, .int .i64 0, .int .u16 32768, .int .i64 1, .int .u16 40960, .int .i64 2, .int .u16 49152, .int .i64 3, .int .u16 57344, .int .i64 3, .int .u16 65024, .int .i64 4, .int .u16 65184, .int .i64 5, .int .u16 65280, .int .i64 6, .int .u16 65408, .int .i64 7, .int .u16 65535, .int .i64 8], .int .i64 7, u22, u23, u24, u25, u26, u27, u28, u29, u30], defers := [] } W := by
  rw [rounds_succ]
  have hnext : ∀ (a' : Act) (W' : World), Code.rounds Try.prog findBody Q m a' W' = Code.rounds Try.prog findBody Q m a' W' := fun _ _ => rfl
  obtain ⟨K, hK⟩ : ∃ K, Code.rounds Try.prog findBody Q m = K := ⟨_, rfl⟩
  rw [hK] at next ⊢
  clear hK hnext
  obtain ⟨b0, b2, hB, hs⟩ := h
  have y0 := blk_cell b2 0
  have y1 := blk_cell b2 1
  simp only [List.getElem?_toArray, List.getElem?_cons_zero, List.getElem?_cons_succ] at y0 y1
  have f2 := fun i => blk_frozen b2 i
  have b3 := blk_alloc b2 (.cells #[.int .u16 65280, .int .i64 6] 54)
  have z0 := blk_cell b3 0
  have z1 := blk_cell b3 1
  simp only [List.getElem?_toArray, List.getElem?_cons_zero, List.getElem?_cons_succ] at z0 z1
  have f3 := fun i => blk_frozen b3 i
  simp only [findBody, codeSnd, codeFst, codeIn, Try.f29, Option.getD_some]
  have B0 := Aside0.mk (And.intro b0 (And.intro b2 (And.intro hB hs)))
  clear b0 b2 b3 hB hs
  have NX := Aside0.mk next
  clear next
  have hix := find_ix7
  by_cases hc : (65280 : Int) ≤ a
  · skip
    go_wp2
    obtain ⟨b0, b2, hB, hs⟩ := B0.out
    refine NX.out 65280 6 _ _ _ _ _ _ _ _ _ _ _ _ _ _ _ _ _ _ _ _ _ _ _ _ _ (by first | rw [if_pos hc] | rw [if_neg (by omega)]) ⟨?_, ?_, ?_, ?_⟩
    · (apply via; (focus (repeat first | (with_reducible assumption) | (with_reducible apply blk_drew) | (with_reducible apply blk_drewN) | (focus ((with_reducible apply blk_new_at); first | rfl | (simp; done))) | (with_reducible apply blk_alloc) | (focus ((with_reducible apply blk_far); rotate_left; first | omega | (dsimp only; omega))) | (with_reducible apply blk_set))); all_goals rfl)
    · (apply via; (focus (repeat first | (with_reducible assumption) | (with_reducible apply blk_drew) | (with_reducible apply blk_drewN) | (focus ((with_reducible apply blk_new_at); first | rfl | (simp; done))) | (with_reducible apply blk_alloc) | (focus ((with_reducible apply blk_far); rotate_left; first | omega | (dsimp only; omega))) | (with_reducible apply blk_set))); all_goals rfl)
    · (repeat first | (with_reducible assumption) | (with_reducible exact Below.refl _ _) | (with_reducible refine Below.drew ?_) | ((with_reducible refine Below.alloc ?_ ?_ _); rotate_left; first | omega | (focus (simp; done)) | (focus (simp; omega))) | ((with_reducible refine Below.setCell ?_ ?_ _); rotate_left; first | omega | (dsimp only; omega)))
    · simp; omega
  · skip
    go_wp2
    obtain ⟨b0, b2, hB, hs⟩ := B0.out
    refine NX.out F R _ _ _ _ _ _ _ _ _ _ _ _ _ _ _ _ _ _ _ _ _ _ _ _ _ (by first | rw [if_pos hc] | rw [if_neg (by omega)]) ⟨?_, ?_, ?_, ?_⟩
    · (apply via; (focus (repeat first | (with_reducible assumption) | (with_reducible apply blk_drew) | (with_reducible apply blk_drewN) | (focus ((with_reducible apply blk_new_at); first | rfl | (simp; done))) | (with_reducible apply blk_alloc) | (focus ((with_reducible apply blk_far); rotate_left; first | omega | (dsimp only; omega))) | (with_reducible apply blk_set))); all_goals rfl)
    · (apply via; (focus (repeat first | (with_reducible assumption) | (with_reducible apply blk_drew) | (with_reducible apply blk_drewN) | (focus ((with_reducible apply blk_new_at); first | rfl | (simp; done))) | (with_reducible apply blk_alloc) | (focus ((with_reducible apply blk_far); rotate_left; first | omega | (dsimp only; omega))) | (with_reducible apply blk_set))); all_goals rfl)
    · (repeat first | (with_reducible assumption) | (with_reducible exact Below.refl _ _) | (with_reducible refine Below.drew ?_) | ((with_reducible refine Below.alloc ?_ ?_ _); rotate_left; first | omega | (focus (simp; done)) | (focus (simp; omega))) | ((with_reducible refine Below.setCell ?_ ?_ _); rotate_left; first | omega | (dsimp only; omega)))
    · simp; omega
theorem find_ix8 (W : World) : (Instr.index 59 (.agg #[.int .u16 0, .int .i64 0, .int .u16 32768, .int .i64 1, .int .u16 40960, .int .i64 2, .int .u16 49152, .int .i64 3, .int .u16 57344, .int .i64 3, .int .u16 65024, .int .i64 4, .int .u16 65184, .int .i64 5, .int .u16 65280, .int .i64 6, .int .u16 65408, .int .i64 7, .int .u16 65535, .int .i64 8]) (.int .i64 8)).run Try.prog W = .ok (.agg #[.int .u16 65408, .int .i64 7]) W := by kernel_rfl
set_option maxHeartbeats 4000000 in
set_option maxRecDepth 100000 in
theorem find_round8 (Q : Exit → Act → World → Prop) (m : Nat) (a F R : Int) (g : Nat) (w W : World) (u5 u6 x7 x8 x9 x10 x11 x12 x13 x14 x15 x16 x17 x18 x19 u22 u23 u24 u25 u26 u27 u28 u29 u30 : Value) (h : FindAt g w W F R)
    (next : ∀ (F' R' : Int) (W' : World) (u5 u6 x7 x8 x9 x10 x11 x12 x13 x14 x15 x16 x17 x18 x19 u22 u23 u24 u25 u26 u27 u28 u29 u30 : Value), (F', R') = (if (65408 : Int) ≤ a then (65408, 7) else (F, R)) → FindAt g w W' F' R' → Code.rounds Try.prog findBody Q m { tmps := #[.int .u16 a, undef, .pointer (some ⟨g, 0, none⟩), .pointer (some ⟨g + 1, 0, none⟩), .pointer (some ⟨g + 1 + 1, 0, none⟩), u5, u6, x7, x8, x9, x10, x11, x12, x13, x14, x15, x16, x17, x18, x19, .agg #[.int .u16 0, .int .i64 0, .int .u16 32768, .int .i64 1, .int .u16 40960, .int .i64 2, .int .u16 49152, .int .i64 3, .int .u16 57344, .int .i64 3, .int .u16 65024, .int .i64 4, .int .u16 65184, .int .i64 5, .int .u16 65280, .int .i64 6, .int .u16 65408, .int .i64 7, .int .u16 65535, .int .i64 8], .int .i64 9, u22, u23, u24, u25, u26, u27, u28, u29, u30], defers := [] } W') :
    Code.rounds Try.prog findBody Q (m + 1) { tmps := #[.int .u16 a, undef, .pointer (some ⟨g, 0, none⟩), .pointer (some ⟨g + 1, 0, none⟩), .pointer (some ⟨g + 1 + 1, 0, none⟩), u5, u6, x7, x8, x9, x10, x11, x12, x13, x14, x15, x16, x17, x18, x19, .agg #[.int .u16 0, .int .i64 0, .int .u16 32768, .int .i64 1, .int .u16 40960, .int .i64 2, .int .u16 49152, .int .i64 3, .int .u16 57344, .int .i64 3, .int .u16 65024, .int .i64 4, .int .u16 65184, .int .i64 5, .int .u16 65280, .int .i64 6, .int .u16 65408, .int .i64 7, .int .u16 65535, .int .i64 8], .int .i64 8, u22, u23, u24, u25, u26, u27, u28, u29, u30], defers := [] } W := by
  rw [rounds_succ]
  have hnext : ∀ (a' : Act) (W' : World), Code.rounds Try.prog findBody Q m a' W' = Code.rounds Try.prog findBody Q m a' W' := fun _ _ => rfl
  obtain ⟨K, hK⟩ : ∃ K, Code.rounds Try.prog findBody Q m = K := ⟨_, rfl⟩
  rw [hK] at next ⊢
  clear hK hnext
  obtain ⟨b0, b2, hB, hs⟩ := h
  have y0 := blk_cell b2 0
  have y1 := blk_cell b2 1
  simp only [List.getElem?_toArray, List.getElem?_cons_zero, List.getElem?_cons_succ] at y0 y1
  have f2 := fun i => blk_frozen b2 i
  have b3 := blk_alloc b2 (.cells #[.int .u16 65408, .int .i64 7] 54)
  have z0 := blk_cell b3 0
  have z1 := blk_cell b3 1
  simp only [List.getElem?_toArray, List.getElem?_cons_zero, List.getElem?_cons_succ] at z0 z1
  have f3 := fun i => blk_frozen b3 i
  simp only [findBody, codeSnd, codeFst, codeIn, Try.f29, Option.getD_some]
  have B0 := Aside0.mk (And.intro b0 (And.intro b2 (And.intro hB hs)))
  clear b0 b2 b3 hB hs
  have NX := Aside0.mk next
  clear next
  have hix := find_ix8
  by_cases hc : (65408 : Int) ≤ a
  · skip
    go_wp2
    obtain ⟨b0, b2, hB, hs⟩ := B0.out
    refine NX.out 65408 7 _ _ _ _ _ _ _ _ _ _ _ _ _ _ _ _ _ _ _ _ _ _ _ _ _ (by first | rw [if_pos hc] | rw [if_neg (by omega)]) ⟨?_, ?_, ?_, ?_⟩
    · (apply via; (focus (repeat first | (with_reducible assumption) | (with_reducible apply blk_drew) | (with_reducible apply blk_drewN) | (focus ((with_reducible apply blk_new_at); first | rfl | (simp; done))) | (with_reducible apply blk_alloc) | (focus ((with_reducible apply blk_far); rotate_left; first | omega | (dsimp only; omega))) | (with_reducible apply blk_set))); all_goals rfl)
    · (apply via; (focus (repeat first | (with_reducible assumption) | (with_reducible apply blk_drew) | (with_reducible apply blk_drewN) | (focus ((with_reducible apply blk_new_at); first | rfl | (simp; done))) | (with_reducible apply blk_alloc) | (focus ((with_reducible apply blk_far); rotate_left; first | omega | (dsimp only; omega))) | (with_reducible apply blk_set))); all_goals rfl)
    · (repeat first | (with_reducible assumption) | (with_reducible exact Below.refl _ _) | (with_reducible refine Below.drew ?_) | ((with_reducible refine Below.alloc ?_ ?_ _); rotate_left; first | omega | (focus (simp; done)) | (focus (simp; omega))) | ((with_reducible refine Below.setCell ?_ ?_ _); rotate_left; first | omega | (dsimp only; omega)))
    · simp; omega
  · skip
    go_wp2
    obtain ⟨b0, b2, hB, hs⟩ := B0.out
    refine NX.out F R _ _ _ _ _ _ _ _ _ _ _ _ _ _ _ _ _ _ _ _ _ _ _ _ _ (by first | rw [if_pos hc] | rw [if_neg (by omega)]) ⟨?_, ?_, ?_, ?_⟩
    · (apply via; (focus (repeat first | (with_reducible assumption) | (with_reducible apply blk_drew) | (with_reducible apply blk_drewN) | (focus ((with_reducible apply blk_new_at); first | rfl | (simp; done))) | (with_reducible apply blk_alloc) | (focus ((with_reducible apply blk_far); rotate_left; first | omega | (dsimp only; omega))) | (with_reducible apply blk_set))); all_goals rfl)
    · (apply via; (focus (repeat first | (with_reducible assumption) | (with_reducible apply blk_drew) | (with_reducible apply blk_drewN) | (focus ((with_reducible apply blk_new_at); first | rfl | (simp; done))) | (with_reducible apply blk_alloc) | (focus ((with_reducible apply blk_far); rotate_left; first | omega | (dsimp only; omega))) | (with_reducible apply blk_set))); all_goals rfl)
    · (repeat first | (with_reducible assumption) | (with_reducible exact Below.refl _ _) | (with_reducible refine Below.drew ?_) | ((with_reducible refine Below.alloc ?_ ?_ _); rotate_left; first | omega | (focus (simp; done)) | (focus (simp; omega))) | ((with_reducible refine Below.setCell ?_ ?_ _); rotate_left; first | omega | (dsimp only; omega)))
    · simp; omega
theorem find_ix9 (W : World) : (Instr.index 59 (.agg #[.int .u16 0, .int .i64 0, .int .u16 32768, .int .i64 1, .int .u16 40960, .int .i64 2, .int .u16 49152, .int .i64 3, .int .u16 57344, .int .i64 3, .int .u16 65024, .int .i64 4, .int .u16 65184, .int .i64 5, .int .u16 65280, .int .i64 6, .int .u16 65408, .int .i64 7, .int .u16 65535, .int .i64 8]) (.int .i64 9)).run Try.prog W = .ok (.agg #[.int .u16 65535, .int .i64 8]) W := by kernel_rfl
set_option maxHeartbeats 4000000 in
set_option maxRecDepth 100000 in
theorem find_round9 (Q : Exit → Act → World → Prop) (m : Nat) (a F R : Int) (g : Nat) (w W : World) (u5 u6 x7 x8 x9 x10 x11 x12 x13 x14 x15 x16 x17 x18 x19 u22 u23 u24 u25 u26 u27 u28 u29 u30 : Value) (h : FindAt g w W F R)
    (next : ∀ (F' R' : Int) (W' : World) (u5 u6 x7 x8 x9 x10 x11 x12 x13 x14 x15 x16 x17 x18 x19 u22 u23 u24 u25 u26 u27 u28 u29 u30 : Value), (F', R') = (if (65535 : Int) ≤ a then (65535, 8) else (F, R)) → FindAt g w W' F' R' → Code.rounds Try.prog findBody Q m { tmps := #[.int .u16 a, undef, .pointer (some ⟨g, 0, none⟩), .pointer (some ⟨g + 1, 0, none⟩), .pointer (some ⟨g + 1 + 1, 0, none⟩), u5, u6, x7, x8, x9, x10, x11, x12, x13, x14, x15, x16, x17, x18, x19, .agg #[.int .u16 0, .int .i64 0, .int .u16 32768, .int .i64 1, .int .u16 40960, .int .i64 2, .int .u16 49152, .int .i64 3, .int .u16 57344, .int .i64 3, .int .u16 65024, .int .i64 4, .int .u16 65184, .int .i64 5, .int .u16 65280, .int .i64 6, .int .u16 65408, .int .i64 7, .int .u16 65535, .int .i64 8], .int .i64 10, u22, u23, u24, u25, u26, u27, u28, u29, u30], defers := [] } W') :
    Code.rounds Try.prog findBody Q (m + 1) { tmps := #[.int .u16 a, undef, .pointer (some ⟨g, 0, none⟩), .pointer (some ⟨g + 1, 0, none⟩), .pointer (some ⟨g + 1 + 1, 0, none⟩), u5, u6, x7, x8, x9, x10, x11, x12, x13, x14, x15, x16, x17, x18, x19, .agg #[.int .u16 0, .int .i64 0, .int .u16 32768, .int .i64 1, .int .u16 40960, .int .i64 2, .int .u16 49152, .int .i64 3, .int .u16 57344, .int .i64 3, .int .u16 65024, .int .i64 4, .int .u16 65184, .int .i64 5, .int .u16 65280, .int .i64 6, .int .u16 65408, .int .i64 7, .int .u16 65535, .int .i64 8], .int .i64 9, u22, u23, u24, u25, u26, u27, u28, u29, u30], defers := [] } W := by
  rw [rounds_succ]
  have hnext : ∀ (a' : Act) (W' : World), Code.rounds Try.prog findBody Q m a' W' = Code.rounds Try.prog findBody Q m a' W' := fun _ _ => rfl
  obtain ⟨K, hK⟩ : ∃ K, Code.rounds Try.prog findBody Q m = K := ⟨_, rfl⟩
  rw [hK] at next ⊢
  clear hK hnext
  obtain ⟨b0, b2, hB, hs⟩ := h
  have y0 := blk_cell b2 0
  have y1 := blk_cell b2 1
  simp only [List.getElem?_toArray, List.getElem?_cons_zero, List.getElem?_cons_succ] at y0 y1
  have f2 := fun i => blk_frozen b2 i
  have b3 := blk_alloc b2 (.cells #[.int .u16 65535, .int .i64 8] 54)
  have z0 := blk_cell b3 0
  have z1 := blk_cell b3 1
  simp only [List.getElem?_toArray, List.getElem?_cons_zero, List.getElem?_cons_succ] at z0 z1
  have f3 := fun i => blk_frozen b3 i
  simp only [findBody, codeSnd, codeFst, codeIn, Try.f29, Option.getD_some]
  have B0 := Aside0.mk (And.intro b0 (And.intro b2 (And.intro hB hs)))
  clear b0 b2 b3 hB hs
  have NX := Aside0.mk next
  clear next
  have hix := find_ix9
  by_cases hc : (65535 : Int) ≤ a
  · skip
    go_wp2
    obtain ⟨b0, b2, hB, hs⟩ := B0.out
    refine NX.out 65535 8 _ _ _ _ _ _ _ _ _ _ _ _ _ _ _ _ _ _ _ _ _ _ _ _ _ (by first | rw [if_pos hc] | rw [if_neg (by omega)]) ⟨?_, ?_, ?_, ?_⟩
    · (apply via; (focus (repeat first | (with_reducible assumption) | (with_reducible apply blk_drew) | (with_reducible apply blk_drewN) | (focus ((with_reducible apply blk_new_at); first | rfl | (simp; done))) | (with_reducible apply blk_alloc) | (focus ((with_reducible apply blk_far); rotate_left; first | omega | (dsimp only; omega))) | (with_reducible apply blk_set))); all_goals rfl)
    · (apply via; (focus (repeat first | (with_reducible assumption) | (with_reducible apply blk_drew) | (with_reducible apply blk_drewN) | (focus ((with_reducible apply blk_new_at); first | rfl | (simp; done))) | (with_reducible apply blk_alloc) | (focus ((with_reducible apply blk_far); rotate_left; first | omega | (dsimp only; omega))) | (with_reducible apply blk_set))); all_goals rfl)
    · (repeat first | (with_reducible assumption) | (with_reducible exact Below.refl _ _) | (with_reducible refine Below.drew ?_) | ((with_reducible refine Below.alloc ?_ ?_ _); rotate_left; first | omega | (focus (simp; done)) | (focus (simp; omega))) | ((with_reducible refine Below.setCell ?_ ?_ _); rotate_left; first | omega | (dsimp only; omega)))
    · simp; omega
  · skip
    go_wp2
    obtain ⟨b0, b2, hB, hs⟩ := B0.out
    refine NX.out F R _ _ _ _ _ _ _ _ _ _ _ _ _ _ _ _ _ _ _ _ _ _ _ _ _ (by first | rw [if_pos hc] | rw [if_neg (by omega)]) ⟨?_, ?_, ?_, ?_⟩
    · (apply via; (focus (repeat first | (with_reducible assumption) | (with_reducible apply blk_drew) | (with_reducible apply blk_drewN) | (focus ((with_reducible apply blk_new_at); first | rfl | (simp; done))) | (with_reducible apply blk_alloc) | (focus ((with_reducible apply blk_far); rotate_left; first | omega | (dsimp only; omega))) | (with_reducible apply blk_set))); all_goals rfl)
    · (apply via; (focus (repeat first | (with_reducible assumption) | (with_reducible apply blk_drew) | (with_reducible apply blk_drewN) | (focus ((with_reducible apply blk_new_at); first | rfl | (simp; done))) | (with_reducible apply blk_alloc) | (focus ((with_reducible apply blk_far); rotate_left; first | omega | (dsimp only; omega))) | (with_reducible apply blk_set))); all_goals rfl)
    · (repeat first | (with_reducible assumption) | (with_reducible exact Below.refl _ _) | (with_reducible refine Below.drew ?_) | ((with_reducible refine Below.alloc ?_ ?_ _); rotate_left; first | omega | (focus (simp; done)) | (focus (simp; omega))) | ((with_reducible refine Below.setCell ?_ ?_ _); rotate_left; first | omega | (dsimp only; omega)))
    · simp; omega
set_option maxHeartbeats 4000000 in
set_option maxRecDepth 100000 in
theorem find_end (Q : Exit → Act → World → Prop) (m : Nat) (a : Int) (g : Nat) (W : World) (u5 u6 x7 x8 x9 x10 x11 x12 x13 x14 x15 x16 x17 x18 x19 u22 u23 u24 u25 u26 u27 u28 u29 u30 : Value)
    (next : ∀ (u5 u6 x7 x8 x9 x10 x11 x12 x13 x14 x15 x16 x17 x18 x19 u22 u23 u24 u25 u26 u27 u28 u29 u30 : Value), Q (.exit 0) { tmps := #[.int .u16 a, undef, .pointer (some ⟨g, 0, none⟩), .pointer (some ⟨g + 1, 0, none⟩), .pointer (some ⟨g + 1 + 1, 0, none⟩), u5, u6, x7, x8, x9, x10, x11, x12, x13, x14, x15, x16, x17, x18, x19, .agg #[.int .u16 0, .int .i64 0, .int .u16 32768, .int .i64 1, .int .u16 40960, .int .i64 2, .int .u16 49152, .int .i64 3, .int .u16 57344, .int .i64 3, .int .u16 65024, .int .i64 4, .int .u16 65184, .int .i64 5, .int .u16 65280, .int .i64 6, .int .u16 65408, .int .i64 7, .int .u16 65535, .int .i64 8], .int .i64 10, u22, u23, u24, u25, u26, u27, u28, u29, u30], defers := [] } W) :
    Code.rounds Try.prog findBody Q (m + 1) { tmps := #[.int .u16 a, undef, .pointer (some ⟨g, 0, none⟩), .pointer (some ⟨g + 1, 0, none⟩), .pointer (some ⟨g + 1 + 1, 0, none⟩), u5, u6, x7, x8, x9, x10, x11, x12, x13, x14, x15, x16, x17, x18, x19, .agg #[.int .u16 0, .int .i64 0, .int .u16 32768, .int .i64 1, .int .u16 40960, .int .i64 2, .int .u16 49152, .int .i64 3, .int .u16 57344, .int .i64 3, .int .u16 65024, .int .i64 4, .int .u16 65184, .int .i64 5, .int .u16 65280, .int .i64 6, .int .u16 65408, .int .i64 7, .int .u16 65535, .int .i64 8], .int .i64 10, u22, u23, u24, u25, u26, u27, u28, u29, u30], defers := [] } W := by
  rw [rounds_succ]
  obtain ⟨K, hK⟩ : ∃ K, Code.rounds Try.prog findBody Q m = K := ⟨_, rfl⟩
  rw [hK]
  clear hK
  have NX := Aside0.mk next
  clear next
  simp only [findBody, codeSnd, codeFst, codeIn, Try.f29, Option.getD_some]
  go_wp2
  exact NX.out _ _ _ _ _ _ _ _ _ _ _ _ _ _ _ _ _ _ _ _ _ _ _ _
theorem exec_store {P : Program} {ρ : Operand → Value} {o : Oper} {t : TypeId} {p x : Operand} {W W' : World} (ho : o.op = .store t p x) (h : (Instr.storeAt t (ρ p) (ρ x)).run P W = .ok () W') :
    (execOp ρ o).run P W = .ok .skip W' := by
  unfold execOp
  rw [ho]
  simp [h, Result.andThen]
theorem exec_load {P : Program} {ρ : Operand → Value} {o : Oper} {t : TypeId} {p : Operand} {W W' : World} {v : Value} (ho : o.op = .load t p) (h : (Instr.loadAt t (ρ p)).run P W = .ok v W') :
    (execOp ρ o).run P W = .ok (.value v) W' := by
  unfold execOp
  rw [ho]
  simp [h, Result.andThen]
theorem load_run {P : Program} {w : World} {g : Nat} {e : TypeId} {cur : Array Value} (t : TypeId) (n : Nat) (el : TypeId) (hh : w.heap[g]? = some (.cells cur e (0, 0))) (hu : P.underlying t = some (.array n el)) (hi : (P.info? t).map (·.size) = some cur.size) :
    (Instr.loadAt t (.pointer (some ⟨g, 0, none⟩))).run P w = .ok (.agg cur) w := by
  simp only [Instr.loadAt, Instr.sureAddr, Sem.run_bind, Sem.run_pure, Result.andThen]
  exact run_loadVar_row _ _ e t cur (0, 0) _ hh hu rfl hi
theorem i59 : (Try.prog.info? 59).map (·.size) = some 20 := by kernel_rfl
theorem st59 (w : World) : (Instr.storeAt 59 (.pointer (some ⟨w.heap.size + 1, 0, none⟩)) (.agg #[.int .u16 0, .int .i64 0, .int .u16 32768, .int .i64 1, .int .u16 40960, .int .i64 2, .int .u16 49152, .int .i64 3, .int .u16 57344, .int .i64 3, .int .u16 65024, .int .i64 4, .int .u16 65184, .int .i64 5, .int .u16 65280, .int .i64 6, .int .u16 65408, .int .i64 7, .int .u16 65535, .int .i64 8])).run Try.prog ((w.alloc (.cells #[.int .u16 0, .int .i64 0] 54)).alloc (.cells #[.int .u16 0, .int .i64 0, .int .u16 0, .int .i64 0, .int .u16 0, .int .i64 0, .int .u16 0, .int .i64 0, .int .u16 0, .int .i64 0, .int .u16 0, .int .i64 0, .int .u16 0, .int .i64 0, .int .u16 0, .int .i64 0, .int .u16 0, .int .i64 0, .int .u16 0, .int .i64 0] 59)) = .ok () ((w.alloc (.cells #[.int .u16 0, .int .i64 0] 54)).alloc (.cells #[.int .u16 0, .int .i64 0, .int .u16 32768, .int .i64 1, .int .u16 40960, .int .i64 2, .int .u16 49152, .int .i64 3, .int .u16 57344, .int .i64 3, .int .u16 65024, .int .i64 4, .int .u16 65184, .int .i64 5, .int .u16 65280, .int .i64 6, .int .u16 65408, .int .i64 7, .int .u16 65535, .int .i64 8] 59)) := by
  have := run_storeAt_new (P := Try.prog) (w.alloc (.cells #[.int .u16 0, .int .i64 0] 54)) 59 #[.int .u16 0, .int .i64 0, .int .u16 0, .int .i64 0, .int .u16 0, .int .i64 0, .int .u16 0, .int .i64 0, .int .u16 0, .int .i64 0, .int .u16 0, .int .i64 0, .int .u16 0, .int .i64 0, .int .u16 0, .int .i64 0, .int .u16 0, .int .i64 0, .int .u16 0, .int .i64 0] #[.int .u16 0, .int .i64 0, .int .u16 32768, .int .i64 1, .int .u16 40960, .int .i64 2, .int .u16 49152, .int .i64 3, .int .u16 57344, .int .i64 3, .int .u16 65024, .int .i64 4, .int .u16 65184, .int .i64 5, .int .u16 65280, .int .i64 6, .int .u16 65408, .int .i64 7, .int .u16 65535, .int .i64 8] i59 rfl (by kernel_rfl)
  rw [World.size_alloc] at this
  exact this
theorem ld59 (w : World) : (Instr.loadAt 59 (.pointer (some ⟨w.heap.size + 1, 0, none⟩))).run Try.prog (((w.alloc (.cells #[.int .u16 0, .int .i64 0] 54)).alloc (.cells #[.int .u16 0, .int .i64 0, .int .u16 32768, .int .i64 1, .int .u16 40960, .int .i64 2, .int .u16 49152, .int .i64 3, .int .u16 57344, .int .i64 3, .int .u16 65024, .int .i64 4, .int .u16 65184, .int .i64 5, .int .u16 65280, .int .i64 6, .int .u16 65408, .int .i64 7, .int .u16 65535, .int .i64 8] 59)).alloc (.cells #[.int .u16 0, .int .i64 0] 54)) = .ok (.agg #[.int .u16 0, .int .i64 0, .int .u16 32768, .int .i64 1, .int .u16 40960, .int .i64 2, .int .u16 49152, .int .i64 3, .int .u16 57344, .int .i64 3, .int .u16 65024, .int .i64 4, .int .u16 65184, .int .i64 5, .int .u16 65280, .int .i64 6, .int .u16 65408, .int .i64 7, .int .u16 65535, .int .i64 8]) (((w.alloc (.cells #[.int .u16 0, .int .i64 0] 54)).alloc (.cells #[.int .u16 0, .int .i64 0, .int .u16 32768, .int .i64 1, .int .u16 40960, .int .i64 2, .int .u16 49152, .int .i64 3, .int .u16 57344, .int .i64 3, .int .u16 65024, .int .i64 4, .int .u16 65184, .int .i64 5, .int .u16 65280, .int .i64 6, .int .u16 65408, .int .i64 7, .int .u16 65535, .int .i64 8] 59)).alloc (.cells #[.int .u16 0, .int .i64 0] 54)) :=
  load_run 59 10 54 (blk_alloc (by have := blk_new (w.alloc (.cells #[.int .u16 0, .int .i64 0] 54)) (.cells #[.int .u16 0, .int .i64 0, .int .u16 32768, .int .i64 1, .int .u16 40960, .int .i64 2, .int .u16 49152, .int .i64 3, .int .u16 57344, .int .i64 3, .int .u16 65024, .int .i64 4, .int .u16 65184, .int .i64 5, .int .u16 65280, .int .i64 6, .int .u16 65408, .int .i64 7, .int .u16 65535, .int .i64 8] 59); rw [World.size_alloc] at this; exact this) _) Try.underlying59 i59
def findTab : List (Int × Int) := [(0, 0), (32768, 1), (40960, 2), (49152, 3), (57344, 3), (65024, 4), (65184, 5), (65280, 6), (65408, 7), (65535, 8)]
set_option maxHeartbeats 40000000 in
set_option maxRecDepth 100000 in
theorem find_walk (a F R : Int) (w : World) (hFR : bestOf a findTab (0, 0) = (F, R)) : Calls Try.prog 29 #[.int .u16 a] w fun e w' => e = .returned (.agg #[.int .u16 F, .int .i64 R]) ∧ Below w.heap.size w w' := by
  go_enter Try.func29, Try.ntmps29
  go_wp2_with (first | ((with_reducible refine gate_store (t := 59) (p := 3) (v := .tmp 17) rfl ?_); refine store_event rfl rfl rfl (exec_store rfl (st59 w)) ?_; rintro _ rfl) | ((with_reducible refine gate_dst (N := 20) rfl ?_); refine Kd.event_run rfl (exec_load rfl (ld59 w)) ?_))
  refine wp_loop_rounds 11 ?_
  refine find_round0 _ 10 a 0 0 w.heap.size w _ _ _ _ _ _ _ _ _ _ _ _ _ _ _ _ _ _ _ _ _ _ _ _ _ ⟨?_, ?_, ?_, ?_⟩ ?_
  · (apply via; (focus (repeat first | (with_reducible assumption) | (with_reducible apply blk_drew) | (with_reducible apply blk_drewN) | (focus ((with_reducible apply blk_new_at); first | rfl | (simp; done))) | (with_reducible apply blk_alloc) | (focus ((with_reducible apply blk_far); rotate_left; first | omega | (dsimp only; omega))) | (with_reducible apply blk_set))); all_goals rfl)
  · (apply via; (focus (repeat first | (with_reducible assumption) | (with_reducible apply blk_drew) | (with_reducible apply blk_drewN) | (focus ((with_reducible apply blk_new_at); first | rfl | (simp; done))) | (with_reducible apply blk_alloc) | (focus ((with_reducible apply blk_far); rotate_left; first | omega | (dsimp only; omega))) | (with_reducible apply blk_set))); all_goals rfl)
  · (repeat first | (with_reducible assumption) | (with_reducible exact Below.refl _ _) | (with_reducible refine Below.drew ?_) | ((with_reducible refine Below.alloc ?_ ?_ _); rotate_left; first | omega | (focus (simp; done)) | (focus (simp; omega))) | ((with_reducible refine Below.setCell ?_ ?_ _); rotate_left; first | omega | (dsimp only; omega)))
  · first | (simp; done) | (simp; omega)
  intro F1 R1 W1 u5 u6 x7 x8 x9 x10 x11 x12 x13 x14 x15 x16 x17 x18 x19 u22 u23 u24 u25 u26 u27 u28 u29 u30 e1 h1
  refine find_round1 _ 9 a F1 R1 w.heap.size w W1 u5 u6 x7 x8 x9 x10 x11 x12 x13 x14 x15 x16 x17 x18 x19 u22 u23 u24 u25 u26 u27 u28 u29 u30 h1 ?_
  clear h1
  clear u5 u6 x7 x8 x9 x10 x11 x12 x13 x14 x15 x16 x17 x18 x19 u22 u23 u24 u25 u26 u27 u28 u29 u30
  intro F2 R2 W2 u5 u6 x7 x8 x9 x10 x11 x12 x13 x14 x15 x16 x17 x18 x19 u22 u23 u24 u25 u26 u27 u28 u29 u30 e2 h2
  refine find_round2 _ 8 a F2 R2 w.heap.size w W2 u5 u6 x7 x8 x9 x10 x11 x12 x13 x14 x15 x16 x17 x18 x19 u22 u23 u24 u25 u26 u27 u28 u29 u30 h2 ?_
  clear h2
  clear u5 u6 x7 x8 x9 x10 x11 x12 x13 x14 x15 x16 x17 x18 x19 u22 u23 u24 u25 u26 u27 u28 u29 u30
  intro F3 R3 W3 u5 u6 x7 x8 x9 x10 x11 x12 x13 x14 x15 x16 x17 x18 x19 u22 u23 u24 u25 u26 u27 u28 u29 u30 e3 h3
  refine find_round3 _ 7 a F3 R3 w.heap.size w W3 u5 u6 x7 x8 x9 x10 x11 x12 x13 x14 x15 x16 x17 x18 x19 u22 u23 u24 u25 u26 u27 u28 u29 u30 h3 ?_
  clear h3
  clear u5 u6 x7 x8 x9 x10 x11 x12 x13 x14 x15 x16 x17 x18 x19 u22 u23 u24 u25 u26 u27 u28 u29 u30
  intro F4 R4 W4 u5 u6 x7 x8 x9 x10 x11 x12 x13 x14 x15 x16 x17 x18 x19 u22 u23 u24 u25 u26 u27 u28 u29 u30 e4 h4
  refine find_round4 _ 6 a F4 R4 w.heap.size w W4 u5 u6 x7 x8 x9 x10 x11 x12 x13 x14 x15 x16 x17 x18 x19 u22 u23 u24 u25 u26 u27 u28 u29 u30 h4 ?_
  clear h4
  clear u5 u6 x7 x8 x9 x10 x11 x12 x13 x14 x15 x16 x17 x18 x19 u22 u23 u24 u25 u26 u27 u28 u29 u30
  intro F5 R5 W5 u5 u6 x7 x8 x9 x10 x11 x12 x13 x14 x15 x16 x17 x18 x19 u22 u23 u24 u25 u26 u27 u28 u29 u30 e5 h5
  refine find_round5 _ 5 a F5 R5 w.heap.size w W5 u5 u6 x7 x8 x9 x10 x11 x12 x13 x14 x15 x16 x17 x18 x19 u22 u23 u24 u25 u26 u27 u28 u29 u30 h5 ?_
  clear h5
  clear u5 u6 x7 x8 x9 x10 x11 x12 x13 x14 x15 x16 x17 x18 x19 u22 u23 u24 u25 u26 u27 u28 u29 u30
  intro F6 R6 W6 u5 u6 x7 x8 x9 x10 x11 x12 x13 x14 x15 x16 x17 x18 x19 u22 u23 u24 u25 u26 u27 u28 u29 u30 e6 h6
  refine find_round6 _ 4 a F6 R6 w.heap.size w W6 u5 u6 x7 x8 x9 x10 x11 x12 x13 x14 x15 x16 x17 x18 x19 u22 u23 u24 u25 u26 u27 u28 u29 u30 h6 ?_
  clear h6
  clear u5 u6 x7 x8 x9 x10 x11 x12 x13 x14 x15 x16 x17 x18 x19 u22 u23 u24 u25 u26 u27 u28 u29 u30
  intro F7 R7 W7 u5 u6 x7 x8 x9 x10 x11 x12 x13 x14 x15 x16 x17 x18 x19 u22 u23 u24 u25 u26 u27 u28 u29 u30 e7 h7
  refine find_round7 _ 3 a F7 R7 w.heap.size w W7 u5 u6 x7 x8 x9 x10 x11 x12 x13 x14 x15 x16 x17 x18 x19 u22 u23 u24 u25 u26 u27 u28 u29 u30 h7 ?_
  clear h7
  clear u5 u6 x7 x8 x9 x10 x11 x12 x13 x14 x15 x16 x17 x18 x19 u22 u23 u24 u25 u26 u27 u28 u29 u30
  intro F8 R8 W8 u5 u6 x7 x8 x9 x10 x11 x12 x13 x14 x15 x16 x17 x18 x19 u22 u23 u24 u25 u26 u27 u28 u29 u30 e8 h8
  refine find_round8 _ 2 a F8 R8 w.heap.size w W8 u5 u6 x7 x8 x9 x10 x11 x12 x13 x14 x15 x16 x17 x18 x19 u22 u23 u24 u25 u26 u27 u28 u29 u30 h8 ?_
  clear h8
  clear u5 u6 x7 x8 x9 x10 x11 x12 x13 x14 x15 x16 x17 x18 x19 u22 u23 u24 u25 u26 u27 u28 u29 u30
  intro F9 R9 W9 u5 u6 x7 x8 x9 x10 x11 x12 x13 x14 x15 x16 x17 x18 x19 u22 u23 u24 u25 u26 u27 u28 u29 u30 e9 h9
  refine find_round9 _ 1 a F9 R9 w.heap.size w W9 u5 u6 x7 x8 x9 x10 x11 x12 x13 x14 x15 x16 x17 x18 x19 u22 u23 u24 u25 u26 u27 u28 u29 u30 h9 ?_
  clear h9
  clear u5 u6 x7 x8 x9 x10 x11 x12 x13 x14 x15 x16 x17 x18 x19 u22 u23 u24 u25 u26 u27 u28 u29 u30
  intro F10 R10 W10 u5 u6 x7 x8 x9 x10 x11 x12 x13 x14 x15 x16 x17 x18 x19 u22 u23 u24 u25 u26 u27 u28 u29 u30 e10 h10
  refine find_end _ 0 a w.heap.size W10 u5 u6 x7 x8 x9 x10 x11 x12 x13 x14 x15 x16 x17 x18 x19 u22 u23 u24 u25 u26 u27 u28 u29 u30 ?_
  clear u5 u6 x7 x8 x9 x10 x11 x12 x13 x14 x15 x16 x17 x18 x19 u22 u23 u24 u25 u26 u27 u28 u29 u30
  intro u5 u6 x7 x8 x9 x10 x11 x12 x13 x14 x15 x16 x17 x18 x19 u22 u23 u24 u25 u26 u27 u28 u29 u30
  have hbest : (F10, R10) = bestOf a findTab (0, 0) := by
    unfold findTab
    simp only [bestOf]
    rw [e10, e9, e8, e7, e6, e5, e4, e3, e2, e1]
  obtain ⟨rfl, rfl⟩ : F10 = F ∧ R10 = R := by have := hbest.trans hFR; simpa using this
  clear hFR hbest e1 e2 e3 e4 e5 e6 e7 e8 e9 e10
  obtain ⟨b0, b2, hB, hs⟩ := h10
  have y0 := blk_cell b2 0
  have y1 := blk_cell b2 1
  have z0 := blk_cell b0 0
  have z1 := blk_cell b0 1
  simp only [List.getElem?_toArray, List.getElem?_cons_zero, List.getElem?_cons_succ] at y0 y1 z0 z1
  have f0 := fun i => blk_frozen b0 i
  have B0 := Aside0.mk (And.intro b0 (And.intro b2 (And.intro hB hs)))
  clear b0 b2 hB hs
  go_wp2
  refine at_end _ (fun W2 => W2.heap[w.heap.size]? = some (.cells #[.int .u16 F10, .int .i64 R10] 54 (0, 0)) ∧ Below w.heap.size w W2) ?hf2 ?hg2
  case hf2 =>
    obtain ⟨b0, b2, hB, hs⟩ := B0.out
    refine ⟨?_, ?_⟩
    · (apply via; (focus (repeat first | (with_reducible assumption) | (with_reducible apply blk_drew) | (with_reducible apply blk_drewN) | (focus ((with_reducible apply blk_new_at); first | rfl | (simp; done))) | (with_reducible apply blk_alloc) | (focus ((with_reducible apply blk_far); rotate_left; first | omega | (dsimp only; omega))) | (with_reducible apply blk_set))); all_goals rfl)
    · (repeat first | (with_reducible assumption) | (with_reducible exact Below.refl _ _) | (with_reducible refine Below.drew ?_) | ((with_reducible refine Below.alloc ?_ ?_ _); rotate_left; first | omega | (focus (simp; done)) | (focus (simp; omega))) | ((with_reducible refine Below.setCell ?_ ?_ _); rotate_left; first | omega | (dsimp only; omega)))
  case hg2 =>
    rintro W2 ⟨r1, hB2⟩
    refine bodyPost_ret (results_cell_row rfl _ _ w.heap.size 54 _ (0, 0) _ rfl r1 Try.underlying54 rfl (by kernel_rfl)) rfl ?_
    exact ⟨rfl, hB2⟩
end Go.Proofs.Ytlfcpmiajcimfaa.P
