/- The sheet of tiles in memory: its block, its bytes, its rows. No condition but the hypotheses that stand in each. -/
import Derived.Test.YtmigbinllnejoaaSync
import Derived.Test.YtmigbinllnejoaaPx6
namespace Go.Proofs.Ytmigbinllnejoaa.P
open Go.RowKit Go.Proofs.YtmigbinllnejoaaW.PrintWords Go.Proofs.YtmigbinllnejoaaW.PrintLast Go.Proofs.YtmigbinllnejoaaW.PrintMore
set_option linter.unusedVariables false
set_option linter.unusedSimpArgs false
set_option maxHeartbeats 2000000
set_option maxRecDepth 100000
def rowCells (x y : Int) : List Value := [.int .u8 (px x y 0), .int .u8 (px x y 1), .int .u8 (px x y 2), .int .u8 (px x y 3), .int .u8 (px x y 4), .int .u8 (px x y 5), .int .u8 (px x y 6), .int .u8 (px x y 7)]
def rowsOf (f : Nat → Int) (k : Nat) : List Value := (List.range k).flatMap (fun j => rowCells (f (2 * j)) (f (2 * j + 1)))
theorem rowsOf_succ (f : Nat → Int) (k : Nat) : rowsOf f (k + 1) = rowsOf f k ++ rowCells (f (2 * k)) (f (2 * k + 1)) := by
  unfold rowsOf
  rw [List.range_succ, List.flatMap_append]
  simp
theorem rowsOf_len (f : Nat → Int) (k : Nat) : (rowsOf f k).length = 8 * k := by
  induction k with
  | zero => rfl
  | succ k ih => rw [rowsOf_succ, List.length_append, ih]; simp [rowCells]; omega
theorem rowsOf_at (f : Nat → Int) (k n j : Nat) (hk : k < n) (hj : j < 8) : (rowsOf f n)[8 * k + j]? = some (.int .u8 (px (f (2 * k)) (f (2 * k + 1)) (j : Int))) := by
  induction n with
  | zero => omega
  | succ n ih =>
    rw [rowsOf_succ]
    by_cases h : k < n
    · rw [List.getElem?_append_left (by rw [rowsOf_len]; omega)]
      exact ih h
    · have e : k = n := by omega
      subst e
      rw [List.getElem?_append_right (by rw [rowsOf_len]; omega), rowsOf_len, show 8 * k + j - 8 * k = j by omega]
      match j, hj with
      | 0, _ => rfl
      | 1, _ => rfl
      | 2, _ => rfl
      | 3, _ => rfl
      | 4, _ => rfl
      | 5, _ => rfl
      | 6, _ => rfl
      | 7, _ => rfl
/-- All that was is as it was, but block b. -/
structure Blo (b : Nat) (w₀ W : World) : Prop where
  os : W.os = w₀.os
  tape : W.tape = w₀.tape
  output : W.output = w₀.output
  size : w₀.heap.size ≤ W.heap.size
  block : ∀ k, k < w₀.heap.size → k ≠ b → W.heap[k]? = w₀.heap[k]?
theorem Blo.refl (b : Nat) (w : World) : Blo b w w := ⟨rfl, rfl, rfl, Nat.le_refl _, fun _ _ _ => rfl⟩
theorem Blo.of {b : Nat} {w₀ W : World} (h : Below w₀.heap.size w₀ W) : Blo b w₀ W := ⟨h.os, h.tape, h.output, h.size, fun k hk _ => h.block k hk⟩
theorem Blo.to {b : Nat} {w₀ W : World} (h : Blo b w₀ W) (hb : w₀.heap.size ≤ b) : Below w₀.heap.size w₀ W := ⟨h.os, h.tape, h.output, h.size, fun k hk => h.block k hk (by omega)⟩
theorem Blo.below {b : Nat} {w₀ W W' : World} (h : Blo b w₀ W) (k : Below W.heap.size W W') : Blo b w₀ W' :=
  ⟨k.os.trans h.os, k.tape.trans h.tape, k.output.trans h.output, Nat.le_trans h.size k.size, fun i hi hn => (k.block i (Nat.lt_of_lt_of_le hi h.size)).trans (h.block i hi hn)⟩
theorem Blo.grown {b : Nat} {w₀ W W' : World} (h : Blo b w₀ W) {row : Option Nat} (k : W.grownBy W' row) (hr : ∀ i, row = some i → w₀.heap.size ≤ i) : Blo b w₀ W' :=
  ⟨k.os.trans h.os, k.tape.trans h.tape, k.output.trans h.output, Nat.le_trans h.size k.size, fun i hi hn => (k.block i (Nat.lt_of_lt_of_le hi h.size) (fun e => by have := hr i e.symm; omega)).trans (h.block i hi hn)⟩
theorem Blo.set {b : Nat} {w₀ W : World} (h : Blo b w₀ W) (p : Addr) (hp : p.block = b ∨ w₀.heap.size ≤ p.block) (x : Value) : Blo b w₀ (W.setCell p x) :=
  ⟨h.os, h.tape, h.output, by simp [World.setCell]; exact h.size, fun i hi hn => (Below.heap_setCell W p x i (by rcases hp with e | e <;> omega)).trans (h.block i hi hn)⟩
theorem Blo.trans {b c : Nat} {w₀ w₁ W : World} (h : Below w₀.heap.size w₀ w₁) (k : Blo b w₁ W) : Blo b w₀ W :=
  ⟨k.os.trans h.os, k.tape.trans h.tape, k.output.trans h.output, Nat.le_trans h.size k.size, fun i hi hn => (k.block i (Nat.lt_of_lt_of_le hi h.size) hn).trans (h.block i hi)⟩
/-- The sheet's block b, its bytes' block g. -/
structure Sh (w₀ : World) (b g : Nat) (f : Nat → Int) (d l q : Int) (rv : Value) (W : World) : Prop where
  c0 : W.cell? ⟨b, 0, none⟩ = some (.int .u32 d)
  c1 : W.cell? ⟨b, 1, none⟩ = some (.int .i32 l)
  c3 : W.cell? ⟨b, 3, none⟩ = some (.int .i64 q)
  c4 : W.cell? ⟨b, 4, none⟩ = some (.slice (some ⟨g, 0, none⟩) 6144 6144)
  c5 : W.cell? ⟨b, 5, none⟩ = some rv
  fz : ∀ i, W.frozen? ⟨b, i, none⟩ = false
  fg : ∀ i, W.frozen? ⟨g, i, none⟩ = false
  bs : ∀ i, i < 6144 → W.cell? ⟨g, i, none⟩ = some (.int .u8 (f i))
  lb : b < W.heap.size
  lg : g < W.heap.size
  hB : Blo b w₀ W
  ne : b ≠ g
section
variable {w₀ W W' : World} {b g : Nat} {f : Nat → Int} {d l q : Int} {rv : Value}
theorem Sh.kept (h : Sh w₀ b g f d l q rv W) (hb : W'.heap[b]? = W.heap[b]?) (hg : W'.heap[g]? = W.heap[g]?) (hs : W.heap.size ≤ W'.heap.size) (hB : Blo b w₀ W') : Sh w₀ b g f d l q rv W' where
  c0 := (World.cell?_of_block (a := ⟨b, 0, none⟩) hb).trans h.c0
  c1 := (World.cell?_of_block (a := ⟨b, 1, none⟩) hb).trans h.c1
  c3 := (World.cell?_of_block (a := ⟨b, 3, none⟩) hb).trans h.c3
  c4 := (World.cell?_of_block (a := ⟨b, 4, none⟩) hb).trans h.c4
  c5 := (World.cell?_of_block (a := ⟨b, 5, none⟩) hb).trans h.c5
  fz := fun i => (World.frozen?_of_block (a := ⟨b, i, none⟩) hb).trans (h.fz i)
  fg := fun i => (World.frozen?_of_block (a := ⟨g, i, none⟩) hg).trans (h.fg i)
  bs := fun i hi => (World.cell?_of_block (a := ⟨g, i, none⟩) hg).trans (h.bs i hi)
  lb := Nat.lt_of_lt_of_le h.lb hs
  lg := Nat.lt_of_lt_of_le h.lg hs
  hB := hB
  ne := h.ne
theorem Sh.below (h : Sh w₀ b g f d l q rv W) (hb : Below W.heap.size W W') : Sh w₀ b g f d l q rv W' := h.kept (hb.block b h.lb) (hb.block g h.lg) hb.size (h.hB.below hb)
theorem Sh.grown (h : Sh w₀ b g f d l q rv W) {row : Option Nat} (hg : W.grownBy W' row) (h1 : some b ≠ row) (h2 : some g ≠ row) (hB : Blo b w₀ W') : Sh w₀ b g f d l q rv W' := h.kept (hg.block b h.lb h1) (hg.block g h.lg h2) hg.size hB
theorem sh_at {i c j : Nat} {x y : Value} (h : W.cell? ⟨b, i, none⟩ = some y) : (W.setCell ⟨c, j, none⟩ x).cell? ⟨b, i, none⟩ = some (if b = c ∧ i = j then x else y) := by
  by_cases e : b = c ∧ i = j
  · obtain ⟨rfl, rfl⟩ := e
    rw [if_pos ⟨rfl, rfl⟩]
    exact World.cell?_setCell_same W _ _ h
  · rw [if_neg e]
    exact (World.cell?_setCell_other _ _ _ _ (by intro e2; injection e2; omega)).trans h
theorem Sh.rows (h : Sh w₀ b g f d l q rv W) (x : Value) : Sh w₀ b g f d l q x (W.setCell ⟨b, 5, none⟩ x) where
  c0 := by rw [sh_at h.c0]; simp
  c1 := by rw [sh_at h.c1]; simp
  c3 := by rw [sh_at h.c3]; simp
  c4 := by rw [sh_at h.c4]; simp
  c5 := by rw [sh_at h.c5]; simp
  fz := fun i => by rw [World.frozen?_setCell]; exact h.fz i
  fg := fun i => by rw [World.frozen?_setCell]; exact h.fg i
  bs := fun i hi => by rw [sh_at (h.bs i hi), if_neg (by have := h.ne; omega)]
  lb := by simp [World.setCell]; exact h.lb
  lg := by simp [World.setCell]; exact h.lg
  hB := h.hB.set ⟨b, 5, none⟩ (.inl rfl) x
  ne := h.ne
theorem Sh.asks (h : Sh w₀ b g f d l q rv W) (x : Int) : Sh w₀ b g f d l x rv (W.setCell ⟨b, 3, none⟩ (.int .i64 x)) where
  c0 := by rw [sh_at h.c0]; simp
  c1 := by rw [sh_at h.c1]; simp
  c3 := by rw [sh_at h.c3]; simp
  c4 := by rw [sh_at h.c4]; simp
  c5 := by rw [sh_at h.c5]; simp
  fz := fun i => by rw [World.frozen?_setCell]; exact h.fz i
  fg := fun i => by rw [World.frozen?_setCell]; exact h.fg i
  bs := fun i hi => by rw [sh_at (h.bs i hi), if_neg (by have := h.ne; omega)]
  lb := by simp [World.setCell]; exact h.lb
  lg := by simp [World.setCell]; exact h.lg
  hB := h.hB.set ⟨b, 3, none⟩ (.inl rfl) _
  ne := h.ne
theorem Sh.done (h : Sh w₀ b g f d l q rv W) (x : Int) : Sh w₀ b g f x l q rv (W.setCell ⟨b, 0, none⟩ (.int .u32 x)) where
  c0 := by rw [sh_at h.c0]; simp
  c1 := by rw [sh_at h.c1]; simp
  c3 := by rw [sh_at h.c3]; simp
  c4 := by rw [sh_at h.c4]; simp
  c5 := by rw [sh_at h.c5]; simp
  fz := fun i => by rw [World.frozen?_setCell]; exact h.fz i
  fg := fun i => by rw [World.frozen?_setCell]; exact h.fg i
  bs := fun i hi => by rw [sh_at (h.bs i hi), if_neg (by have := h.ne; omega)]
  lb := by simp [World.setCell]; exact h.lb
  lg := by simp [World.setCell]; exact h.lg
  hB := h.hB.set ⟨b, 0, none⟩ (.inl rfl) _
  ne := h.ne
theorem Sh.lock (h : Sh w₀ b g f d l q rv W) (x : Int) : Sh w₀ b g f d x q rv (W.setCell ⟨b, 1, none⟩ (.int .i32 x)) where
  c0 := by rw [sh_at h.c0]; simp
  c1 := by rw [sh_at h.c1]; simp
  c3 := by rw [sh_at h.c3]; simp
  c4 := by rw [sh_at h.c4]; simp
  c5 := by rw [sh_at h.c5]; simp
  fz := fun i => by rw [World.frozen?_setCell]; exact h.fz i
  fg := fun i => by rw [World.frozen?_setCell]; exact h.fg i
  bs := fun i hi => by rw [sh_at (h.bs i hi), if_neg (by have := h.ne; omega)]
  lb := by simp [World.setCell]; exact h.lb
  lg := by simp [World.setCell]; exact h.lg
  hB := h.hB.set ⟨b, 1, none⟩ (.inl rfl) _
  ne := h.ne
end
end Go.Proofs.Ytmigbinllnejoaa.P
