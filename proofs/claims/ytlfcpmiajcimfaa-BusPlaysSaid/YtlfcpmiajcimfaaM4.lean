/- The memories as four functions: what get and put do to them, and the contracts of bus.New, Get, Put, Object over them. No condition but the hypotheses that stand in each. -/
import Derived.Test.YtlfcpmiajcimfaaNew
namespace Go.Proofs.Ytlfcpmiajcimfaa.P
open Go.RowKit Go.Proofs.YtlfcpmiajcimfaaW.PrintWords Go.Proofs.YtlfcpmiajcimfaaW.PrintLast Go.Proofs.YtlfcpmiajcimfaaW.PrintMore
set_option linter.unusedVariables false
set_option linter.unusedSimpArgs false
set_option maxHeartbeats 2000000
/-! ### The memories as functions -/
/-- Four rows of bytes: Vram, Wram, Oam, Hram. -/
structure M4 where
  v : Nat → Int
  q : Nat → Int
  o : Nat → Int
  h : Nat → Int
def upd (f : Nat → Int) (k : Nat) (x : Int) : Nat → Int := fun i => if i = k then x else f i
def M4.get (m : M4) (a : Nat) : Int :=
  if a < 32768 then 255 else if a < 40960 then m.v (a - 32768) else if a < 49152 then 255 else if a < 57344 then m.q (a - 49152) else if a < 65024 then m.q (a - 57344)
  else if a < 65184 then m.o (a - 65024) else if a < 65408 then 255 else if a < 65535 then m.h (a - 65408) else 255
def M4.put (m : M4) (a : Nat) (x : Int) : M4 :=
  if a < 32768 then m else if a < 40960 then { m with v := upd m.v (a - 32768) x } else if a < 49152 then m else if a < 57344 then { m with q := upd m.q (a - 49152) x } else if a < 65024 then { m with q := upd m.q (a - 57344) x }
  else if a < 65184 then { m with o := upd m.o (a - 65024) x } else if a < 65408 then m else if a < 65535 then { m with h := upd m.h (a - 65408) x } else m
def M4.zero : M4 := ⟨fun _ => 0, fun _ => 0, fun _ => 0, fun _ => 0⟩
/-- The memories' blocks: the struct's (bm), Vram's (bv), Wram's (bw). -/
structure MemAt (W : World) (bm bv bw : Nat) (m : M4) : Prop where
  ne1 : bm ≠ bv
  ne2 : bm ≠ bw
  ne3 : bv ≠ bw
  s0 : W.cell? ⟨bm, 0, none⟩ = some (.slice (some ⟨bv, 0, none⟩) 8192 8192)
  s1 : W.cell? ⟨bm, 1, none⟩ = some (.slice (some ⟨bw, 0, none⟩) 8192 8192)
  v : ∀ i, i < 8192 → W.cell? ⟨bv, i, none⟩ = some (.int .u8 (m.v i))
  q : ∀ i, i < 8192 → W.cell? ⟨bw, i, none⟩ = some (.int .u8 (m.q i))
  o : ∀ i, i < 160 → W.cell? ⟨bm, 2 + i, none⟩ = some (.int .u8 (m.o i))
  h : ∀ i, i < 127 → W.cell? ⟨bm, 162 + i, none⟩ = some (.int .u8 (m.h i))
  fm : ∀ i, W.frozen? ⟨bm, i, none⟩ = false
  fv : ∀ i, W.frozen? ⟨bv, i, none⟩ = false
  fw : ∀ i, W.frozen? ⟨bw, i, none⟩ = false
  lm : bm < W.heap.size
  lv : bv < W.heap.size
  lw : bw < W.heap.size
theorem MemAt.below {W W' : World} {bm bv bw : Nat} {m : M4} (M : MemAt W bm bv bw m) (hb : Below W.heap.size W W') : MemAt W' bm bv bw m where
  ne1 := M.ne1
  ne2 := M.ne2
  ne3 := M.ne3
  s0 := (hb.cell (p := ⟨bm, 0, none⟩) M.lm).trans M.s0
  s1 := (hb.cell (p := ⟨bm, 1, none⟩) M.lm).trans M.s1
  v := fun i hi => (hb.cell (p := ⟨bv, i, none⟩) M.lv).trans (M.v i hi)
  q := fun i hi => (hb.cell (p := ⟨bw, i, none⟩) M.lw).trans (M.q i hi)
  o := fun i hi => (hb.cell (p := ⟨bm, 2 + i, none⟩) M.lm).trans (M.o i hi)
  h := fun i hi => (hb.cell (p := ⟨bm, 162 + i, none⟩) M.lm).trans (M.h i hi)
  fm := fun i => (World.frozen?_of_block (hb.block bm M.lm)).trans (M.fm i)
  fv := fun i => (World.frozen?_of_block (hb.block bv M.lv)).trans (M.fv i)
  fw := fun i => (World.frozen?_of_block (hb.block bw M.lw)).trans (M.fw i)
  lm := Nat.lt_of_lt_of_le M.lm hb.size
  lv := Nat.lt_of_lt_of_le M.lv hb.size
  lw := Nat.lt_of_lt_of_le M.lw hb.size
theorem ne_at {b c i j : Nat} (h : b ≠ c ∨ i ≠ j) : (⟨b, i, none⟩ : Addr) ≠ ⟨c, j, none⟩ := by
  intro e
  injection e with e1 e2
  omega
theorem cell_set {W : World} {b i c j : Nat} {x : Value} {y : Value} (h : W.cell? ⟨b, i, none⟩ = some y) : (W.setCell ⟨c, j, none⟩ x).cell? ⟨b, i, none⟩ = some (if b = c ∧ i = j then x else y) := by
  by_cases e : b = c ∧ i = j
  · obtain ⟨rfl, rfl⟩ := e
    rw [if_pos ⟨rfl, rfl⟩]
    exact World.cell?_setCell_same' _ _ _ (by rw [h]; rfl)
  · rw [if_neg e]
    exact (World.cell?_setCell_other _ _ _ _ (ne_at (by omega))).trans h
theorem size_set (W : World) (p : Addr) (x : Value) : (W.setCell p x).heap.size = W.heap.size := by simp [World.setCell]
theorem cell_far {W : World} {b i c j : Nat} {x : Value} {y : Value} (hn : b ≠ c ∨ i ≠ j) (h : W.cell? ⟨b, i, none⟩ = some y) : (W.setCell ⟨c, j, none⟩ x).cell? ⟨b, i, none⟩ = some y := by
  rw [cell_set h, if_neg (by omega)]
theorem cell_upd {W : World} {b i k : Nat} {d : Nat} {f : Nat → Int} {x : Int} (h : W.cell? ⟨b, d + i, none⟩ = some (.int .u8 (f i))) : (W.setCell ⟨b, d + k, none⟩ (.int .u8 x)).cell? ⟨b, d + i, none⟩ = some (.int .u8 (upd f k x i)) := by
  rw [cell_set h]
  unfold upd
  by_cases e : i = k
  · subst e; simp
  · rw [if_neg (by omega), if_neg e]
theorem cell_upd0 {W : World} {b i k : Nat} {f : Nat → Int} {x : Int} (h : W.cell? ⟨b, i, none⟩ = some (.int .u8 (f i))) : (W.setCell ⟨b, k, none⟩ (.int .u8 x)).cell? ⟨b, i, none⟩ = some (.int .u8 (upd f k x i)) := by
  rw [cell_set h]
  unfold upd
  by_cases e : i = k
  · subst e; simp
  · rw [if_neg (by omega), if_neg e]
theorem MemAt.set_v {W : World} {bm bv bw : Nat} {m : M4} (M : MemAt W bm bv bw m) (k : Nat) (x : Int) : MemAt (W.setCell ⟨bv, k, none⟩ (.int .u8 x)) bm bv bw { m with v := upd m.v k x } where
  ne1 := M.ne1
  ne2 := M.ne2
  ne3 := M.ne3
  s0 := cell_far (.inl M.ne1) M.s0
  s1 := cell_far (.inl M.ne1) M.s1
  v := fun i hi => cell_upd0 (M.v i hi)
  q := fun i hi => cell_far (.inl (Ne.symm M.ne3)) (M.q i hi)
  o := fun i hi => cell_far (.inl M.ne1) (M.o i hi)
  h := fun i hi => cell_far (.inl M.ne1) (M.h i hi)
  fm := fun i => by rw [World.frozen?_setCell]; exact M.fm i
  fv := fun i => by rw [World.frozen?_setCell]; exact M.fv i
  fw := fun i => by rw [World.frozen?_setCell]; exact M.fw i
  lm := by rw [size_set]; exact M.lm
  lv := by rw [size_set]; exact M.lv
  lw := by rw [size_set]; exact M.lw
theorem MemAt.set_q {W : World} {bm bv bw : Nat} {m : M4} (M : MemAt W bm bv bw m) (k : Nat) (x : Int) : MemAt (W.setCell ⟨bw, k, none⟩ (.int .u8 x)) bm bv bw { m with q := upd m.q k x } where
  ne1 := M.ne1
  ne2 := M.ne2
  ne3 := M.ne3
  s0 := cell_far (.inl M.ne2) M.s0
  s1 := cell_far (.inl M.ne2) M.s1
  v := fun i hi => cell_far (.inl M.ne3) (M.v i hi)
  q := fun i hi => cell_upd0 (M.q i hi)
  o := fun i hi => cell_far (.inl M.ne2) (M.o i hi)
  h := fun i hi => cell_far (.inl M.ne2) (M.h i hi)
  fm := fun i => by rw [World.frozen?_setCell]; exact M.fm i
  fv := fun i => by rw [World.frozen?_setCell]; exact M.fv i
  fw := fun i => by rw [World.frozen?_setCell]; exact M.fw i
  lm := by rw [size_set]; exact M.lm
  lv := by rw [size_set]; exact M.lv
  lw := by rw [size_set]; exact M.lw
theorem MemAt.set_o {W : World} {bm bv bw : Nat} {m : M4} (M : MemAt W bm bv bw m) (k : Nat) (hk : k < 160) (x : Int) : MemAt (W.setCell ⟨bm, 2 + k, none⟩ (.int .u8 x)) bm bv bw { m with o := upd m.o k x } where
  ne1 := M.ne1
  ne2 := M.ne2
  ne3 := M.ne3
  s0 := cell_far (.inr (by omega)) M.s0
  s1 := cell_far (.inr (by omega)) M.s1
  v := fun i hi => cell_far (.inl (Ne.symm M.ne1)) (M.v i hi)
  q := fun i hi => cell_far (.inl (Ne.symm M.ne2)) (M.q i hi)
  o := fun i hi => cell_upd (M.o i hi)
  h := fun i hi => cell_far (.inr (by omega)) (M.h i hi)
  fm := fun i => by rw [World.frozen?_setCell]; exact M.fm i
  fv := fun i => by rw [World.frozen?_setCell]; exact M.fv i
  fw := fun i => by rw [World.frozen?_setCell]; exact M.fw i
  lm := by rw [size_set]; exact M.lm
  lv := by rw [size_set]; exact M.lv
  lw := by rw [size_set]; exact M.lw
theorem MemAt.set_h {W : World} {bm bv bw : Nat} {m : M4} (M : MemAt W bm bv bw m) (k : Nat) (hk : k < 127) (x : Int) : MemAt (W.setCell ⟨bm, 162 + k, none⟩ (.int .u8 x)) bm bv bw { m with h := upd m.h k x } where
  ne1 := M.ne1
  ne2 := M.ne2
  ne3 := M.ne3
  s0 := cell_far (.inr (by omega)) M.s0
  s1 := cell_far (.inr (by omega)) M.s1
  v := fun i hi => cell_far (.inl (Ne.symm M.ne1)) (M.v i hi)
  q := fun i hi => cell_far (.inl (Ne.symm M.ne2)) (M.q i hi)
  o := fun i hi => cell_far (.inr (by omega)) (M.o i hi)
  h := fun i hi => cell_upd (M.h i hi)
  fm := fun i => by rw [World.frozen?_setCell]; exact M.fm i
  fv := fun i => by rw [World.frozen?_setCell]; exact M.fv i
  fw := fun i => by rw [World.frozen?_setCell]; exact M.fw i
  lm := by rw [size_set]; exact M.lm
  lv := by rw [size_set]; exact M.lv
  lw := by rw [size_set]; exact M.lw
theorem best_at (a : Int) : bestOf a findTab (0, 0) = if 65535 ≤ a then (65535, 8) else if 65408 ≤ a then (65408, 7) else if 65280 ≤ a then (65280, 6) else if 65184 ≤ a then (65184, 5) else if 65024 ≤ a then (65024, 4) else if 57344 ≤ a then (57344, 3) else if 49152 ≤ a then (49152, 3) else if 40960 ≤ a then (40960, 2) else if 32768 ≤ a then (32768, 1) else if 0 ≤ a then (0, 0) else (0, 0) := by
  unfold findTab
  simp only [bestOf]
/-- A place's row: its begin F, its region R. -/
theorem best_cases (a : Nat) (ha : a < 65536) : ∃ F R : Nat, bestOf (a : Int) findTab (0, 0) = ((F : Int), (R : Int)) ∧ F ≤ a ∧ wrap64 (IntKind.u16.wrap ((a : Int) - (F : Int))) = ((a - F : Nat) : Int) ∧
    ((a < 32768 ∧ F = 0 ∧ R = 0) ∨ (32768 ≤ a ∧ a < 40960 ∧ F = 32768 ∧ R = 1) ∨ (40960 ≤ a ∧ a < 49152 ∧ F = 40960 ∧ R = 2) ∨ (49152 ≤ a ∧ a < 57344 ∧ F = 49152 ∧ R = 3) ∨ (57344 ≤ a ∧ a < 65024 ∧ F = 57344 ∧ R = 3) ∨
     (65024 ≤ a ∧ a < 65184 ∧ F = 65024 ∧ R = 4) ∨ (65184 ≤ a ∧ a < 65280 ∧ F = 65184 ∧ R = 5) ∨ (65280 ≤ a ∧ a < 65408 ∧ F = 65280 ∧ R = 6) ∨ (65408 ≤ a ∧ a < 65535 ∧ F = 65408 ∧ R = 7) ∨ (a = 65535 ∧ F = 65535 ∧ R = 8)) := by
  have hw : ∀ F : Nat, F ≤ a → wrap64 (IntKind.u16.wrap ((a : Int) - (F : Int))) = ((a - F : Nat) : Int) := fun F hF => by
    rw [show IntKind.u16.wrap ((a : Int) - (F : Int)) = ((a : Int) - F) % 65536 by simp [IntKind.wrap, IntKind.bits, IntKind.signed]]
    unfold wrap64
    omega
  rw [best_at]
  by_cases h9 : (65535 : Int) ≤ a
  · exact ⟨65535, 8, by rw [if_pos h9]; rfl, by omega, hw _ (by omega), .inr (.inr (.inr (.inr (.inr (.inr (.inr (.inr (.inr (⟨by omega, rfl, rfl⟩)))))))))⟩
  rw [if_neg h9]
  by_cases h8 : (65408 : Int) ≤ a
  · exact ⟨65408, 7, by rw [if_pos h8]; rfl, by omega, hw _ (by omega), .inr (.inr (.inr (.inr (.inr (.inr (.inr (.inr (.inl ⟨by omega, by omega, rfl, rfl⟩))))))))⟩
  rw [if_neg h8]
  by_cases h7 : (65280 : Int) ≤ a
  · exact ⟨65280, 6, by rw [if_pos h7]; rfl, by omega, hw _ (by omega), .inr (.inr (.inr (.inr (.inr (.inr (.inr (.inl ⟨by omega, by omega, rfl, rfl⟩)))))))⟩
  rw [if_neg h7]
  by_cases h6 : (65184 : Int) ≤ a
  · exact ⟨65184, 5, by rw [if_pos h6]; rfl, by omega, hw _ (by omega), .inr (.inr (.inr (.inr (.inr (.inr (.inl ⟨by omega, by omega, rfl, rfl⟩))))))⟩
  rw [if_neg h6]
  by_cases h5 : (65024 : Int) ≤ a
  · exact ⟨65024, 4, by rw [if_pos h5]; rfl, by omega, hw _ (by omega), .inr (.inr (.inr (.inr (.inr (.inl ⟨by omega, by omega, rfl, rfl⟩)))))⟩
  rw [if_neg h5]
  by_cases h4 : (57344 : Int) ≤ a
  · exact ⟨57344, 3, by rw [if_pos h4]; rfl, by omega, hw _ (by omega), .inr (.inr (.inr (.inr (.inl ⟨by omega, by omega, rfl, rfl⟩))))⟩
  rw [if_neg h4]
  by_cases h3 : (49152 : Int) ≤ a
  · exact ⟨49152, 3, by rw [if_pos h3]; rfl, by omega, hw _ (by omega), .inr (.inr (.inr (.inl ⟨by omega, by omega, rfl, rfl⟩)))⟩
  rw [if_neg h3]
  by_cases h2 : (40960 : Int) ≤ a
  · exact ⟨40960, 2, by rw [if_pos h2]; rfl, by omega, hw _ (by omega), .inr (.inr (.inl ⟨by omega, by omega, rfl, rfl⟩))⟩
  rw [if_neg h2]
  by_cases h1 : (32768 : Int) ≤ a
  · exact ⟨32768, 1, by rw [if_pos h1]; rfl, by omega, hw _ (by omega), .inr (.inl ⟨by omega, by omega, rfl, rfl⟩)⟩
  rw [if_neg h1]
  exact ⟨0, 0, by rw [if_pos (by omega)]; rfl, by omega, hw _ (by omega), .inl ⟨by omega, rfl, rfl⟩⟩
theorem zeros5_at (i : Nat) (h : i < 8192) : zeros5[i]? = some (.int .u8 0) := by
  simp [zeros5, madeCells, h, Nat.mod_one]
theorem memCells_at (s0 s1 : Value) (i : Nat) (h : i < 287) : (memCells s0 s1)[2 + i]? = some (.int .u8 0) := by
  simp [memCells, Array.getElem?_append, h]
theorem memCells_0 (s0 s1 : Value) : (memCells s0 s1)[0]? = some s0 := by simp [memCells, Array.getElem?_append]
theorem memCells_1 (s0 s1 : Value) : (memCells s0 s1)[1]? = some s1 := by simp [memCells, Array.getElem?_append]
theorem new_calls (w : World) :
    Calls Try.prog 17 #[] w fun e w' => ∃ bm bv bw : Nat, e = .returned (.pointer (some ⟨bm, 0, none⟩)) ∧ w.heap.size ≤ bm ∧ w.heap.size ≤ bv ∧ w.heap.size ≤ bw ∧ MemAt w' bm bv bw M4.zero ∧ Below w.heap.size w w' := by
  refine (new_raw w).mono ?_
  rintro e w' ⟨bm, bv, bw, rfl, g1, g2, g3, n1, n2, n3, h1, h2, h3, hB⟩
  refine ⟨bm, bv, bw, rfl, g1, g2, g3, ?_, hB⟩
  exact { ne1 := n1, ne2 := n2, ne3 := n3, s0 := (blk_cell h1 0).trans (memCells_0 _ _), s1 := (blk_cell h1 1).trans (memCells_1 _ _), v := fun i hi => (blk_cell h2 i).trans (zeros5_at i hi), q := fun i hi => (blk_cell h3 i).trans (zeros5_at i hi),
          o := fun i hi => (blk_cell h1 _).trans (memCells_at _ _ i (by omega)), h := fun i hi => by have := (blk_cell h1 (2 + (160 + i))).trans (memCells_at _ _ (160 + i) (by omega)); rw [show 2 + (160 + i) = 162 + i by omega] at this; exact this,
          fm := blk_frozen h1, fv := blk_frozen h2, fw := blk_frozen h3, lm := blk_lt h1, lv := blk_lt h2, lw := blk_lt h3 }
theorem cells_mem {W : World} {bm bv bw : Nat} {m : M4} (M : MemAt W bm bv bw m) (r : Int) : Calls Try.prog 30 #[.pointer (some ⟨bm, 0, none⟩), .int .i64 r] W fun e w2 => e = .returned (sliceOf bm bv bw r) ∧ w2 = W := cells_calls bm bv bw r W M.s0 M.s1
theorem get_mem {W : World} {bm bv bw : Nat} {m : M4} (M : MemAt W bm bv bw m) (a : Nat) (ha : a < 65536) :
    Calls Try.prog 19 #[.pointer (some ⟨bm, 0, none⟩), .int .u16 (a : Int)] W fun e w' => e = .returned (.int .u8 (m.get a)) ∧ Below W.heap.size W w' := by
  obtain ⟨F, R, hFR, hF, hA, hc⟩ := best_cases a ha
  have hn : ∀ r : Int, r = R → sliceOf bm bv bw r = .slice none 0 0 → m.get a = 255 → Calls Try.prog 19 #[.pointer (some ⟨bm, 0, none⟩), .int .u16 (a : Int)] W fun e w' => e = .returned (.int .u8 (m.get a)) ∧ Below W.heap.size W w' := fun r hr hs hg => by
    subst hr
    rw [hg]
    exact get_none _ a F R W _ hFR hA (fun w' hb => by rw [← hs]; exact cells_mem (M.below hb) _)
  rcases hc with ⟨h1, rfl, rfl⟩ | ⟨h1, h2, rfl, rfl⟩ | ⟨h1, h2, rfl, rfl⟩ | ⟨h1, h2, rfl, rfl⟩ | ⟨h1, h2, rfl, rfl⟩ | ⟨h1, h2, rfl, rfl⟩ | ⟨h1, h2, rfl, rfl⟩ | ⟨h1, h2, rfl, rfl⟩ | ⟨h1, h2, rfl, rfl⟩ | ⟨h1, rfl, rfl⟩
  · exact hn _ rfl rfl (by unfold M4.get; rw [if_pos h1])
  · have e : m.get a = m.v (a - 32768) := by unfold M4.get; rw [if_neg (by omega), if_pos h2]
    rw [e]
    exact get_some _ a _ _ _ (a - 32768) bv 0 8192 W hFR hA (by omega) (fun w' hb => cells_mem (M.below hb) _) M.lv (by rw [Nat.zero_add]; exact M.v _ (by omega))
  · exact hn _ rfl rfl (by unfold M4.get; rw [if_neg (by omega), if_neg (by omega), if_pos h2])
  · have e : m.get a = m.q (a - 49152) := by unfold M4.get; rw [if_neg (by omega), if_neg (by omega), if_neg (by omega), if_pos h2]
    rw [e]
    exact get_some _ a _ _ _ (a - 49152) bw 0 8192 W hFR hA (by omega) (fun w' hb => cells_mem (M.below hb) _) M.lw (by rw [Nat.zero_add]; exact M.q _ (by omega))
  · have e : m.get a = m.q (a - 57344) := by unfold M4.get; rw [if_neg (by omega), if_neg (by omega), if_neg (by omega), if_neg (by omega), if_pos h2]
    rw [e]
    exact get_some _ a _ _ _ (a - 57344) bw 0 8192 W hFR hA (by omega) (fun w' hb => cells_mem (M.below hb) _) M.lw (by rw [Nat.zero_add]; exact M.q _ (by omega))
  · have e : m.get a = m.o (a - 65024) := by unfold M4.get; rw [if_neg (by omega), if_neg (by omega), if_neg (by omega), if_neg (by omega), if_neg (by omega), if_pos h2]
    rw [e]
    exact get_some _ a _ _ _ (a - 65024) bm 2 160 W hFR hA (by omega) (fun w' hb => cells_mem (M.below hb) _) M.lm (M.o _ (by omega))
  · exact hn _ rfl rfl (by unfold M4.get; rw [if_neg (by omega), if_neg (by omega), if_neg (by omega), if_neg (by omega), if_neg (by omega), if_neg (by omega), if_pos (by omega)])
  · exact hn _ rfl rfl (by unfold M4.get; rw [if_neg (by omega), if_neg (by omega), if_neg (by omega), if_neg (by omega), if_neg (by omega), if_neg (by omega), if_pos (by omega)])
  · have e : m.get a = m.h (a - 65408) := by unfold M4.get; rw [if_neg (by omega), if_neg (by omega), if_neg (by omega), if_neg (by omega), if_neg (by omega), if_neg (by omega), if_neg (by omega), if_pos h2]
    rw [e]
    exact get_some _ a _ _ _ (a - 65408) bm 162 127 W hFR hA (by omega) (fun w' hb => cells_mem (M.below hb) _) M.lm (M.h _ (by omega))
  · exact hn _ rfl rfl (by unfold M4.get; rw [if_neg (by omega), if_neg (by omega), if_neg (by omega), if_neg (by omega), if_neg (by omega), if_neg (by omega), if_neg (by omega), if_neg (by omega)])
/-- What lay below n₀ lies as it lay. -/
theorem put_mem {W : World} {bm bv bw : Nat} {m : M4} (M : MemAt W bm bv bw m) (a : Nat) (ha : a < 65536) (x : Int) (n₀ : Nat) (w₀ : World) (hB : Below n₀ w₀ W) (k1 : n₀ ≤ bm) (k2 : n₀ ≤ bv) (k3 : n₀ ≤ bw) (k4 : n₀ ≤ w₀.heap.size) :
    Calls Try.prog 18 #[.pointer (some ⟨bm, 0, none⟩), .int .u16 (a : Int), .int .u8 x] W fun e w' => e = .returned (.tuple #[]) ∧ MemAt w' bm bv bw (m.put a x) ∧ Below n₀ w₀ w' := by
  obtain ⟨F, R, hFR, hF, hA, hc⟩ := best_cases a ha
  have up : ∀ {w1 : World}, Below W.heap.size W w1 → Below n₀ w₀ w1 := fun h => hB.trans (h.mono (Nat.le_trans k4 hB.size))
  have hn : ∀ r : Int, r = R → sliceOf bm bv bw r = .slice none 0 0 → m.put a x = m → Calls Try.prog 18 #[.pointer (some ⟨bm, 0, none⟩), .int .u16 (a : Int), .int .u8 x] W fun e w' => e = .returned (.tuple #[]) ∧ MemAt w' bm bv bw (m.put a x) ∧ Below n₀ w₀ w' := fun r hr hs hg => by
    subst hr
    rw [hg]
    refine (put_none _ a F R x _ W hFR hA (fun w' hb => by rw [← hs]; exact cells_mem (M.below hb) _)).mono ?_
    rintro e w' ⟨rfl, hb⟩
    exact ⟨rfl, M.below hb, up hb⟩
  rcases hc with ⟨h1, rfl, rfl⟩ | ⟨h1, h2, rfl, rfl⟩ | ⟨h1, h2, rfl, rfl⟩ | ⟨h1, h2, rfl, rfl⟩ | ⟨h1, h2, rfl, rfl⟩ | ⟨h1, h2, rfl, rfl⟩ | ⟨h1, h2, rfl, rfl⟩ | ⟨h1, h2, rfl, rfl⟩ | ⟨h1, h2, rfl, rfl⟩ | ⟨h1, rfl, rfl⟩
  · exact hn _ rfl rfl (by unfold M4.put; rw [if_pos h1])
  · have e : m.put a x = { m with v := upd m.v (a - 32768) x } := by unfold M4.put; rw [if_neg (by omega), if_pos h2]
    rw [e]
    refine (put_some _ a _ _ x _ (a - 32768) bv 0 8192 W hFR hA (by omega) (fun w' hb => cells_mem (M.below hb) _) M.lv (by rw [Nat.zero_add]; exact M.v _ (by omega)) (M.fv _)).mono ?_
    rintro e w' ⟨rfl, w1, hb, rfl⟩
    rw [Nat.zero_add]
    exact ⟨rfl, (M.below hb).set_v _ _, (up hb).setCell (p := ⟨bv, _, none⟩) k2 _⟩
  · exact hn _ rfl rfl (by unfold M4.put; rw [if_neg (by omega), if_neg (by omega), if_pos h2])
  · have e : m.put a x = { m with q := upd m.q (a - 49152) x } := by unfold M4.put; rw [if_neg (by omega), if_neg (by omega), if_neg (by omega), if_pos h2]
    rw [e]
    refine (put_some _ a _ _ x _ (a - 49152) bw 0 8192 W hFR hA (by omega) (fun w' hb => cells_mem (M.below hb) _) M.lw (by rw [Nat.zero_add]; exact M.q _ (by omega)) (M.fw _)).mono ?_
    rintro e w' ⟨rfl, w1, hb, rfl⟩
    rw [Nat.zero_add]
    exact ⟨rfl, (M.below hb).set_q _ _, (up hb).setCell (p := ⟨bw, _, none⟩) k3 _⟩
  · have e : m.put a x = { m with q := upd m.q (a - 57344) x } := by unfold M4.put; rw [if_neg (by omega), if_neg (by omega), if_neg (by omega), if_neg (by omega), if_pos h2]
    rw [e]
    refine (put_some _ a _ _ x _ (a - 57344) bw 0 8192 W hFR hA (by omega) (fun w' hb => cells_mem (M.below hb) _) M.lw (by rw [Nat.zero_add]; exact M.q _ (by omega)) (M.fw _)).mono ?_
    rintro e w' ⟨rfl, w1, hb, rfl⟩
    rw [Nat.zero_add]
    exact ⟨rfl, (M.below hb).set_q _ _, (up hb).setCell (p := ⟨bw, _, none⟩) k3 _⟩
  · have e : m.put a x = { m with o := upd m.o (a - 65024) x } := by unfold M4.put; rw [if_neg (by omega), if_neg (by omega), if_neg (by omega), if_neg (by omega), if_neg (by omega), if_pos h2]
    rw [e]
    refine (put_some _ a _ _ x _ (a - 65024) bm 2 160 W hFR hA (by omega) (fun w' hb => cells_mem (M.below hb) _) M.lm (M.o _ (by omega)) (M.fm _)).mono ?_
    rintro e w' ⟨rfl, w1, hb, rfl⟩
    exact ⟨rfl, (M.below hb).set_o _ (by omega) _, (up hb).setCell (p := ⟨bm, _, none⟩) k1 _⟩
  · exact hn _ rfl rfl (by unfold M4.put; rw [if_neg (by omega), if_neg (by omega), if_neg (by omega), if_neg (by omega), if_neg (by omega), if_neg (by omega), if_pos (by omega)])
  · exact hn _ rfl rfl (by unfold M4.put; rw [if_neg (by omega), if_neg (by omega), if_neg (by omega), if_neg (by omega), if_neg (by omega), if_neg (by omega), if_pos (by omega)])
  · have e : m.put a x = { m with h := upd m.h (a - 65408) x } := by unfold M4.put; rw [if_neg (by omega), if_neg (by omega), if_neg (by omega), if_neg (by omega), if_neg (by omega), if_neg (by omega), if_neg (by omega), if_pos h2]
    rw [e]
    refine (put_some _ a _ _ x _ (a - 65408) bm 162 127 W hFR hA (by omega) (fun w' hb => cells_mem (M.below hb) _) M.lm (M.h _ (by omega)) (M.fm _)).mono ?_
    rintro e w' ⟨rfl, w1, hb, rfl⟩
    exact ⟨rfl, (M.below hb).set_h _ (by omega) _, (up hb).setCell (p := ⟨bm, _, none⟩) k1 _⟩
  · exact hn _ rfl rfl (by unfold M4.put; rw [if_neg (by omega), if_neg (by omega), if_neg (by omega), if_neg (by omega), if_neg (by omega), if_neg (by omega), if_neg (by omega), if_neg (by omega)])
def M4.object (m : M4) (k : Nat) (x : Int) : M4 := if k < 160 then { m with o := upd m.o k x } else m
theorem object_mem {W : World} {bm bv bw : Nat} {m : M4} (M : MemAt W bm bv bw m) (k : Nat) (hk : k < 256) (x : Int) (n₀ : Nat) (w₀ : World) (hB : Below n₀ w₀ W) (k1 : n₀ ≤ bm) :
    Calls Try.prog 25 #[.pointer (some ⟨bm, 0, none⟩), .int .u8 (k : Int), .int .u8 x] W fun e w' => e = .returned (.tuple #[]) ∧ MemAt w' bm bv bw (m.object k x) ∧ Below n₀ w₀ w' := by
  unfold M4.object
  by_cases h : k < 160
  · rw [if_pos h]
    refine (object_some _ x _ k bm 2 160 W h (by omega) (cells_mem M 4) M.lm (M.o _ h) (M.fm _)).mono ?_
    rintro e w' ⟨rfl, rfl⟩
    exact ⟨rfl, M.set_o k h x, hB.setCell (p := ⟨bm, _, none⟩) k1 _⟩
  · rw [if_neg h]
    refine (object_none _ x k 160 _ W (by omega) hk (cells_mem M 4)).mono ?_
    rintro e w' ⟨rfl, rfl⟩
    exact ⟨rfl, M, hB⟩
end Go.Proofs.Ytlfcpmiajcimfaa.P
