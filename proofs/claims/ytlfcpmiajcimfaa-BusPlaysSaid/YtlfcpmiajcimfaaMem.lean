/- Contracts of the memories' methods (bus.Memory). No condition but the equations that stand in each. -/
import Derived.Test.YtlfcpmiajcimfaaFind
import Derived.Lib.SliceRun
namespace Go.Proofs.Ytlfcpmiajcimfaa.P
open Go.RowKit Go.Proofs.YtlfcpmiajcimfaaW.PrintWords Go.Proofs.YtlfcpmiajcimfaaW.PrintLast Go.Proofs.YtlfcpmiajcimfaaW.PrintMore
set_option linter.unusedVariables false
set_option linter.unusedSimpArgs false
set_option maxHeartbeats 4000000
set_option maxRecDepth 100000
theorem eq_nil (a : Option Addr) (l c : Nat) (w : World) : (binOp .eql 36 (.slice a l c) (.slice none 0 0)).run Try.prog w = .ok (.bool a.isNone) w := Go.Lib.run_eql_slice_nil w 36 5 a l c 0 0 Try.underlying36
theorem ne_nil (a : Option Addr) (l c : Nat) (w : World) : (binOp .neq 36 (.slice a l c) (.slice none 0 0)).run Try.prog w = .ok (.bool (!a.isNone)) w := by
  simp only [binOp]
  simp [Op.equal, Op.maxDepth, Go.Lib.run_equalIn_slice_nil w 9999 36 5 a l c 0 0 Try.underlying36]
theorem region_walk (a F R A : Int) (w : World) (hFR : bestOf a findTab (0, 0) = (F, R)) (hA : wrap64 (IntKind.u16.wrap (a - F)) = A) :
    Calls Try.prog 11 #[.int .u16 a] w fun e w' => e = .returned (.tuple #[.int .i64 R, .int .i64 A]) ∧ Below w.heap.size w w' := by
  subst hA
  go_enter Try.func11, Try.ntmps11
  go_wp2_with fail
  refine (find_walk a F R _ hFR).mono ?_
  rintro e w1 ⟨rfl, b1⟩
  have B1 := Aside0.mk b1
  clear b1
  go_wp2
  go_region
  all_goals go_wp2
  go_ret2
  exact ⟨rfl, below_drew1 (below_alloc B1.out _)⟩
/-- What 'cells' tells of a region. -/
def sliceOf (bm bv bw : Nat) (r : Int) : Value := if r = 1 then .slice (some ⟨bv, 0, none⟩) 8192 8192 else if r = 3 then .slice (some ⟨bw, 0, none⟩) 8192 8192 else if r = 4 then .slice (some ⟨bm, 2, none⟩) 160 160 else if r = 7 then .slice (some ⟨bm, 162, none⟩) 127 127 else .slice none 0 0
theorem cells_calls (bm bv bw : Nat) (r : Int) (w : World) (s0 : w.cell? ⟨bm, 0, none⟩ = some (.slice (some ⟨bv, 0, none⟩) 8192 8192)) (s1 : w.cell? ⟨bm, 1, none⟩ = some (.slice (some ⟨bw, 0, none⟩) 8192 8192)) :
    Calls Try.prog 30 #[.pointer (some ⟨bm, 0, none⟩), .int .i64 r] w fun e w' => e = .returned (sliceOf bm bv bw r) ∧ w' = w := by
  have hq := eq_nil
  unfold sliceOf
  by_cases h1 : r = 1
  · subst h1
    go_enter Try.func30, Try.ntmps30
    go_wp2
    go_ret
    exact ⟨rfl, rfl⟩
  · by_cases h3 : r = 3
    · subst h3
      go_enter Try.func30, Try.ntmps30
      go_wp2
      go_ret
      exact ⟨rfl, rfl⟩
    · by_cases h4 : r = 4
      · subst h4
        go_enter Try.func30, Try.ntmps30
        go_wp2
        go_ret
        exact ⟨rfl, rfl⟩
      · by_cases h7 : r = 7
        · subst h7
          go_enter Try.func30, Try.ntmps30
          go_wp2
          go_ret
          exact ⟨rfl, rfl⟩
        · rw [if_neg h1, if_neg h3, if_neg h4, if_neg h7]
          have e1 : (r == 1) = false := by simpa using h1
          have e3 : (r == 3) = false := by simpa using h3
          have e4 : (r == 4) = false := by simpa using h4
          have e7 : (r == 7) = false := by simpa using h7
          clear h1 h3 h4 h7
          go_enter Try.func30, Try.ntmps30
          go_wp2
          go_ret
          exact ⟨rfl, rfl⟩
theorem cells_none (r : Int) (w : World) : Calls Try.prog 30 #[.pointer none, .int .i64 r] w fun e w' => e = .returned (.slice none 0 0) ∧ w' = w := by
  have hq := eq_nil
  go_enter Try.func30, Try.ntmps30
  go_wp2
  go_ret
  exact ⟨rfl, rfl⟩
theorem cells_zero (bm : Nat) (r : Int) (w : World) (s0 : w.cell? ⟨bm, 0, none⟩ = some (.slice none 0 0)) : Calls Try.prog 30 #[.pointer (some ⟨bm, 0, none⟩), .int .i64 r] w fun e w' => e = .returned (.slice none 0 0) ∧ w' = w := by
  have hq := eq_nil
  go_enter Try.func30, Try.ntmps30
  go_wp2
  go_ret
  exact ⟨rfl, rfl⟩
theorem get_some (m : Value) (a F R v : Int) (k b off n : Nat) (w : World) (hFR : bestOf a findTab (0, 0) = (F, R)) (hA : wrap64 (IntKind.u16.wrap (a - F)) = (k : Int)) (hk : k < n)
    (hcells : ∀ w', Below w.heap.size w w' → Calls Try.prog 30 #[m, .int .i64 R] w' fun e w2 => e = .returned (.slice (some ⟨b, off, none⟩) n n) ∧ w2 = w') (hb : b < w.heap.size) (hc : w.cell? ⟨b, off + k, none⟩ = some (.int .u8 v)) :
    Calls Try.prog 19 #[m, .int .u16 a] w fun e w' => e = .returned (.int .u8 v) ∧ Below w.heap.size w w' := by
  have hq := ne_nil
  go_enter Try.func19, Try.ntmps19
  go_wp2_with fail
  refine (region_walk a F R k _ hFR hA).mono ?_
  rintro e w1 ⟨rfl, b1⟩
  have hc1 := (b1.cell (p := ⟨b, off + k, none⟩) hb).trans hc
  have hcs := hcells w1 b1
  have B1 := Aside0.mk b1
  clear b1 hc hcells
  go_wp2_with fail
  refine hcs.mono ?_
  clear hcs
  rintro e w2 ⟨rfl, rfl⟩
  go_wp2
  go_ret
  exact ⟨rfl, B1.out⟩
theorem get_none (m : Value) (a F R : Int) (w : World) (A : Int) (hFR : bestOf a findTab (0, 0) = (F, R)) (hA : wrap64 (IntKind.u16.wrap (a - F)) = A)
    (hcells : ∀ w', Below w.heap.size w w' → Calls Try.prog 30 #[m, .int .i64 R] w' fun e w2 => e = .returned (.slice none 0 0) ∧ w2 = w') :
    Calls Try.prog 19 #[m, .int .u16 a] w fun e w' => e = .returned (.int .u8 255) ∧ Below w.heap.size w w' := by
  have hq := ne_nil
  go_enter Try.func19, Try.ntmps19
  go_wp2_with fail
  refine (region_walk a F R A _ hFR hA).mono ?_
  rintro e w1 ⟨rfl, b1⟩
  have hcs := hcells w1 b1
  have B1 := Aside0.mk b1
  clear b1 hcells
  go_wp2_with fail
  refine hcs.mono ?_
  clear hcs
  rintro e w2 ⟨rfl, rfl⟩
  go_wp2
  go_ret
  exact ⟨rfl, B1.out⟩
theorem put_some (m : Value) (a F R v u : Int) (k b off n : Nat) (w : World) (hFR : bestOf a findTab (0, 0) = (F, R)) (hA : wrap64 (IntKind.u16.wrap (a - F)) = (k : Int)) (hk : k < n)
    (hcells : ∀ w', Below w.heap.size w w' → Calls Try.prog 30 #[m, .int .i64 R] w' fun e w2 => e = .returned (.slice (some ⟨b, off, none⟩) n n) ∧ w2 = w') (hb : b < w.heap.size) (hc : w.cell? ⟨b, off + k, none⟩ = some (.int .u8 u)) (hf : w.frozen? ⟨b, off + k, none⟩ = false) :
    Calls Try.prog 18 #[m, .int .u16 a, .int .u8 v] w fun e w' => e = .returned (.tuple #[]) ∧ ∃ w1, Below w.heap.size w w1 ∧ w' = w1.setCell ⟨b, off + k, none⟩ (.int .u8 v) := by
  have hq := ne_nil
  go_enter Try.func18, Try.ntmps18
  go_wp2_with fail
  refine (region_walk a F R k _ hFR hA).mono ?_
  rintro e w1 ⟨rfl, b1⟩
  have hc1 := (b1.cell (p := ⟨b, off + k, none⟩) hb).trans hc
  have hf1 : w1.frozen? ⟨b, off + k, none⟩ = false := (World.frozen?_of_block (b1.block b hb)).trans hf
  have hcs := hcells w1 b1
  have B1 := Aside0.mk b1
  clear b1 hc hf hcells
  go_wp2_with fail
  refine hcs.mono ?_
  clear hcs
  rintro e w2 ⟨rfl, rfl⟩
  go_wp2
  go_end0
  exact ⟨rfl, _, B1.out, rfl⟩
theorem put_none (m : Value) (a F R v A : Int) (w : World) (hFR : bestOf a findTab (0, 0) = (F, R)) (hA : wrap64 (IntKind.u16.wrap (a - F)) = A)
    (hcells : ∀ w', Below w.heap.size w w' → Calls Try.prog 30 #[m, .int .i64 R] w' fun e w2 => e = .returned (.slice none 0 0) ∧ w2 = w') :
    Calls Try.prog 18 #[m, .int .u16 a, .int .u8 v] w fun e w' => e = .returned (.tuple #[]) ∧ Below w.heap.size w w' := by
  have hq := ne_nil
  go_enter Try.func18, Try.ntmps18
  go_wp2_with fail
  refine (region_walk a F R A _ hFR hA).mono ?_
  rintro e w1 ⟨rfl, b1⟩
  have hcs := hcells w1 b1
  have B1 := Aside0.mk b1
  clear b1 hcells
  go_wp2_with fail
  refine hcs.mono ?_
  clear hcs
  rintro e w2 ⟨rfl, rfl⟩
  go_wp2
  go_end0
  exact ⟨rfl, B1.out⟩
theorem object_some (m : Value) (v u : Int) (k b off n : Nat) (w : World) (hk : k < n) (hn : n ≤ 160)
    (hcells : Calls Try.prog 30 #[m, .int .i64 4] w fun e w2 => e = .returned (.slice (some ⟨b, off, none⟩) n n) ∧ w2 = w) (hb : b < w.heap.size) (hc : w.cell? ⟨b, off + k, none⟩ = some (.int .u8 u)) (hf : w.frozen? ⟨b, off + k, none⟩ = false) :
    Calls Try.prog 25 #[m, .int .u8 (k : Int), .int .u8 v] w fun e w' => e = .returned (.tuple #[]) ∧ w' = w.setCell ⟨b, off + k, none⟩ (.int .u8 v) := by
  go_enter Try.func25, Try.ntmps25
  go_wp2_with fail
  refine hcells.mono ?_
  clear hcells
  rintro e w2 ⟨rfl, rfl⟩
  go_wp2
  go_end0
  exact ⟨rfl, rfl⟩
theorem object_none (m : Value) (v : Int) (k n : Nat) (A : Option Addr) (w : World) (hk : n ≤ k) (h0 : k < 256)
    (hcells : Calls Try.prog 30 #[m, .int .i64 4] w fun e w2 => e = .returned (.slice A n n) ∧ w2 = w) :
    Calls Try.prog 25 #[m, .int .u8 (k : Int), .int .u8 v] w fun e w' => e = .returned (.tuple #[]) ∧ w' = w := by
  go_enter Try.func25, Try.ntmps25
  go_wp2_with fail
  refine hcells.mono ?_
  clear hcells
  rintro e w2 ⟨rfl, rfl⟩
  go_wp2
  go_end0
  exact ⟨rfl, rfl⟩
end Go.Proofs.Ytlfcpmiajcimfaa.P
