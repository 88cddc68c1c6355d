/- The contracts of bus.told, Vram and Oam: a copy in new memory. No condition but the hypotheses that stand in each. -/
import Derived.Test.YtlfcpmiajcimfaaM4
import Derived.Laws.CopyOwn
namespace Go.Proofs.Ytlfcpmiajcimfaa.P
open Go.RowKit Go.Proofs.YtlfcpmiajcimfaaW.PrintWords Go.Proofs.YtlfcpmiajcimfaaW.PrintLast Go.Proofs.YtlfcpmiajcimfaaW.PrintMore
set_option linter.unusedVariables false
set_option linter.unusedSimpArgs false
set_option maxHeartbeats 4000000
set_option maxRecDepth 100000
theorem exec_make {P : Program} {ρ : Operand → Value} {o : Oper} {t : TypeId} {p x : Operand} {W W' : World} {v : Value} (ho : o.op = .makeSlice t p x) (h : (Instr.makeSlice t (ρ p) (ρ x)).run P W = .ok v W') :
    (execOp ρ o).run P W = .ok (.value v) W' := by
  unfold execOp
  rw [ho]
  simp [h, Result.andThen]
theorem make_mc (n : Nat) (MC : Array Value) (hMC : madeCells #[.int .u8 0] n = MC) (hn : n ≤ 8192) (W : World) : (Instr.makeSlice 36 (.int .i64 (n : Int)) (.int .i64 (n : Int))).run Try.prog W = .ok (.slice (some ⟨W.heap.size, 0, none⟩) n n) (W.alloc (.cells MC 5)) := by
  subst hMC
  obtain ⟨i0, hi, hzz⟩ := Option.map_eq_some_iff.1 info5b
  simp only [Prod.mk.injEq] at hzz
  obtain ⟨hz0, hz1, hz2⟩ := hzz
  have hr := run_make (P := Try.prog) W 36 5 i0 (.int .u8 0) Try.underlying36 hi hz0 .i64 .i64 n n (by omega) (by omega) (by rw [hz2]; omega) (by omega)
  rw [hz1] at hr
  simp only [Int.toNat_natCast, Nat.mul_one] at hr
  exact hr
theorem size5 : (Try.prog.info? 5).map (·.size) = some 1 := by kernel_rfl
theorem told_nil (W : World) :
    Calls Try.prog 32 #[.slice none 0 0] W fun e w' => ∃ g, e = .returned (.slice (some ⟨g, 0, none⟩) 0 0) ∧ Below W.heap.size W w' := by
  obtain ⟨MC, hMC⟩ : ∃ MC, madeCells #[.int .u8 0] 0 = MC := ⟨_, rfl⟩
  have HM := Aside0.mk (make_mc 0 MC hMC (by omega))
  clear hMC
  go_enter Try.func32, Try.ntmps32
  go_wp2_with (first
    | ((with_reducible refine gate_dst (N := 6) rfl ?_); refine Kd.event_run rfl (exec_make rfl (HM.out _)) ?_)
    | ((with_reducible refine gate_dst (N := 9) rfl ?_); refine wpList_copy_nothing rfl (.tmp 7) (.tmp 8) 36 36 rfl 5 Try.underlying36 size5 (some ⟨W.heap.size, 0, none⟩) none 0 0 0 0 rfl rfl rfl ?_))
  go_ret
  exact ⟨_, rfl, below_alloc (Below.refl _ _) _⟩
theorem told_some (A : Addr) (n : Nat) (cs : List Value) (hn : n ≤ 8192) (hl : cs.length = n) (W : World) (hb : A.block < W.heap.size) (hsrc : ∀ j v, cs[j]? = some v → W.cell? (A.add j) = some v) (h1 : ∀ v ∈ cs, v.oneCell' = true) :
    Calls Try.prog 32 #[.slice (some A) n n] W fun e w' => ∃ g, e = .returned (.slice (some ⟨g, 0, none⟩) n n) ∧ w'.heap[g]? = some (.cells cs.toArray 5) ∧ W.heap.size ≤ g ∧ Below W.heap.size W w' := by
  obtain ⟨MC, hMC⟩ : ∃ MC, madeCells #[.int .u8 0] n = MC := ⟨_, rfl⟩
  have HM := Aside0.mk (make_mc n MC hMC hn)
  have hsz : MC.size = n := by rw [← hMC, size_madeCells]
  clear hMC
  have SR := Aside0.mk (fun j v (h : cs[j]? = some v) => (((below_alloc (Below.refl W.heap.size W) (.cells MC 5)).cell (p := A.add j) (by unfold Addr.add; split <;> exact hb)).trans (hsrc j v h) : (W.alloc (.cells MC 5)).cell? (A.add j) = some v))
  have HN := Aside0.mk (And.intro hl (And.intro hsz h1))
  obtain ⟨X, hX⟩ : ∃ X : Array Value, (MC.toList.take 0 ++ (cs ++ MC.toList.drop (0 + cs.length))).toArray = X := ⟨_, rfl⟩
  have HX := Aside0.mk hX
  clear hsrc hl hsz h1 hX hb
  go_enter Try.func32, Try.ntmps32
  go_wp2_with (first
    | ((with_reducible refine gate_dst (N := 6) rfl ?_); refine Kd.event_run rfl (exec_make rfl (HM.out _)) ?_)
    | ((with_reducible refine gate_dst (N := 9) rfl ?_); refine wpList_copy_own rfl (.tmp 7) (.tmp 8) 36 36 rfl 5 Try.underlying36 size5 W.heap.size 0 n n A n n rfl rfl MC 5 (blk_new W _) cs (by rw [HN.out.1]; exact (Nat.min_self n).symm) SR.out (by rw [HN.out.1, HN.out.2.1]; omega) HN.out.2.2 ?_; rw [HX.out]))
  go_ret
  refine ⟨_, rfl, ?_, Nat.le_refl _, below_setRow (below_alloc (Below.refl _ _) _) (Nat.le_refl _) _⟩
  have hXe : X = cs.toArray := by
    rw [← HX.out]
    have : MC.toList.drop (0 + cs.length) = [] := List.drop_eq_nil_of_le (by rw [Array.length_toList, HN.out.1, HN.out.2.1]; omega)
    rw [this]
    simp
  rw [World.setRow_alloc_new, hXe]
  exact blk_new _ _
theorem vram_nil (m : Value) (W : World) (hcells : Calls Try.prog 30 #[m, .int .i64 1] W fun e w2 => e = .returned (.slice none 0 0) ∧ w2 = W) :
    Calls Try.prog 27 #[m] W fun e w' => ∃ g, e = .returned (.slice (some ⟨g, 0, none⟩) 0 0) ∧ Below W.heap.size W w' := by
  go_enter Try.func27, Try.ntmps27
  go_wp2_with fail
  refine hcells.mono ?_
  clear hcells
  rintro e w2 ⟨rfl, rfl⟩
  go_wp2_with fail
  refine (told_nil _).mono ?_
  rintro e w3 ⟨g, rfl, hb⟩
  go_wp2
  go_ret
  exact ⟨g, rfl, hb⟩
theorem oam_nil (m : Value) (W : World) (hcells : Calls Try.prog 30 #[m, .int .i64 4] W fun e w2 => e = .returned (.slice none 0 0) ∧ w2 = W) :
    Calls Try.prog 28 #[m] W fun e w' => ∃ g, e = .returned (.slice (some ⟨g, 0, none⟩) 0 0) ∧ Below W.heap.size W w' := by
  go_enter Try.func28, Try.ntmps28
  go_wp2_with fail
  refine hcells.mono ?_
  clear hcells
  rintro e w2 ⟨rfl, rfl⟩
  go_wp2_with fail
  refine (told_nil _).mono ?_
  rintro e w3 ⟨g, rfl, hb⟩
  go_wp2
  go_ret
  exact ⟨g, rfl, hb⟩
theorem add_none (b o j : Nat) : (⟨b, o, none⟩ : Addr).add j = ⟨b, o + j, none⟩ := by unfold Addr.add; split <;> simp_all
/-- The first n of a row of bytes, as cells. -/
def cellsOf (f : Nat → Int) (n : Nat) : List Value := (List.range n).map (fun i => .int .u8 (f i))
theorem cellsOf_at (f : Nat → Int) (n j : Nat) (v : Value) (h : (cellsOf f n)[j]? = some v) : j < n ∧ v = .int .u8 (f j) := by
  unfold cellsOf at h
  rw [List.getElem?_map] at h
  by_cases hj : j < n
  · rw [List.getElem?_range hj] at h
    exact ⟨hj, (Option.some.inj h).symm⟩
  · rw [List.getElem?_eq_none (by simp; omega)] at h
    cases h
theorem cellsOf_len (f : Nat → Int) (n : Nat) : (cellsOf f n).length = n := by simp [cellsOf]
theorem cellsOf_one (f : Nat → Int) (n : Nat) : ∀ v ∈ cellsOf f n, v.oneCell' = true := by
  intro v h
  unfold cellsOf at h
  obtain ⟨i, _, rfl⟩ := List.mem_map.1 h
  rfl
theorem vram_mem {W : World} {bm bv bw : Nat} {m : M4} (M : MemAt W bm bv bw m) :
    Calls Try.prog 27 #[.pointer (some ⟨bm, 0, none⟩)] W fun e w' => ∃ g, e = .returned (.slice (some ⟨g, 0, none⟩) 8192 8192) ∧ w'.heap[g]? = some (.cells (cellsOf m.v 8192).toArray 5) ∧ W.heap.size ≤ g ∧ Below W.heap.size W w' := by
  have hc := cells_mem M 1
  have ht := told_some ⟨bv, 0, none⟩ 8192 (cellsOf m.v 8192) (by omega) (cellsOf_len _ _) W M.lv (fun j v h => by
    obtain ⟨hj, rfl⟩ := cellsOf_at _ _ _ _ h
    rw [add_none, Nat.zero_add]
    exact M.v j hj) (cellsOf_one _ _)
  go_enter Try.func27, Try.ntmps27
  go_wp2_with fail
  refine hc.mono ?_
  clear hc
  rintro e w2 ⟨rfl, rfl⟩
  go_wp2_with fail
  refine ht.mono ?_
  clear ht
  rintro e w3 ⟨g, rfl, h1, h2, h3⟩
  have H := Aside0.mk (And.intro h1 (And.intro h2 h3))
  clear h1 h2 h3
  go_wp2
  go_ret
  exact ⟨g, rfl, H.out⟩
theorem oam_mem {W : World} {bm bv bw : Nat} {m : M4} (M : MemAt W bm bv bw m) :
    Calls Try.prog 28 #[.pointer (some ⟨bm, 0, none⟩)] W fun e w' => ∃ g, e = .returned (.slice (some ⟨g, 0, none⟩) 160 160) ∧ w'.heap[g]? = some (.cells (cellsOf m.o 160).toArray 5) ∧ W.heap.size ≤ g ∧ Below W.heap.size W w' := by
  have hc := cells_mem M 4
  have ht := told_some ⟨bm, 2, none⟩ 160 (cellsOf m.o 160) (by omega) (cellsOf_len _ _) W M.lm (fun j v h => by
    obtain ⟨hj, rfl⟩ := cellsOf_at _ _ _ _ h
    rw [add_none]
    exact M.o j hj) (cellsOf_one _ _)
  go_enter Try.func28, Try.ntmps28
  go_wp2_with fail
  refine hc.mono ?_
  clear hc
  rintro e w2 ⟨rfl, rfl⟩
  go_wp2_with fail
  refine ht.mono ?_
  clear ht
  rintro e w3 ⟨g, rfl, h1, h2, h3⟩
  have H := Aside0.mk (And.intro h1 (And.intro h2 h3))
  clear h1 h2 h3
  go_wp2
  go_ret
  exact ⟨g, rfl, H.out⟩
end Go.Proofs.Ytlfcpmiajcimfaa.P
