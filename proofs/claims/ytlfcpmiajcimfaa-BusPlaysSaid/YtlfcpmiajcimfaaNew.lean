/- bus.New: what it lays: two rows of 8192 zeros and the struct that leads to them, new, in either order. No condition. -/
import Derived.Test.YtlfcpmiajcimfaaMem
namespace Go.Proofs.Ytlfcpmiajcimfaa.P
open Go.RowKit Go.Proofs.YtlfcpmiajcimfaaW.PrintWords Go.Proofs.YtlfcpmiajcimfaaW.PrintLast Go.Proofs.YtlfcpmiajcimfaaW.PrintMore
set_option linter.unusedVariables false
set_option linter.unusedSimpArgs false
set_option maxHeartbeats 4000000
set_option maxRecDepth 100000
theorem info5b : (Try.prog.info? 5).map (fun i => (i.zero, i.size, i.bytes)) = some (some (.int .u8 0), 1, 1) := by kernel_rfl
theorem make36 (W : World) : (Instr.makeSlice 36 (.int .i64 8192) (.int .i64 8192)).run Try.prog W = .ok (.slice (some ⟨W.heap.size, 0, none⟩) 8192 8192) (W.alloc (.cells (madeCells #[.int .u8 0] 8192) 5)) := by
  obtain ⟨i0, hi, hzz⟩ := Option.map_eq_some_iff.1 info5b
  simp only [Prod.mk.injEq] at hzz
  obtain ⟨hz0, hz1, hz2⟩ := hzz
  have hr := run_make (P := Try.prog) W 36 5 i0 (.int .u8 0) Try.underlying36 hi hz0 .i64 .i64 8192 8192 (by omega) (by omega) (by rw [hz2]; omega) (by omega)
  rw [hz1] at hr
  exact hr
theorem build51 (a b : Option Addr) (n m k l : Nat) (W : World) : (Instr.build 51 #[(0, .slice a n m), (1, .slice b k l)]).run Try.prog W = .ok (.agg (#[.slice a n m, .slice b k l] ++ Array.replicate 287 (.int .u8 0))) W := by kernel_rfl
theorem box_run (t : TypeId) (cs : Array Value) (W : World) : (Instr.box t (.agg cs)).run Try.prog W = .ok (.pointer (some ⟨W.heap.size, 0, none⟩)) (W.alloc (.cells cs t)) := by
  simp [Instr.box, go_sem]
theorem exec_box {P : Program} {ρ : Operand → Value} {o : Oper} {t : TypeId} {p : Operand} {W W' : World} {v : Value} (ho : o.op = .box t p) (h : (Instr.box t (ρ p)).run P W = .ok v W') :
    (execOp ρ o).run P W = .ok (.value v) W' := by
  unfold execOp
  rw [ho]
  simp [h, Result.andThen]
def memCells (s0 s1 : Value) : Array Value := #[s0, s1] ++ Array.replicate 287 (.int .u8 0)
def zeros5 : Array Value := madeCells #[.int .u8 0] 8192
theorem new_raw (w : World) :
    Calls Try.prog 17 #[] w fun e w' => ∃ bm bv bw : Nat, e = .returned (.pointer (some ⟨bm, 0, none⟩)) ∧ w.heap.size ≤ bm ∧ w.heap.size ≤ bv ∧ w.heap.size ≤ bw ∧ bm ≠ bv ∧ bm ≠ bw ∧ bv ≠ bw ∧
      w'.heap[bm]? = some (.cells (memCells (.slice (some ⟨bv, 0, none⟩) 8192 8192) (.slice (some ⟨bw, 0, none⟩) 8192 8192)) 51) ∧ w'.heap[bv]? = some (.cells zeros5 5) ∧ w'.heap[bw]? = some (.cells zeros5 5) ∧ Below w.heap.size w w' := by
  go_enter Try.func17, Try.ntmps17
  go_wp2
  refine start_ (n := 5) (S := fun w' => True) (ds := []) #[false, false, false, false, false] (by kernel_rfl) rfl rfl trivial (fun hHeld => ?_)
  obtain ⟨W, hW⟩ : ∃ W, w.drew = W := ⟨_, rfl⟩
  have hB : Below w.heap.size w W := by rw [← hW]; exact below_drew1 (Below.refl _ _)
  have hs : W.heap.size = w.heap.size := by rw [← hW]; rfl
  rw [hW]
  clear hW
  refine two_ (i := 0) (j := 1) (Ni := some 1) (Nj := some 2) #[true, false, false, false, false] #[false, true, false, false, false] rfl rfl rfl rfl (by kernel_rfl) (by decide) (by decide) (fun K hK => ?_) (fun K hK => ?_)
  · refine event_step rfl (w1 := W.alloc (.cells zeros5 5)) (v := .slice (some ⟨W.heap.size, 0, none⟩) 8192 8192) (by simp [execOp, Act.eval, make36, Result.andThen, zeros5]) (hK.out _ _ trivial (fun _ => ?_))
    clear hK K
    refine norm_ (a' := { tmps := #[.pointer none, .slice (some ⟨W.heap.size, 0, none⟩) 8192 8192, undef, undef, undef], defers := [] }) rfl ?_
    refine one_ (i := 1) (N := some 2) #[true, true, false, false, false] rfl rfl (by kernel_rfl) (by decide) (fun K hK => ?_)
    refine event_step rfl (w1 := (W.alloc (.cells zeros5 5)).alloc (.cells zeros5 5)) (v := .slice (some ⟨W.heap.size + 1, 0, none⟩) 8192 8192) (by simp [execOp, Act.eval, make36, Result.andThen, zeros5]) (hK.out _ _ trivial (fun _ => ?_))
    clear hK K
    refine norm_ (a' := { tmps := #[.pointer none, .slice (some ⟨W.heap.size, 0, none⟩) 8192 8192, .slice (some ⟨W.heap.size + 1, 0, none⟩) 8192 8192, undef, undef], defers := [] }) rfl ?_
    refine one_ (i := 2) (N := some 3) #[true, true, true, false, false] rfl rfl (by kernel_rfl) (by decide) (fun K hK => ?_)
    refine event_step rfl (w1 := (W.alloc (.cells zeros5 5)).alloc (.cells zeros5 5)) (v := .agg (memCells (.slice (some ⟨W.heap.size, 0, none⟩) 8192 8192) (.slice (some ⟨W.heap.size + 1, 0, none⟩) 8192 8192))) (by simp [execOp, Act.eval, build51, Result.andThen, memCells]) (hK.out _ _ trivial (fun _ => ?_))
    clear hK K
    refine norm_ (a' := { tmps := #[.pointer none, .slice (some ⟨W.heap.size, 0, none⟩) 8192 8192, .slice (some ⟨W.heap.size + 1, 0, none⟩) 8192 8192, .agg (memCells (.slice (some ⟨W.heap.size, 0, none⟩) 8192 8192) (.slice (some ⟨W.heap.size + 1, 0, none⟩) 8192 8192)), undef], defers := [] }) rfl ?_
    refine one_ (i := 3) (N := some 4) #[true, true, true, true, false] rfl rfl (by kernel_rfl) (by decide) (fun K hK => ?_)
    refine event_step rfl (w1 := ((W.alloc (.cells zeros5 5)).alloc (.cells zeros5 5)).alloc (.cells (memCells (.slice (some ⟨W.heap.size, 0, none⟩) 8192 8192) (.slice (some ⟨W.heap.size + 1, 0, none⟩) 8192 8192)) 51)) (v := .pointer (some ⟨((W.alloc (.cells zeros5 5)).alloc (.cells zeros5 5)).heap.size, 0, none⟩)) (exec_box rfl (box_run 51 _ _)) (hK.out _ _ trivial (fun _ => ?_))
    clear hK K
    refine norm_ (a' := { tmps := #[.pointer none, .slice (some ⟨W.heap.size, 0, none⟩) 8192 8192, .slice (some ⟨W.heap.size + 1, 0, none⟩) 8192 8192, .agg (memCells (.slice (some ⟨W.heap.size, 0, none⟩) 8192 8192) (.slice (some ⟨W.heap.size + 1, 0, none⟩) 8192 8192)), .pointer (some ⟨((W.alloc (.cells zeros5 5)).alloc (.cells zeros5 5)).heap.size, 0, none⟩)], defers := [] }) rfl ?_
    refine one_ (i := 4) (N := some 0) #[true, true, true, true, true] rfl rfl (by kernel_rfl) (by decide) (fun K hK => ?_)
    refine event_step rfl (w1 := ((W.alloc (.cells zeros5 5)).alloc (.cells zeros5 5)).alloc (.cells (memCells (.slice (some ⟨W.heap.size, 0, none⟩) 8192 8192) (.slice (some ⟨W.heap.size + 1, 0, none⟩) 8192 8192)) 51)) (v := .pointer (some ⟨((W.alloc (.cells zeros5 5)).alloc (.cells zeros5 5)).heap.size, 0, none⟩)) rfl (hK.out _ _ trivial (fun _ => ?_))
    clear hK K
    refine norm_ (a' := { tmps := #[.pointer (some ⟨((W.alloc (.cells zeros5 5)).alloc (.cells zeros5 5)).heap.size, 0, none⟩), .slice (some ⟨W.heap.size, 0, none⟩) 8192 8192, .slice (some ⟨W.heap.size + 1, 0, none⟩) 8192 8192, .agg (memCells (.slice (some ⟨W.heap.size, 0, none⟩) 8192 8192) (.slice (some ⟨W.heap.size + 1, 0, none⟩) 8192 8192)), .pointer (some ⟨((W.alloc (.cells zeros5 5)).alloc (.cells zeros5 5)).heap.size, 0, none⟩)], defers := [] }) rfl ?_
    refine done_ (by kernel_rfl) ?_
    go_wp2
    go_ret
    refine ⟨((W.alloc (.cells zeros5 5)).alloc (.cells zeros5 5)).heap.size, W.heap.size, W.heap.size + 1, rfl, by first | (simp; done) | (simp; omega), by omega, by omega, by first | (simp; done) | (simp; omega), by first | (simp; done) | (simp; omega), by omega, blk_new _ _, ?_, ?_, below_alloc (below_alloc (below_alloc hB _) _) _⟩
    · exact blk_alloc (blk_alloc (blk_new W _) _) _
    · exact blk_alloc (by have := blk_new (W.alloc (.cells zeros5 5)) (.cells zeros5 5); rw [World.size_alloc] at this; exact this) _
  · refine event_step rfl (w1 := W.alloc (.cells zeros5 5)) (v := .slice (some ⟨W.heap.size, 0, none⟩) 8192 8192) (by simp [execOp, Act.eval, make36, Result.andThen, zeros5]) (hK.out _ _ trivial (fun _ => ?_))
    clear hK K
    refine norm_ (a' := { tmps := #[.pointer none, undef, .slice (some ⟨W.heap.size, 0, none⟩) 8192 8192, undef, undef], defers := [] }) rfl ?_
    refine one_ (i := 0) (N := some 1) #[true, true, false, false, false] rfl rfl (by kernel_rfl) (by decide) (fun K hK => ?_)
    refine event_step rfl (w1 := (W.alloc (.cells zeros5 5)).alloc (.cells zeros5 5)) (v := .slice (some ⟨W.heap.size + 1, 0, none⟩) 8192 8192) (by simp [execOp, Act.eval, make36, Result.andThen, zeros5]) (hK.out _ _ trivial (fun _ => ?_))
    clear hK K
    refine norm_ (a' := { tmps := #[.pointer none, .slice (some ⟨W.heap.size + 1, 0, none⟩) 8192 8192, .slice (some ⟨W.heap.size, 0, none⟩) 8192 8192, undef, undef], defers := [] }) rfl ?_
    refine one_ (i := 2) (N := some 3) #[true, true, true, false, false] rfl rfl (by kernel_rfl) (by decide) (fun K hK => ?_)
    refine event_step rfl (w1 := (W.alloc (.cells zeros5 5)).alloc (.cells zeros5 5)) (v := .agg (memCells (.slice (some ⟨W.heap.size + 1, 0, none⟩) 8192 8192) (.slice (some ⟨W.heap.size, 0, none⟩) 8192 8192))) (by simp [execOp, Act.eval, build51, Result.andThen, memCells]) (hK.out _ _ trivial (fun _ => ?_))
    clear hK K
    refine norm_ (a' := { tmps := #[.pointer none, .slice (some ⟨W.heap.size + 1, 0, none⟩) 8192 8192, .slice (some ⟨W.heap.size, 0, none⟩) 8192 8192, .agg (memCells (.slice (some ⟨W.heap.size + 1, 0, none⟩) 8192 8192) (.slice (some ⟨W.heap.size, 0, none⟩) 8192 8192)), undef], defers := [] }) rfl ?_
    refine one_ (i := 3) (N := some 4) #[true, true, true, true, false] rfl rfl (by kernel_rfl) (by decide) (fun K hK => ?_)
    refine event_step rfl (w1 := ((W.alloc (.cells zeros5 5)).alloc (.cells zeros5 5)).alloc (.cells (memCells (.slice (some ⟨W.heap.size + 1, 0, none⟩) 8192 8192) (.slice (some ⟨W.heap.size, 0, none⟩) 8192 8192)) 51)) (v := .pointer (some ⟨((W.alloc (.cells zeros5 5)).alloc (.cells zeros5 5)).heap.size, 0, none⟩)) (exec_box rfl (box_run 51 _ _)) (hK.out _ _ trivial (fun _ => ?_))
    clear hK K
    refine norm_ (a' := { tmps := #[.pointer none, .slice (some ⟨W.heap.size + 1, 0, none⟩) 8192 8192, .slice (some ⟨W.heap.size, 0, none⟩) 8192 8192, .agg (memCells (.slice (some ⟨W.heap.size + 1, 0, none⟩) 8192 8192) (.slice (some ⟨W.heap.size, 0, none⟩) 8192 8192)), .pointer (some ⟨((W.alloc (.cells zeros5 5)).alloc (.cells zeros5 5)).heap.size, 0, none⟩)], defers := [] }) rfl ?_
    refine one_ (i := 4) (N := some 0) #[true, true, true, true, true] rfl rfl (by kernel_rfl) (by decide) (fun K hK => ?_)
    refine event_step rfl (w1 := ((W.alloc (.cells zeros5 5)).alloc (.cells zeros5 5)).alloc (.cells (memCells (.slice (some ⟨W.heap.size + 1, 0, none⟩) 8192 8192) (.slice (some ⟨W.heap.size, 0, none⟩) 8192 8192)) 51)) (v := .pointer (some ⟨((W.alloc (.cells zeros5 5)).alloc (.cells zeros5 5)).heap.size, 0, none⟩)) rfl (hK.out _ _ trivial (fun _ => ?_))
    clear hK K
    refine norm_ (a' := { tmps := #[.pointer (some ⟨((W.alloc (.cells zeros5 5)).alloc (.cells zeros5 5)).heap.size, 0, none⟩), .slice (some ⟨W.heap.size + 1, 0, none⟩) 8192 8192, .slice (some ⟨W.heap.size, 0, none⟩) 8192 8192, .agg (memCells (.slice (some ⟨W.heap.size + 1, 0, none⟩) 8192 8192) (.slice (some ⟨W.heap.size, 0, none⟩) 8192 8192)), .pointer (some ⟨((W.alloc (.cells zeros5 5)).alloc (.cells zeros5 5)).heap.size, 0, none⟩)], defers := [] }) rfl ?_
    refine done_ (by kernel_rfl) ?_
    go_wp2
    go_ret
    refine ⟨((W.alloc (.cells zeros5 5)).alloc (.cells zeros5 5)).heap.size, W.heap.size + 1, W.heap.size, rfl, by first | (simp; done) | (simp; omega), by omega, by omega, by first | (simp; done) | (simp; omega), by first | (simp; done) | (simp; omega), by omega, blk_new _ _, ?_, ?_, below_alloc (below_alloc (below_alloc hB _) _) _⟩
    · exact blk_alloc (by have := blk_new (W.alloc (.cells zeros5 5)) (.cells zeros5 5); rw [World.size_alloc] at this; exact this) _
    · exact blk_alloc (blk_alloc (blk_new W _) _) _
end Go.Proofs.Ytlfcpmiajcimfaa.P
