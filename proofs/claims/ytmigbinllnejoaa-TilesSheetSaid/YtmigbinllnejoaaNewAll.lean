/- tiles.NewSheet, whole. No condition but the hypotheses that stand in each. -/
import Derived.Test.YtmigbinllnejoaaNewLoop
namespace Go.Proofs.Ytmigbinllnejoaa.P
open Go.RowKit Go.Proofs.YtmigbinllnejoaaW.PrintWords Go.Proofs.YtmigbinllnejoaaW.PrintLast Go.Proofs.YtmigbinllnejoaaW.PrintMore
set_option maxHeartbeats 4000000
set_option maxRecDepth 100000
theorem info5b : (Try.prog.info? 5).map (fun i => (i.zero, i.size, i.bytes)) = some (some (.int .u8 0), 1, 1) := by kernel_rfl
theorem exec_make {P : Program} {ρ : Operand → Value} {o : Oper} {t : TypeId} {p x : Operand} {W W' : World} {v : Value} (ho : o.op = .makeSlice t p x) (h : (Instr.makeSlice t (ρ p) (ρ x)).run P W = .ok v W') :
    (execOp ρ o).run P W = .ok (.value v) W' := by
  unfold execOp
  rw [ho]
  simp [h, Result.andThen]
theorem make_6144 (MC : Array Value) (hMC : madeCells #[.int .u8 0] 6144 = MC) (W : World) : (Instr.makeSlice 34 (.int .i64 6144) (.int .i64 6144)).run Try.prog W = .ok (.slice (some ⟨W.heap.size, 0, none⟩) 6144 6144) (W.alloc (.cells MC 5)) := by
  subst hMC
  obtain ⟨i0, hi, hzz⟩ := Option.map_eq_some_iff.1 info5b
  simp only [Prod.mk.injEq] at hzz
  obtain ⟨hz0, hz1, hz2⟩ := hzz
  have hr := run_make (P := Try.prog) W 34 5 i0 (.int .u8 0) Try.underlying34 hi hz0 .i64 .i64 6144 6144 (by omega) (by omega) (by rw [hz2]; omega) (by omega)
  rw [hz1] at hr
  simp only [Int.reduceToNat, Nat.mul_one] at hr
  exact hr
theorem made_at (MC : Array Value) (hMC : madeCells #[.int .u8 0] 6144 = MC) (i : Nat) (h : i < 6144) : MC[i]? = some (.int .u8 0) := by
  subst hMC
  simp [madeCells, h, Nat.mod_one]
theorem new_calls (w : World) (A0 : Option Addr) (c0 : Nat) (l : List Int) (hc0 : l.length ≤ c0) (hC : Kd.C (Kd.int .u8) w A0 l.length l) :
    Calls Try.prog 23 #[.slice A0 l.length c0] w fun e w' => ∃ b g, e = .returned (.pointer (some ⟨b, 0, none⟩)) ∧ w.heap.size ≤ b ∧ w.heap.size ≤ g ∧ Aside0 (Sh w b g (byteOf l) 0 0 0 (.slice none 0 0) w') := by
  obtain ⟨MC, hMC⟩ : ∃ MC, madeCells #[.int .u8 0] 6144 = MC := ⟨_, rfl⟩
  have hmk := make_6144 MC hMC
  go_enter Try.func23, Try.ntmps23
  go_wp2_with (first
    | ((with_reducible refine gate_dst (N := 5) rfl ?_); refine Kd.event_run rfl (exec_make rfl (hmk _)) ?_))
  have hb : Below w.heap.size w ((w.alloc (.cells MC 5)).alloc (.cells #[.int .u32 0, .int .i32 0, .int .u32 0, .int .i64 0, .slice (some ⟨w.heap.size, 0, none⟩) 6144 6144, .slice none 0 0] 62)) := below_alloc (below_alloc (Below.refl _ _) _) _
  have k1 : ((w.alloc (.cells MC 5)).alloc (.cells #[.int .u32 0, .int .i32 0, .int .u32 0, .int .i64 0, .slice (some ⟨w.heap.size, 0, none⟩) 6144 6144, .slice none 0 0] 62)).heap[w.heap.size + 1]? = some (.cells #[.int .u32 0, .int .i32 0, .int .u32 0, .int .i64 0, .slice (some ⟨w.heap.size, 0, none⟩) 6144 6144, .slice none 0 0] 62 (0, 0)) := by
    have := blk_new (w.alloc (.cells MC 5)) (.cells #[.int .u32 0, .int .i32 0, .int .u32 0, .int .i64 0, .slice (some ⟨w.heap.size, 0, none⟩) 6144 6144, .slice none 0 0] 62)
    rw [World.size_alloc] at this
    exact this
  have k2 := blk_alloc (blk_new w (.cells MC 5)) (.cells #[.int .u32 0, .int .i32 0, .int .u32 0, .int .i64 0, .slice (some ⟨w.heap.size, 0, none⟩) 6144 6144, .slice none 0 0] 62)
  have S0 : Sh w (w.heap.size + 1) w.heap.size (laid l 0) 0 0 0 (.slice none 0 0) _ := ⟨(blk_cell k1 0).trans rfl, (blk_cell k1 1).trans rfl, (blk_cell k1 3).trans rfl, (blk_cell k1 4).trans rfl, (blk_cell k1 5).trans rfl, blk_frozen k1, blk_frozen k2, fun i hi => (blk_cell k2 i).trans (by rw [made_at MC hMC i hi]; simp [laid]), blk_lt k1, blk_lt k2, .of hb, by omega⟩
  refine wp_mono (Q := QE (fun a w' => FrN (.slice A0 l.length c0) (w.heap.size + 1) ((6144 : Nat) : Int) a ∧ Sh w (w.heap.size + 1) w.heap.size (laid l 6144) 0 0 0 (.slice none 0 0) w')) ?_ ?_
  · refine wp_loop_rounds 6145 ?_
    exact new_rounds _ (fun _ _ _ _ h => h.elim) w (w.heap.size + 1) w.heap.size A0 c0 l hc0 (fun W' hB => Kd.C_below hC hB) (Nat.le_succ _) (Nat.le_refl _) (fun a' W' hf hs => ⟨rfl, hf, hs⟩) 6144 0 _ _ (by omega) (by rfl) S0
  intro e a' W' hq
  obtain ⟨rfl, hfr, h⟩ : e = .exit 0 ∧ FrN (.slice A0 l.length c0) (w.heap.size + 1) ((6144 : Nat) : Int) a' ∧ Sh w (w.heap.size + 1) w.heap.size (laid l 6144) 0 0 0 (.slice none 0 0) W' := by
    cases e with
    | exit id => exact ⟨by rw [hq.1], hq.2⟩
    | _ => exact hq.elim
  obtain ⟨u, hu⟩ : ∃ u : Nat → Value, a' = frN (.slice A0 l.length c0) (w.heap.size + 1) ((6144 : Nat) : Int) u := ⟨_, hfr⟩
  have HS := Aside0.mk h
  clear hfr hq h S0 k1 k2 hb hmk hMC
  subst hu
  simp only [frN]
  go_wp2
  go_ret
  refine ⟨w.heap.size + 1, w.heap.size, rfl, Nat.le_succ _, Nat.le_refl _, ⟨?_⟩⟩
  have hs := HS.out
  exact { c0 := hs.c0, c1 := hs.c1, c3 := hs.c3, c4 := hs.c4, c5 := hs.c5, fz := hs.fz, fg := hs.fg, bs := fun i hi => by rw [hs.bs i hi]; simp [laid, hi], lb := hs.lb, lg := hs.lg, hB := hs.hB, ne := hs.ne }
end Go.Proofs.Ytmigbinllnejoaa.P
