/- The walk of whirligiglaw20.BusNobody: memories that are nil, or that nobody made, take nothing and tell nothing. No condition. -/
import Derived.Test.YtlfcpmiajcimfaaTold
import Derived.Test.YtlfcpmiajcimfaaPx9
namespace Go.Proofs.Ytlfcpmiajcimfaa.P
open Go.RowKit Go.Proofs.YtlfcpmiajcimfaaW.PrintWords Go.Proofs.YtlfcpmiajcimfaaW.PrintLast Go.Proofs.YtlfcpmiajcimfaaW.PrintMore
set_option linter.unusedVariables false
set_option linter.unusedSimpArgs false
set_option maxHeartbeats 4000000
set_option maxRecDepth 100000
theorem build51z (W : World) : (Instr.build 51 #[]).run Try.prog W = .ok (.agg (memCells (.slice none 0 0) (.slice none 0 0))) W := by kernel_rfl
theorem exec_build0 {P : Program} {ρ : Operand → Value} {o : Oper} {t : TypeId} {W W' : World} {v : Value} (ho : o.op = .build t #[]) (h : (Instr.build t #[]).run P W = .ok v W') :
    (execOp ρ o).run P W = .ok (.value v) W' := by
  unfold execOp
  rw [ho]
  simp [h, Result.andThen]
structure Nb (bz : Nat) (w₀ W : World) : Prop where
  s0 : W.cell? ⟨bz, 0, none⟩ = some (.slice none 0 0)
  lz : bz < W.heap.size
  hB : Below w₀.heap.size w₀ W
theorem Nb.below {bz : Nat} {w₀ W W' : World} (h : Nb bz w₀ W) (hb : Below W.heap.size W W') : Nb bz w₀ W' := ⟨(hb.cell (p := ⟨bz, 0, none⟩) h.lz).trans h.s0, Nat.lt_of_lt_of_le h.lz hb.size, below_step h.hB hb⟩
def Nobody (bz : Nat) (m : Value) : Prop := m = .pointer none ∨ m = .pointer (some ⟨bz, 0, none⟩)
theorem nb_cells {bz : Nat} {w₀ W : World} (h : Nb bz w₀ W) {m : Value} (hm : Nobody bz m) (r : Int) : Calls Try.prog 30 #[m, .int .i64 r] W fun e w2 => e = .returned (.slice none 0 0) ∧ w2 = W := by
  rcases hm with rfl | rfl
  · exact cells_none r W
  · exact cells_zero bz r W h.s0
theorem nb_put {bz : Nat} {w₀ W : World} (h : Aside0 (Nb bz w₀ W)) {m : Value} (hm : Nobody bz m) (a : Nat) (ha : a < 65536) (v : Int) :
    Calls Try.prog 18 #[m, .int .u16 (a : Int), .int .u8 v] W fun e w' => e = .returned (.tuple #[]) ∧ Aside0 (Nb bz w₀ w') := by
  obtain ⟨F, R, hFR, hF, hA, hc⟩ := best_cases a ha
  refine (put_none m a F R v _ W hFR hA (fun w' hb => nb_cells (h.out.below hb) hm R)).mono ?_
  rintro e w' ⟨rfl, hb⟩
  exact ⟨rfl, ⟨h.out.below hb⟩⟩
theorem nb_get {bz : Nat} {w₀ W : World} (h : Aside0 (Nb bz w₀ W)) {m : Value} (hm : Nobody bz m) (a : Nat) (ha : a < 65536) :
    Calls Try.prog 19 #[m, .int .u16 (a : Int)] W fun e w' => e = .returned (.int .u8 255) ∧ Aside0 (Nb bz w₀ w') := by
  obtain ⟨F, R, hFR, hF, hA, hc⟩ := best_cases a ha
  refine (get_none m a F R W _ hFR hA (fun w' hb => nb_cells (h.out.below hb) hm R)).mono ?_
  rintro e w' ⟨rfl, hb⟩
  exact ⟨rfl, ⟨h.out.below hb⟩⟩
theorem nb_object {bz : Nat} {w₀ W : World} (h : Aside0 (Nb bz w₀ W)) {m : Value} (hm : Nobody bz m) (k : Nat) (hk : k < 256) (v : Int) :
    Calls Try.prog 25 #[m, .int .u8 (k : Int), .int .u8 v] W fun e w' => e = .returned (.tuple #[]) ∧ Aside0 (Nb bz w₀ w') := by
  refine (object_none m v k 0 none W (by omega) hk (nb_cells h.out hm 4)).mono ?_
  rintro e w' ⟨rfl, rfl⟩
  exact ⟨rfl, h⟩
theorem nb_vram {bz : Nat} {w₀ W : World} (h : Aside0 (Nb bz w₀ W)) {m : Value} (hm : Nobody bz m) :
    Calls Try.prog 27 #[m] W fun e w' => ∃ g, e = .returned (.slice (some ⟨g, 0, none⟩) 0 0) ∧ Aside0 (Nb bz w₀ w') := by
  refine (vram_nil m W (nb_cells h.out hm 1)).mono ?_
  rintro e w' ⟨g, rfl, hb⟩
  exact ⟨g, rfl, ⟨h.out.below hb⟩⟩
theorem nb_oam {bz : Nat} {w₀ W : World} (h : Aside0 (Nb bz w₀ W)) {m : Value} (hm : Nobody bz m) :
    Calls Try.prog 28 #[m] W fun e w' => ∃ g, e = .returned (.slice (some ⟨g, 0, none⟩) 0 0) ∧ Aside0 (Nb bz w₀ w') := by
  refine (oam_nil m W (nb_cells h.out hm 4)).mono ?_
  rintro e w' ⟨g, rfl, hb⟩
  exact ⟨g, rfl, ⟨h.out.below hb⟩⟩
theorem nobody_walk (a : Nat) (ha : a < 65536) (v : Int) (w : World) :
    Calls Try.prog 9 #[.int .u16 (a : Int), .int .u8 v] w fun e w' => e = .returned (.bool true) ∧ Below w.heap.size w w' := by
  go_enter Try.func9, Try.ntmps9
  go_wp2_with fail
  refine (whirligiglaw20_shown.calls true _ rfl).mono ?_
  rintro e w1 ⟨rfl, b1⟩
  have NB : Nb w1.heap.size w (w1.alloc (.cells (memCells (.slice none 0 0) (.slice none 0 0)) 51)) := ⟨(blk_cell (blk_new w1 _) 0).trans (memCells_0 _ _), by simp, below_alloc b1 _⟩
  have HN := Aside0.mk NB
  clear NB b1
  have hw : IntKind.u8.wrap (a : Int) = ((a % 256 : Nat) : Int) := by rw [IntKind.wrap_u8']; omega
  go_wp2_with (first
    | ((with_reducible refine gate_dst (N := 11) rfl ?_); refine Kd.event_run rfl (exec_build0 rfl (build51z _)) ?_)
    | ((with_reducible refine gate_dst (N := 12) rfl ?_); refine Kd.event_run rfl (exec_box rfl (box_run 51 _ _)) ?_))
  obtain ⟨bz, hbz⟩ : ∃ bz, w1.heap.size = bz := ⟨_, rfl⟩
  obtain ⟨W0, hW0⟩ : ∃ W0, w1.alloc (.cells (memCells (.slice none 0 0) (.slice none 0 0)) 51) = W0 := ⟨_, rfl⟩
  rw [hbz, hW0] at HN
  rw [hbz, hW0]
  clear hbz hW0
  refine wp_loop_rounds 3 ?_
  rw [rounds_succ]
  go_wp2_with fail
  refine (nb_put HN (.inl rfl) a ha v).mono ?_
  clear HN
  rintro e w2 ⟨rfl, HN⟩
  go_wp2_with fail
  refine (nb_object HN (.inl rfl) (a % 256) (Nat.mod_lt _ (by decide)) v).mono ?_
  clear HN
  rintro e w2 ⟨rfl, HN⟩
  go_wp2_with fail
  refine (nb_get HN (.inl rfl) a ha).mono ?_
  clear HN
  rintro e w2 ⟨rfl, HN⟩
  go_wp2_with fail
  refine (nb_vram HN (.inl rfl)).mono ?_
  clear HN
  rintro e w2 ⟨g1, rfl, HN⟩
  go_wp2_with fail
  refine (nb_oam HN (.inl rfl)).mono ?_
  clear HN
  rintro e w2 ⟨g2, rfl, HN⟩
  go_wp2_with fail
  rw [rounds_succ]
  go_wp2_with fail
  refine (nb_put HN (.inr rfl) a ha v).mono ?_
  clear HN
  rintro e w2 ⟨rfl, HN⟩
  go_wp2_with fail
  refine (nb_object HN (.inr rfl) (a % 256) (Nat.mod_lt _ (by decide)) v).mono ?_
  clear HN
  rintro e w2 ⟨rfl, HN⟩
  go_wp2_with fail
  refine (nb_get HN (.inr rfl) a ha).mono ?_
  clear HN
  rintro e w2 ⟨rfl, HN⟩
  go_wp2_with fail
  refine (nb_vram HN (.inr rfl)).mono ?_
  clear HN
  rintro e w2 ⟨g1, rfl, HN⟩
  go_wp2_with fail
  refine (nb_oam HN (.inr rfl)).mono ?_
  clear HN
  rintro e w2 ⟨g2, rfl, HN⟩
  go_wp2_with fail
  rw [rounds_succ]
  go_wp2_with fail
  go_ret
  exact ⟨rfl, HN.out.hB⟩
theorem busNobody_calls (a v : Int) (W : World) (wa : (Lit.int .u16 a).wf = true) (wv : (Lit.int .u8 v).wf = true) :
    Calls Try.prog 9 #[.int .u16 a, .int .u8 v] W fun e w' => e = .returned (.bool true) ∧ Below W.heap.size W w' := by
  have hmin : IntKind.u16.min = 0 := rfl
  have hmax : IntKind.u16.max = 65535 := rfl
  simp only [Lit.wf, Bool.and_eq_true, decide_eq_true_eq] at wa
  obtain ⟨n, rfl⟩ := Int.eq_ofNat_of_zero_le (show 0 ≤ a by omega)
  exact nobody_walk n (by omega) v W
end Go.Proofs.Ytlfcpmiajcimfaa.P
