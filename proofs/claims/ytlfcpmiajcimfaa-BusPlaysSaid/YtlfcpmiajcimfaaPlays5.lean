/- BusPlays: the round that compares. No condition but the hypotheses that stand in it. -/
import Derived.Test.YtlfcpmiajcimfaaPlays4
namespace Go.Proofs.Ytlfcpmiajcimfaa.P
open Go.RowKit Go.Proofs.YtlfcpmiajcimfaaW.PrintWords Go.Proofs.YtlfcpmiajcimfaaW.PrintLast Go.Proofs.YtlfcpmiajcimfaaW.PrintMore Go.Proofs.Ytlfcpmiajcimfaa.Plain
set_option linter.unusedVariables false
set_option linter.unusedSimpArgs false
set_option maxHeartbeats 8000000
set_option maxRecDepth 100000
def sOf (f : Nat → Int) (n : Nat) : ByteArray := (lof f n).foldl (fun r n => r.push (UInt8.ofNat n.toNat)) ByteArray.empty
theorem conv36 {W : World} {g n c : Nat} {f : Nat → Int} (h : ∀ i, i < n → W.cell? ⟨g, i, none⟩ = some (.int .u8 (f i))) :
    (convert 36 9 (.slice (some ⟨g, 0, none⟩) n c)).run Try.prog W = .ok (.string (sOf f n)) W := by
  have hl : (loadCells ⟨g, 0, none⟩ n).run Try.prog W = .ok ((lof f n).map (Value.int .u8)).toArray W := by
    rw [run_loadCells (P := Try.prog) W ⟨g, 0, none⟩ n (fun i => .int .u8 (f i)) (fun j hj => by rw [add_none, Nat.zero_add]; exact h j hj)]
    simp [lof, List.map_map, Function.comp_def]
  rw [run_convert_bytes_string W 36 9 5 _ n c Try.underlying36 Try.underlying5 Try.underlying9]
  exact run_bytesToString W _ n c _ hl
theorem conv_R {W : World} {n₀ : Nat} {v : Value} {f : Nat → Int} {n : Nat} (hn : 0 < n) (h : RB W n₀ v (lof f n)) : ∃ g c, v = .slice (some ⟨g, 0, none⟩) n c ∧ ∀ W', W'.heap[g]? = W.heap[g]? → (convert 36 9 (.slice (some ⟨g, 0, none⟩) n c)).run Try.prog W' = .ok (.string (sOf f n)) W' := by
  obtain ⟨g, c, e, hb, hl, _⟩ := Kd.R_form h (by rw [lof_len]; exact hn)
  rw [lof_len] at e
  subst e
  refine ⟨g, c, rfl, fun W' hW => conv36 (fun i hi => ?_)⟩
  obtain ⟨h1, _⟩ := Kd.R_celln 0 h (i : Int) (by omega) (by omega)
  refine (World.cell?_of_block hW).trans ?_
  rw [Int.toNat_natCast] at h1
  rw [h1]
  have := lof_at f n i hi
  simp only [rd, rdOf] at this ⊢
  first | rw [this] | simp [this] | simpa using this
theorem event_want {P : Program} {ops : Array Oper} {Q : Exit → Act → World → Prop} {a : Act} {W w1 : World} {rest : List Oper} {o : Oper} {v : Value} (hw : Region.wanted o (yielded ops a.tmps) = true) (hrun : (execOp a.eval o).run P W = .ok (.value v) w1) (h : wpList P ops Q rest (a.put o.dst v) w1) : wpList P ops Q (o :: rest) a W := by
  unfold wpList
  rw [if_pos hw]
  left
  unfold Oper.wp
  rw [hrun]
  exact h
theorem exec_conv {P : Program} {ρ : Operand → Value} {o : Oper} {t u : TypeId} {x : Operand} {W W' : World} {v : Value} (ho : o.op = .convert t u x) (h : (convert t u (ρ x)).run P W = .ok v W') :
    (execOp ρ o).run P W = .ok (.value v) W' := by
  unfold execOp
  rw [ho]
  simp [h, Result.andThen]
theorem cells_at {W : World} {g n : Nat} {f : Nat → Int} (h : W.heap[g]? = some (.cells (cellsOf f n).toArray 5)) (i : Nat) (hi : i < n) : W.cell? ⟨g, i, none⟩ = some (.int .u8 (f i)) := by
  refine (blk_cell h i).trans ?_
  simp [cellsOf, hi]
theorem round_same (Q : Exit → Act → World → Prop) (mm : Nat) (w₀ W : World) (al : Addr) (n c i bm bv bw br : Nat) (v0 v1 v2 v3 : Value) (m r : M4) (K V : Int) (A : Nat) (hA : A < 65536) (a : Act)
    (hi : i < n) (h80 : i < 80) (hact : ActAt w₀ al i K (A : Int) V) (hk : K = 4) (hmr : m = r) (hfr : Fr (.slice (some al) n c) bm br (i : Int) a) (h : St w₀ bm bv bw br v0 v1 v2 v3 v0 v1 v2 v3 m r W)
    (next : ∀ (a' : Act) (W' : World) (x0 x1 x2 x3 : Value), Fr (.slice (some al) n c) bm br ((i + 1 : Nat) : Int) a' → St w₀ bm bv bw br x0 x1 x2 x3 x0 x1 x2 x3 m r W' → Code.rounds Try.prog playsBody Q mm a' W') :
    Code.rounds Try.prog playsBody Q (mm + 1) a W := by
  obtain ⟨u, hu⟩ : ∃ u : Nat → Value, a = fr (.slice (some al) n c) bm br (i : Int) u := ⟨_, hfr⟩
  clear hfr
  subst hu
  rw [rounds_succ]
  obtain ⟨Z, hZ⟩ : ∃ Z, Code.rounds Try.prog playsBody Q mm = Z := ⟨_, rfl⟩
  rw [hZ] at next ⊢
  clear hZ
  have NX := Aside0.mk next
  clear next
  have HS := Aside0.mk h
  have hix := fun W => run_ix35 (W := W) (al := al) (c := c) hi
  have hld := hact.load h.P.hB
  clear h hact
  have g1 : decide ((i : Int) < (n : Int)) = true := decide_eq_true (by omega)
  have g2 : decide ((i : Int) < 80) = true := decide_eq_true (by omega)
  simp only [fr, playsBody, codeSnd, codeFst, codeIn, Try.f8, Option.getD_some]
  subst hk
  subst hmr
  have HA := Aside0.mk (HS.out.sa_new (.cells #[.int .i64 4, .int .u16 (A : Int), .int .u8 V] 41)).s
  go_wp2_with (first
    | ((with_reducible refine gate_dst (N := 29) rfl ?_); refine Kd.event_run rfl (exec_ix rfl (hix _)) ?_)
    | ((with_reducible refine gate_dst (N := 30) rfl ?_); refine Kd.event_run rfl (exec_load rfl hld) ?_))
  obtain ⟨W1, hW1⟩ : ∃ W1, W.alloc (.cells #[.int .i64 4, .int .u16 (A : Int), .int .u8 V] 41) = W1 := ⟨_, rfl⟩
  rw [hW1] at HA
  rw [hW1]
  clear hW1 hld HS hix
  refine (vram_mem HA.out.P.M).mono ?_
  rintro e w2 ⟨h1, rfl, b1, s1, hb1⟩
  have H2 := Aside0.mk (And.intro (HA.out.below hb1) (And.intro b1 (And.intro s1 (And.intro (show Far bm bv bw br h1 by have := HA.out.P.M.lm; have := HA.out.P.M.lv; have := HA.out.P.M.lw; have := HA.out.lb; unfold Far; omega) (And.intro (show ¬ Own v0 v1 v2 v3 h1 from fun e => Nat.not_le.2 (HA.out.A.lt e) s1) (show w₀.heap.size ≤ h1 from Nat.le_trans HA.out.P.hB.size s1))))))
  clear HA b1 s1 hb1
  go_wp2_with fail
  refine (oam_mem H2.out.1.P.M).mono ?_
  rintro e w3 ⟨h2, rfl, b2, s2, hb2⟩
  obtain ⟨S2, b1, s1, fa1, fo1, fk1⟩ := H2.out
  have S3 := S2.below hb2
  have b1' := (hb2.block h1 (blk_lt b1)).trans b1
  have c1 := conv36 (c := 8192) (cells_at b1')
  have c3 := conv36 (c := 160) (cells_at b2)
  have CX : Cx w₀ bm bv bw br h1 h2 v0 v1 v2 v3 m m w3 := ⟨S3, fun i hi => ⟨_, cells_at b1' i hi⟩, fun i hi => ⟨_, cells_at b2 i hi⟩, fun i => blk_frozen b1' i, fun i => blk_frozen b2 i, fa1, (by have := S2.P.M.lm; have := S2.P.M.lv; have := S2.P.M.lw; have := S2.lb; unfold Far; omega), fo1, (fun e => Nat.not_le.2 (S2.A.lt e) s2), fk1, Nat.le_trans S2.P.hB.size s2⟩
  obtain ⟨q0, d0, e0, c2⟩ := conv_R (by omega) S3.A.r0
  obtain ⟨q2, d2, e2, c4⟩ := conv_R (by omega) S3.A.r2
  have c2 := c2 w3 rfl
  have c4 := c4 w3 rfl
  have x0 := S3.b0
  have x2 := S3.b2
  rw [e0] at x0
  rw [e2] at x2
  have HC := Aside0.mk CX
  clear CX S2 S3 H2 b1 s1 fa1 fo1 fk1 b1' b2 s2 hb2 e0 e2
  obtain ⟨SV, hSV⟩ : ∃ SV, sOf m.v 8192 = SV := ⟨_, rfl⟩
  obtain ⟨SO, hSO⟩ : ∃ SO, sOf m.o 160 = SO := ⟨_, rfl⟩
  rw [hSV] at c1 c2
  rw [hSO] at c3 c4
  clear hSV hSO
  have C1 := Aside0.mk c1
  have C2 := Aside0.mk c2
  have C3 := Aside0.mk c3
  have C4 := Aside0.mk c4
  clear c1 c2 c3 c4
  go_wp2_with (first
    | ((with_reducible refine gate_dst (N := 81) rfl ?_); refine event_want (by rfl) (exec_conv rfl C1.out) ?_)
    | ((with_reducible refine gate_dst (N := 84) rfl ?_); refine event_want (by rfl) (exec_conv rfl C2.out) ?_)
    | ((with_reducible refine gate_dst (N := 88) rfl ?_); refine event_want (by rfl) (exec_conv rfl C3.out) ?_)
    | ((with_reducible refine gate_dst (N := 91) rfl ?_); refine event_want (by rfl) (exec_conv rfl C4.out) ?_))
  clear C1 C2 C3 C4 x0 x2 c2 c4
  refine wpV _ w₀ al n c i bm bv bw br h1 h2 v0 v1 v2 v3 m m _ _ (by rfl) HC.out ?_
  clear HC
  intro a' W' hfr h
  obtain ⟨u, hu⟩ : ∃ u : Nat → Value, a' = frV al n c i bm br h1 h2 (.int .i64 ((8192 : Nat) : Int)) u := ⟨_, hfr⟩
  clear hfr
  subst hu
  have HC := Aside0.mk h
  clear h
  simp only [frV]
  go_wp2_with fail
  refine wpO _ w₀ al n c i bm bv bw br h1 h2 v0 v1 v2 v3 m m _ _ (by rfl) HC.out ?_
  clear HC
  intro a' W' hfr h
  obtain ⟨u, hu⟩ : ∃ u : Nat → Value, a' = frO al n c i bm br h1 h2 (.int .i64 ((160 : Nat) : Int)) u := ⟨_, hfr⟩
  clear hfr
  subst hu
  have HC := Aside0.mk h
  clear h
  simp only [frO]
  go_wp2
  exact NX.out _ _ _ _ _ _ (by rfl) HC.out.s
end Go.Proofs.Ytlfcpmiajcimfaa.P
