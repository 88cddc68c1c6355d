/- BusPlays: a round of the law's loop. No condition but the hypotheses that stand in each. -/
import Derived.Test.YtlfcpmiajcimfaaPlays1
import Derived.Test.YtlfcpmiajcimfaaFind
import Derived.Test.YtlfcpmiajcimfaaPx9
namespace Go.Proofs.Ytlfcpmiajcimfaa.P
open Go.RowKit Go.Proofs.YtlfcpmiajcimfaaW.PrintWords Go.Proofs.YtlfcpmiajcimfaaW.PrintLast Go.Proofs.YtlfcpmiajcimfaaW.PrintMore Go.Proofs.Ytlfcpmiajcimfaa.Plain
set_option linter.unusedVariables false
set_option linter.unusedSimpArgs false
set_option maxHeartbeats 8000000
set_option maxRecDepth 100000
theorem run_ld41 {W : World} {A : Addr} {x y z : Value} (h0 : W.cell? (A.add 0) = some x) (h1 : W.cell? (A.add 1) = some y) (h2 : W.cell? (A.add 2) = some z) :
    (Instr.loadAt 41 (.pointer (some A))).run Try.prog W = .ok (.agg #[x, y, z]) W := by
  have hl : (loadCells A 3).run Try.prog W = .ok #[x, y, z] W := run_loadCells_list W A [x, y, z] (fun j v h => by
    match j, h with
    | 0, h => simp at h; subst h; exact h0
    | 1, h => simp at h; subst h; exact h1
    | 2, h => simp at h; subst h; exact h2)
  have hs := Try.sizeOf41
  have ha := Try.isAgg41
  simp only [Instr.loadAt, Instr.sureAddr, Sem.run_bind, Sem.run_pure, Result.andThen, loadVar, ha, hs, hl, if_true]
theorem run_ix35 {W : World} {al : Addr} {n c : Nat} {i : Nat} (h : i < n) :
    (Instr.indexAt 35 (.slice (some al) n c) (.int .i64 (i : Int))).run Try.prog W = .ok (.pointer (some (al.add (i * 3)))) W := by
  have hu := Try.underlying35
  have hs := Try.sizeOf41
  unfold Instr.indexAt
  go_simp
theorem exec_ix {P : Program} {ρ : Operand → Value} {o : Oper} {t : TypeId} {x i : Operand} {W W' : World} {v : Value} (ho : o.op = .indexAddr t x i) (h : (Instr.indexAt t (ρ x) (ρ i)).run P W = .ok v W') :
    (execOp ρ o).run P W = .ok (.value v) W' := by
  unfold execOp
  rw [ho]
  simp [h, Result.andThen]
def codeYes : Code → Code
  | .cond _ a _ => a
  | c => c
def codeNo : Code → Code
  | .cond _ _ b => b
  | c => c
noncomputable def playsBody : Code := codeIn (codeIn (codeSnd (codeFst (codeSnd (codeSnd (codeSnd (codeSnd (codeSnd (Try.f8.body.getD .skip)))))))))
/-- What a round needs of the acts: the cells of the act it takes. -/
structure ActAt (w₀ : World) (al : Addr) (i : Nat) (K A V : Int) : Prop where
  c0 : w₀.cell? ((al.add (i * 3)).add 0) = some (.int .i64 K)
  c1 : w₀.cell? ((al.add (i * 3)).add 1) = some (.int .u16 A)
  c2 : w₀.cell? ((al.add (i * 3)).add 2) = some (.int .u8 V)
  lt : al.block < w₀.heap.size
theorem add_block (a : Addr) (n : Nat) : (a.add n).block = a.block := by unfold Addr.add; split <;> rfl
theorem ActAt.load {w₀ W : World} {al : Addr} {i : Nat} {K A V : Int} (h : ActAt w₀ al i K A V) (hB : Below w₀.heap.size w₀ W) :
    (Instr.loadAt 41 (.pointer (some (al.add (i * 3))))).run Try.prog W = .ok (.agg #[.int .i64 K, .int .u16 A, .int .u8 V]) W := by
  have hl : ∀ n k, ((al.add n).add k).block < w₀.heap.size := fun n k => by rw [add_block, add_block]; exact h.lt
  exact run_ld41 ((hB.cell (hl _ _)).trans h.c0) ((hB.cell (hl _ _)).trans h.c1) ((hB.cell (hl _ _)).trans h.c2)
/-- The frame at a round's begin. -/
def fr (L : Value) (bm br : Nat) (i : Int) (u : Nat → Value) : Act := { tmps := #[L, u 1, u 2, u 3, .pointer (some ⟨bm, 0, none⟩), .pointer (some ⟨br, 0, none⟩), .int .i64 i, u 7, u 8, u 9, u 10, u 11, u 12, u 13, u 14, u 15, u 16, u 17, u 18, u 19, u 20, u 21, u 22, u 23, u 24, u 25, u 26, u 27, u 28, u 29, u 30, u 31, u 32, u 33, u 34, u 35, u 36, u 37, u 38, u 39, u 40, u 41, u 42, u 43, u 44, u 45, u 46, u 47, u 48, u 49, u 50, u 51, u 52, u 53, u 54, u 55, u 56, u 57, u 58, u 59, u 60, u 61, u 62, u 63, u 64, u 65, u 66, u 67, u 68, u 69, u 70, u 71, u 72, u 73, u 74, u 75, u 76, u 77, u 78, u 79, u 80, u 81, u 82, u 83, u 84, u 85, u 86, u 87, u 88, u 89, u 90, u 91, u 92, u 93, u 94, u 95, u 96, u 97, u 98, u 99, u 100, u 101, u 102, u 103, u 104, u 105, u 106, u 107, u 108, u 109, u 110, u 111, u 112, u 113, u 114, u 115, u 116, u 117, u 118, u 119, u 120, u 121, u 122, u 123, u 124, u 125, u 126, u 127, u 128, u 129, u 130, u 131, u 132, u 133, u 134, u 135, u 136, u 137], defers := [] }
def Fr (L : Value) (bm br : Nat) (i : Int) (a : Act) : Prop := a = fr L bm br i (fun k => a.tmps.getD k undef)
theorem round_other (Q : Exit → Act → World → Prop) (mm : Nat) (w₀ W : World) (al : Addr) (n c i bm bv bw br : Nat) (v0 v1 v2 v3 : Value) (m r : M4) (K V : Int) (A : Nat) (hA : A < 65536) (a : Act)
    (hi : i < n) (h80 : i < 80) (hact : ActAt w₀ al i K (A : Int) V) (k1 : K ≠ 1) (k2 : K ≠ 2) (k3 : K ≠ 3) (k4 : K ≠ 4) (hfr : Fr (.slice (some al) n c) bm br (i : Int) a) (h : St w₀ bm bv bw br v0 v1 v2 v3 v0 v1 v2 v3 m r W)
    (next : ∀ (a' : Act) (W' : World) (x0 x1 x2 x3 : Value), Fr (.slice (some al) n c) bm br ((i + 1 : Nat) : Int) a' → St w₀ bm bv bw br x0 x1 x2 x3 x0 x1 x2 x3 m r W' → Code.rounds Try.prog playsBody Q mm a' W') :
    Code.rounds Try.prog playsBody Q (mm + 1) a W := by
  obtain ⟨u, hu⟩ : ∃ u : Nat → Value, a = fr (.slice (some al) n c) bm br (i : Int) u := ⟨_, hfr⟩
  clear hfr
  subst hu
  rw [rounds_succ]
  obtain ⟨Z, hZ⟩ : ∃ Z, Code.rounds Try.prog playsBody Q mm = Z := ⟨_, rfl⟩
  rw [hZ] at next ⊢
  clear hZ
  have NX := Aside0.mk next
  clear next
  have HS := Aside0.mk h
  have hix := fun W => run_ix35 (W := W) (al := al) (c := c) hi
  have hld := hact.load h.P.hB
  clear h hact
  have g1 : decide ((i : Int) < (n : Int)) = true := decide_eq_true (by omega)
  have g2 : decide ((i : Int) < 80) = true := decide_eq_true (by omega)
  simp only [fr, playsBody, codeSnd, codeFst, codeIn, Try.f8, Option.getD_some]
  have e1 : decide (K = 1) = false := decide_eq_false k1
  have e2 : decide (K = 2) = false := decide_eq_false k2
  have e3 : decide (K = 3) = false := decide_eq_false k3
  have e4 : decide (K = 4) = false := decide_eq_false k4
  go_wp2_with (first
    | ((with_reducible refine gate_dst (N := 29) rfl ?_); refine Kd.event_run rfl (exec_ix rfl (hix _)) ?_)
    | ((with_reducible refine gate_dst (N := 30) rfl ?_); refine Kd.event_run rfl (exec_load rfl hld) ?_))
  exact NX.out _ _ _ _ _ _ (by rfl) (HS.out.below (below_alloc (Below.refl _ _) _))
theorem round_put (Q : Exit → Act → World → Prop) (mm : Nat) (w₀ W : World) (al : Addr) (n c i bm bv bw br : Nat) (v0 v1 v2 v3 : Value) (m r : M4) (K V : Int) (A : Nat) (hA : A < 65536) (a : Act)
    (hi : i < n) (h80 : i < 80) (hact : ActAt w₀ al i K (A : Int) V) (hk : K = 2) (hfr : Fr (.slice (some al) n c) bm br (i : Int) a) (h : St w₀ bm bv bw br v0 v1 v2 v3 v0 v1 v2 v3 m r W)
    (next : ∀ (a' : Act) (W' : World) (x0 x1 x2 x3 : Value), Fr (.slice (some al) n c) bm br ((i + 1 : Nat) : Int) a' → St w₀ bm bv bw br x0 x1 x2 x3 x0 x1 x2 x3 (m.put A V) (r.put A V) W' → Code.rounds Try.prog playsBody Q mm a' W') :
    Code.rounds Try.prog playsBody Q (mm + 1) a W := by
  obtain ⟨u, hu⟩ : ∃ u : Nat → Value, a = fr (.slice (some al) n c) bm br (i : Int) u := ⟨_, hfr⟩
  clear hfr
  subst hu
  rw [rounds_succ]
  obtain ⟨Z, hZ⟩ : ∃ Z, Code.rounds Try.prog playsBody Q mm = Z := ⟨_, rfl⟩
  rw [hZ] at next ⊢
  clear hZ
  have NX := Aside0.mk next
  clear next
  have HS := Aside0.mk h
  have hix := fun W => run_ix35 (W := W) (al := al) (c := c) hi
  have hld := hact.load h.P.hB
  clear h hact
  have g1 : decide ((i : Int) < (n : Int)) = true := decide_eq_true (by omega)
  have g2 : decide ((i : Int) < 80) = true := decide_eq_true (by omega)
  simp only [fr, playsBody, codeSnd, codeFst, codeIn, Try.f8, Option.getD_some]
  subst hk
  have HA := Aside0.mk (HS.out.sa_new (.cells #[.int .i64 2, .int .u16 (A : Int), .int .u8 V] 41))
  go_wp2_with (first
    | ((with_reducible refine gate_dst (N := 29) rfl ?_); refine Kd.event_run rfl (exec_ix rfl (hix _)) ?_)
    | ((with_reducible refine gate_dst (N := 30) rfl ?_); refine Kd.event_run rfl (exec_load rfl hld) ?_))
  obtain ⟨W1, hW1⟩ : ∃ W1, W.alloc (.cells #[.int .i64 2, .int .u16 (A : Int), .int .u8 V] 41) = W1 := ⟨_, rfl⟩
  obtain ⟨ba, hba⟩ : ∃ ba, W.heap.size = ba := ⟨_, rfl⟩
  rw [hW1, hba] at HA
  rw [hW1, hba]
  clear hW1 hba hld HS hix
  refine (put_sa HA A hA V).mono ?_
  clear HA
  rintro e w2 ⟨rfl, HA⟩
  have y0 := blk_cell HA.out.b 0
  have y1 := blk_cell HA.out.b 1
  have y2 := blk_cell HA.out.b 2
  simp only [List.getElem?_toArray, List.getElem?_cons_zero, List.getElem?_cons_succ] at y0 y1 y2
  have x0 := HA.out.s.b0
  have x1 := HA.out.s.b1
  have x2 := HA.out.s.b2
  have x3 := HA.out.s.b3
  have xf := HA.out.s.fb
  go_wp2_with fail
  clear y0 y1 y2 x0 x1 x2 x3 xf
  refine (rput_sa HA A hA V).mono ?_
  clear HA
  rintro e w3 ⟨z0, z1, z2, z3, rfl, HA⟩
  obtain ⟨A0, c0, A1, c1, A2, c2, A3, c3, e0, e1, e2, e3⟩ := HA.out.s.A.open
  subst e0 e1 e2 e3
  have y0 := blk_cell HA.out.b 0
  have y1 := blk_cell HA.out.b 1
  have y2 := blk_cell HA.out.b 2
  simp only [List.getElem?_toArray, List.getElem?_cons_zero, List.getElem?_cons_succ] at y0 y1 y2
  have x0 := HA.out.s.b0
  have x1 := HA.out.s.b1
  have x2 := HA.out.s.b2
  have x3 := HA.out.s.b3
  have xf := HA.out.s.fb
  go_wp2
  exact NX.out _ _ _ _ _ _ (by rfl) HA.out.s.stored
theorem round_object (Q : Exit → Act → World → Prop) (mm : Nat) (w₀ W : World) (al : Addr) (n c i bm bv bw br : Nat) (v0 v1 v2 v3 : Value) (m r : M4) (K V : Int) (A : Nat) (hA : A < 65536) (a : Act)
    (hi : i < n) (h80 : i < 80) (hact : ActAt w₀ al i K (A : Int) V) (hk : K = 3) (hfr : Fr (.slice (some al) n c) bm br (i : Int) a) (h : St w₀ bm bv bw br v0 v1 v2 v3 v0 v1 v2 v3 m r W)
    (next : ∀ (a' : Act) (W' : World) (x0 x1 x2 x3 : Value), Fr (.slice (some al) n c) bm br ((i + 1 : Nat) : Int) a' → St w₀ bm bv bw br x0 x1 x2 x3 x0 x1 x2 x3 (m.object (A % 256) V) (r.object (A % 256) V) W' → Code.rounds Try.prog playsBody Q mm a' W') :
    Code.rounds Try.prog playsBody Q (mm + 1) a W := by
  obtain ⟨u, hu⟩ : ∃ u : Nat → Value, a = fr (.slice (some al) n c) bm br (i : Int) u := ⟨_, hfr⟩
  clear hfr
  subst hu
  rw [rounds_succ]
  obtain ⟨Z, hZ⟩ : ∃ Z, Code.rounds Try.prog playsBody Q mm = Z := ⟨_, rfl⟩
  rw [hZ] at next ⊢
  clear hZ
  have NX := Aside0.mk next
  clear next
  have HS := Aside0.mk h
  have hix := fun W => run_ix35 (W := W) (al := al) (c := c) hi
  have hld := hact.load h.P.hB
  clear h hact
  have g1 : decide ((i : Int) < (n : Int)) = true := decide_eq_true (by omega)
  have g2 : decide ((i : Int) < 80) = true := decide_eq_true (by omega)
  simp only [fr, playsBody, codeSnd, codeFst, codeIn, Try.f8, Option.getD_some]
  subst hk
  have HA := Aside0.mk (HS.out.sa_new (.cells #[.int .i64 3, .int .u16 (A : Int), .int .u8 V] 41))
  have hw : IntKind.u8.wrap (A : Int) = ((A % 256 : Nat) : Int) := by rw [IntKind.wrap_u8']; omega
  go_wp2_with (first
    | ((with_reducible refine gate_dst (N := 29) rfl ?_); refine Kd.event_run rfl (exec_ix rfl (hix _)) ?_)
    | ((with_reducible refine gate_dst (N := 30) rfl ?_); refine Kd.event_run rfl (exec_load rfl hld) ?_))
  obtain ⟨W1, hW1⟩ : ∃ W1, W.alloc (.cells #[.int .i64 3, .int .u16 (A : Int), .int .u8 V] 41) = W1 := ⟨_, rfl⟩
  obtain ⟨ba, hba⟩ : ∃ ba, W.heap.size = ba := ⟨_, rfl⟩
  rw [hW1, hba] at HA
  rw [hW1, hba]
  clear hW1 hba hld HS hix
  refine (object_sa HA (A % 256) (Nat.mod_lt _ (by decide)) V).mono ?_
  clear HA
  rintro e w2 ⟨rfl, HA⟩
  have y0 := blk_cell HA.out.b 0
  have y1 := blk_cell HA.out.b 1
  have y2 := blk_cell HA.out.b 2
  simp only [List.getElem?_toArray, List.getElem?_cons_zero, List.getElem?_cons_succ] at y0 y1 y2
  have x0 := HA.out.s.b0
  have x1 := HA.out.s.b1
  have x2 := HA.out.s.b2
  have x3 := HA.out.s.b3
  have xf := HA.out.s.fb
  go_wp2_with fail
  clear y0 y1 y2 x0 x1 x2 x3 xf
  refine (robject_sa HA (A % 256) (Nat.mod_lt _ (by decide)) V).mono ?_
  clear HA
  rintro e w3 ⟨z0, z1, z2, z3, rfl, HA⟩
  obtain ⟨A0, c0, A1, c1, A2, c2, A3, c3, e0, e1, e2, e3⟩ := HA.out.s.A.open
  subst e0 e1 e2 e3
  have y0 := blk_cell HA.out.b 0
  have y1 := blk_cell HA.out.b 1
  have y2 := blk_cell HA.out.b 2
  simp only [List.getElem?_toArray, List.getElem?_cons_zero, List.getElem?_cons_succ] at y0 y1 y2
  have x0 := HA.out.s.b0
  have x1 := HA.out.s.b1
  have x2 := HA.out.s.b2
  have x3 := HA.out.s.b3
  have xf := HA.out.s.fb
  go_wp2
  exact NX.out _ _ _ _ _ _ (by rfl) HA.out.s.stored
end Go.Proofs.Ytlfcpmiajcimfaa.P
