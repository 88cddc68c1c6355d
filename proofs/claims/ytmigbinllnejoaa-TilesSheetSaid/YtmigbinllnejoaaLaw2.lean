/- TilesSheet: a round of the loop that asks. No condition but the hypotheses that stand in each. -/
import Derived.Test.YtmigbinllnejoaaLaw1
import Derived.Shelf.RegionOpen
namespace Go.Proofs.Ytmigbinllnejoaa.P
open Go.RowKit Go.Proofs.YtmigbinllnejoaaW.PrintWords Go.Proofs.YtmigbinllnejoaaW.PrintLast Go.Proofs.YtmigbinllnejoaaW.PrintMore Go.Proofs.Ytmigbinllnejoaa.Plain
set_option linter.unusedVariables false
set_option linter.unusedSimpArgs false
set_option maxHeartbeats 8000000
set_option maxRecDepth 100000
theorem run_ld42 {W : World} {A : Addr} {x y z : Value} (h0 : W.cell? (A.add 0) = some x) (h1 : W.cell? (A.add 1) = some y) (h2 : W.cell? (A.add 2) = some z) :
    (Instr.loadAt 42 (.pointer (some A))).run Try.prog W = .ok (.agg #[x, y, z]) W := by
  have hl : (loadCells A 3).run Try.prog W = .ok #[x, y, z] W := run_loadCells_list W A [x, y, z] (fun j v h => by
    match j, h with
    | 0, h => simp at h; subst h; exact h0
    | 1, h => simp at h; subst h; exact h1
    | 2, h => simp at h; subst h; exact h2)
  have hs := Try.sizeOf42
  have ha := Try.isAgg42
  simp only [Instr.loadAt, Instr.sureAddr, Sem.run_bind, Sem.run_pure, Result.andThen, loadVar, ha, hs, hl, if_true]
theorem run_ix37 {W : World} {al : Addr} {n c : Nat} {i : Nat} (h : i < n) :
    (Instr.indexAt 37 (.slice (some al) n c) (.int .i64 (i : Int))).run Try.prog W = .ok (.pointer (some (al.add (i * 3)))) W := by
  have hu := Try.underlying37
  have hs := Try.sizeOf42
  unfold Instr.indexAt
  go_simp
theorem exec_ix {P : Program} {ρ : Operand → Value} {o : Oper} {t : TypeId} {x i : Operand} {W W' : World} {v : Value} (ho : o.op = .indexAddr t x i) (h : (Instr.indexAt t (ρ x) (ρ i)).run P W = .ok v W') :
    (execOp ρ o).run P W = .ok (.value v) W' := by
  unfold execOp
  rw [ho]
  simp [h, Result.andThen]
theorem exec_load {P : Program} {ρ : Operand → Value} {o : Oper} {t : TypeId} {x : Operand} {W W' : World} {v : Value} (ho : o.op = .load t x) (h : (Instr.loadAt t (ρ x)).run P W = .ok v W') :
    (execOp ρ o).run P W = .ok (.value v) W' := by
  unfold execOp
  rw [ho]
  simp [h, Result.andThen]
/-- What a round needs of the list: the cells of the pixel that is asked for. -/
structure AskAt (w₀ : World) (al : Addr) (i : Nat) (t x y : Int) : Prop where
  c0 : w₀.cell? ((al.add (i * 3)).add 0) = some (.int .i64 t)
  c1 : w₀.cell? ((al.add (i * 3)).add 1) = some (.int .i64 x)
  c2 : w₀.cell? ((al.add (i * 3)).add 2) = some (.int .i64 y)
  lt : al.block < w₀.heap.size
theorem add_block (a : Addr) (n : Nat) : (a.add n).block = a.block := by unfold Addr.add; split <;> rfl
theorem AskAt.load {w₀ W : World} {al : Addr} {i : Nat} {t x y : Int} (h : AskAt w₀ al i t x y) (hB : Below w₀.heap.size w₀ W) :
    (Instr.loadAt 42 (.pointer (some (al.add (i * 3))))).run Try.prog W = .ok (.agg #[.int .i64 t, .int .i64 x, .int .i64 y]) W := by
  have hl : ∀ n k, ((al.add n).add k).block < w₀.heap.size := fun n k => by rw [add_block, add_block]; exact h.lt
  exact run_ld42 ((hB.cell (hl _ _)).trans h.c0) ((hB.cell (hl _ _)).trans h.c1) ((hB.cell (hl _ _)).trans h.c2)
/-- What a round holds beside the sheet: its own block. -/
structure Sk (w₀ : World) (ba : Nat) (t x y : Int) (W : World) : Prop where
  b : W.heap[ba]? = some (.cells #[.int .i64 t, .int .i64 x, .int .i64 y] 42)
  hB : Below w₀.heap.size w₀ W
theorem Sk.below {w₀ W W' : World} {ba : Nat} {t x y : Int} (h : Sk w₀ ba t x y W) (hb : Below W.heap.size W W') : Sk w₀ ba t x y W' := ⟨(hb.block ba (blk_lt h.b)).trans h.b, below_step h.hB hb⟩
theorem Sk.blo {w₀ W W' : World} {ba b : Nat} {t x y : Int} (h : Sk w₀ ba t x y W) (hb : Blo b W W') (hn : ba ≠ b) (h0 : w₀.heap.size ≤ b) : Sk w₀ ba t x y W' :=
  ⟨(hb.block ba (blk_lt h.b) hn).trans h.b, ⟨hb.os.trans h.hB.os, hb.tape.trans h.hB.tape, hb.output.trans h.hB.output, Nat.le_trans h.hB.size hb.size, fun k hk => (hb.block k (Nat.lt_of_lt_of_le hk h.hB.size) (by omega)).trans (h.hB.block k hk)⟩⟩
theorem Sd.lb {w₀ W : World} {b g : Nat} {f : Nat → Int} {q : Int} (h : Sd w₀ b g f q W) : b < W.heap.size := by
  rcases h with h | ⟨rv, h, _⟩ <;> exact h.lb
theorem ask_round (Q : Exit → Act → World → Prop) (Z : Act → World → Prop) (hQ : ∀ ch a b w, Q (.panic ch) a w → Q (.panic ch) b w) (w₀ W : World) (b g : Nat) (V : Option Addr) (l : List Int) (cv : Nat) (hcv : l.length ≤ cv) (hl : ∀ x ∈ l, 0 ≤ x ∧ x < 256) (hV : Kd.C (Kd.int .u8) w₀ V l.length l) (h0 : w₀.heap.size ≤ b)
    (O : Value) (al : Addr) (m c i : Nat) (hi : i < m) (hm : m ≤ 200) (t x y : Int) (hask : AskAt w₀ al i t x y) (a : Act) (hfr : Fr8 (.slice V l.length cv) (.slice (some al) m c) O b (i : Int) a) (hB : Below w₀.heap.size w₀ W) (h : Sd W b g (byteOf l) (i : Int) W)
    (next : ∀ (a' : Act) (W' : World), Fr8 (.slice V l.length cv) (.slice (some al) m c) O b ((i + 1 : Nat) : Int) a' → Below w₀.heap.size w₀ W' → Sd W' b g (byteOf l) ((i + 1 : Nat) : Int) W' → Z a' W') :
    askBody.wp Try.prog (Exit.then Z Q) a W := by
  obtain ⟨u, hu⟩ : ∃ u : Nat → Value, a = fr8 (.slice V l.length cv) (.slice (some al) m c) O b (i : Int) u := ⟨_, hfr⟩
  clear hfr
  subst hu
  have NX := Aside0.mk next
  have HV := Aside0.mk hV
  have HL := Aside0.mk hl
  have hld := hask.load hB
  have hix := fun W => run_ix37 (W := W) (al := al) (c := c) hi
  have HS := Aside0.mk (And.intro h hB)
  clear h hB next hV hl hask
  have g7 : IntKind.i64.wrap ((i : Int) + 1) = (i : Int) + 1 := by
    unfold IntKind.wrap
    simp [IntKind.bits, IntKind.signed]
    omega
  have g1 : decide ((i : Int) < (m : Int)) = true := decide_eq_true (by omega)
  simp only [fr8, askBody, codeSnd, codeFst, codeIn, Try.f9, Option.getD_some]
  go_wp2_with (first
    | ((with_reducible refine gate_dst (N := 51) rfl ?_); refine Kd.event_run rfl (exec_ix rfl (hix _)) ?_)
    | ((with_reducible refine gate_dst (N := 52) rfl ?_); refine Kd.event_run rfl (exec_load rfl hld) ?_))
  clear hix hld
  have hb1 : Below W.heap.size W (W.alloc (.cells #[.int .i64 t, .int .i64 x, .int .i64 y] 42)) := below_alloc (Below.refl _ _) _
  have HK := Aside0.mk (Sk.mk (blk_new W (.cells #[.int .i64 t, .int .i64 x, .int .i64 y] 42)) (below_step HS.out.2 hb1))
  have HD := Aside0.mk (HS.out.1.below hb1)
  have hne : W.heap.size ≠ b := by have := HS.out.1.lb; omega
  clear HS hb1
  obtain ⟨W1, hW1⟩ : ∃ W1, W.alloc (.cells #[.int .i64 t, .int .i64 x, .int .i64 y] 42) = W1 := ⟨_, rfl⟩
  obtain ⟨ba, hba⟩ : ∃ ba, W.heap.size = ba := ⟨_, rfl⟩
  rw [hW1, hba] at HK
  rw [hW1] at HD
  rw [hba] at hne
  rw [hW1, hba]
  clear hW1 hba
  have HD6 := HD.out.below (below_drew1 (Below.refl _ _))
  clear HD
  refine start_ (n := 24) (S := fun w' => Sk w₀ ba t x y w') (ds := []) #[false, false, false, false, false, false, false, false, false, false, false, false, false, false, false, false, false, false, false, false, false, false, false, false] (by kernel_rfl) rfl rfl (HK.out.below (below_drew1 (Below.refl _ _))) (fun hHeld => ?_)
  generalize hW6 : W1.drew = W6 at hHeld HD6 ⊢
  refine pure_ (i := 0) (N := some 53) (v := ?_) (a' := ?_) #[true, false, false, false, false, false, false, false, false, false, false, false, false, false, false, false, false, false, false, false, false, false, false, false] rfl rfl (by kernel_rfl) (fun _ _ _ h => hQ _ _ _ _ h) (Or.inl ⟨by rfl, ?_⟩) ?_ ?_
  rotate_left
  · intro w'
    go_simp
    first | done | with_reducible rfl
  rotate_left
  · simp only [Act.put, List.setIfInBounds_toArray, List.set_cons_zero, List.set_cons_succ]
    rfl
  refine pure_ (i := 1) (N := some 54) (v := ?_) (a' := ?_) #[true, true, false, false, false, false, false, false, false, false, false, false, false, false, false, false, false, false, false, false, false, false, false, false] rfl rfl (by kernel_rfl) (fun _ _ _ h => hQ _ _ _ _ h) (Or.inl ⟨by rfl, ?_⟩) ?_ ?_
  rotate_left
  · intro w'
    go_simp
    first | done | with_reducible rfl
  rotate_left
  · simp only [Act.put, List.setIfInBounds_toArray, List.set_cons_zero, List.set_cons_succ]
    rfl
  refine take_ (i := 2) (N := some 55) (v := ?_) (a' := ?_) #[true, true, true, false, false, false, false, false, false, false, false, false, false, false, false, false, false, false, false, false, false, false, false, false] rfl rfl (by kernel_rfl) (fun _ _ _ h => hQ _ _ _ _ h) (Or.inl ⟨by rfl, ?_⟩) hHeld ?_ ?_
  rotate_left
  · intro w' hS
    have y0 := blk_cell hS.b 0
    have y1 := blk_cell hS.b 1
    have y2 := blk_cell hS.b 2
    simp only [List.getElem?_toArray, List.getElem?_cons_zero, List.getElem?_cons_succ] at y0 y1 y2
    clear hS
    go_simp
    first | done | with_reducible rfl
  rotate_left
  · simp only [Act.put, List.setIfInBounds_toArray, List.set_cons_zero, List.set_cons_succ]
    rfl
  refine pure_ (i := 3) (N := some 56) (v := ?_) (a' := ?_) #[true, true, true, true, false, false, false, false, false, false, false, false, false, false, false, false, false, false, false, false, false, false, false, false] rfl rfl (by kernel_rfl) (fun _ _ _ h => hQ _ _ _ _ h) (Or.inl ⟨by rfl, ?_⟩) ?_ ?_
  rotate_left
  · intro w'
    go_simp
    first | done | with_reducible rfl
  rotate_left
  · simp only [Act.put, List.setIfInBounds_toArray, List.set_cons_zero, List.set_cons_succ]
    rfl
  refine take_ (i := 4) (N := some 57) (v := ?_) (a' := ?_) #[true, true, true, true, true, false, false, false, false, false, false, false, false, false, false, false, false, false, false, false, false, false, false, false] rfl rfl (by kernel_rfl) (fun _ _ _ h => hQ _ _ _ _ h) (Or.inl ⟨by rfl, ?_⟩) hHeld ?_ ?_
  rotate_left
  · intro w' hS
    have y0 := blk_cell hS.b 0
    have y1 := blk_cell hS.b 1
    have y2 := blk_cell hS.b 2
    simp only [List.getElem?_toArray, List.getElem?_cons_zero, List.getElem?_cons_succ] at y0 y1 y2
    clear hS
    go_simp
    first | done | with_reducible rfl
  rotate_left
  · simp only [Act.put, List.setIfInBounds_toArray, List.set_cons_zero, List.set_cons_succ]
    rfl
  refine pure_ (i := 5) (N := some 58) (v := ?_) (a' := ?_) #[true, true, true, true, true, true, false, false, false, false, false, false, false, false, false, false, false, false, false, false, false, false, false, false] rfl rfl (by kernel_rfl) (fun _ _ _ h => hQ _ _ _ _ h) (Or.inl ⟨by rfl, ?_⟩) ?_ ?_
  rotate_left
  · intro w'
    go_simp
    first | done | with_reducible rfl
  rotate_left
  · simp only [Act.put, List.setIfInBounds_toArray, List.set_cons_zero, List.set_cons_succ]
    rfl
  refine take_ (i := 6) (N := some 59) (v := ?_) (a' := ?_) #[true, true, true, true, true, true, true, false, false, false, false, false, false, false, false, false, false, false, false, false, false, false, false, false] rfl rfl (by kernel_rfl) (fun _ _ _ h => hQ _ _ _ _ h) (Or.inl ⟨by rfl, ?_⟩) hHeld ?_ ?_
  rotate_left
  · intro w' hS
    have y0 := blk_cell hS.b 0
    have y1 := blk_cell hS.b 1
    have y2 := blk_cell hS.b 2
    simp only [List.getElem?_toArray, List.getElem?_cons_zero, List.getElem?_cons_succ] at y0 y1 y2
    clear hS
    go_simp
    first | done | with_reducible rfl
  rotate_left
  · simp only [Act.put, List.setIfInBounds_toArray, List.set_cons_zero, List.set_cons_succ]
    rfl
  refine pure_ (i := 8) (N := some 61) (v := ?_) (a' := ?_) #[true, true, true, true, true, true, true, false, true, false, false, false, false, false, false, false, false, false, false, false, false, false, false, false] rfl rfl (by kernel_rfl) (fun _ _ _ h => hQ _ _ _ _ h) (Or.inl ⟨by rfl, ?_⟩) ?_ ?_
  rotate_left
  · intro w'
    go_simp
    first | done | with_reducible rfl
  rotate_left
  · simp only [Act.put, List.setIfInBounds_toArray, List.set_cons_zero, List.set_cons_succ]
    rfl
  refine pure_ (i := 9) (N := some 62) (v := ?_) (a' := ?_) #[true, true, true, true, true, true, true, false, true, true, false, false, false, false, false, false, false, false, false, false, false, false, false, false] rfl rfl (by kernel_rfl) (fun _ _ _ h => hQ _ _ _ _ h) (Or.inl ⟨by rfl, ?_⟩) ?_ ?_
  rotate_left
  · intro w'
    go_simp
    first | done | with_reducible rfl
  rotate_left
  · simp only [Act.put, List.setIfInBounds_toArray, List.set_cons_zero, List.set_cons_succ]
    rfl
  refine take_ (i := 10) (N := some 63) (v := ?_) (a' := ?_) #[true, true, true, true, true, true, true, false, true, true, true, false, false, false, false, false, false, false, false, false, false, false, false, false] rfl rfl (by kernel_rfl) (fun _ _ _ h => hQ _ _ _ _ h) (Or.inl ⟨by rfl, ?_⟩) hHeld ?_ ?_
  rotate_left
  · intro w' hS
    have y0 := blk_cell hS.b 0
    have y1 := blk_cell hS.b 1
    have y2 := blk_cell hS.b 2
    simp only [List.getElem?_toArray, List.getElem?_cons_zero, List.getElem?_cons_succ] at y0 y1 y2
    clear hS
    go_simp
    first | done | with_reducible rfl
  rotate_left
  · simp only [Act.put, List.setIfInBounds_toArray, List.set_cons_zero, List.set_cons_succ]
    rfl
  refine pure_ (i := 11) (N := some 64) (v := ?_) (a' := ?_) #[true, true, true, true, true, true, true, false, true, true, true, true, false, false, false, false, false, false, false, false, false, false, false, false] rfl rfl (by kernel_rfl) (fun _ _ _ h => hQ _ _ _ _ h) (Or.inl ⟨by rfl, ?_⟩) ?_ ?_
  rotate_left
  · intro w'
    go_simp
    first | done | with_reducible rfl
  rotate_left
  · simp only [Act.put, List.setIfInBounds_toArray, List.set_cons_zero, List.set_cons_succ]
    rfl
  refine take_ (i := 12) (N := some 65) (v := ?_) (a' := ?_) #[true, true, true, true, true, true, true, false, true, true, true, true, true, false, false, false, false, false, false, false, false, false, false, false] rfl rfl (by kernel_rfl) (fun _ _ _ h => hQ _ _ _ _ h) (Or.inl ⟨by rfl, ?_⟩) hHeld ?_ ?_
  rotate_left
  · intro w' hS
    have y0 := blk_cell hS.b 0
    have y1 := blk_cell hS.b 1
    have y2 := blk_cell hS.b 2
    simp only [List.getElem?_toArray, List.getElem?_cons_zero, List.getElem?_cons_succ] at y0 y1 y2
    clear hS
    go_simp
    first | done | with_reducible rfl
  rotate_left
  · simp only [Act.put, List.setIfInBounds_toArray, List.set_cons_zero, List.set_cons_succ]
    rfl
  refine pure_ (i := 13) (N := some 66) (v := ?_) (a' := ?_) #[true, true, true, true, true, true, true, false, true, true, true, true, true, true, false, false, false, false, false, false, false, false, false, false] rfl rfl (by kernel_rfl) (fun _ _ _ h => hQ _ _ _ _ h) (Or.inl ⟨by rfl, ?_⟩) ?_ ?_
  rotate_left
  · intro w'
    go_simp
    first | done | with_reducible rfl
  rotate_left
  · simp only [Act.put, List.setIfInBounds_toArray, List.set_cons_zero, List.set_cons_succ]
    rfl
  refine take_ (i := 14) (N := some 67) (v := ?_) (a' := ?_) #[true, true, true, true, true, true, true, false, true, true, true, true, true, true, true, false, false, false, false, false, false, false, false, false] rfl rfl (by kernel_rfl) (fun _ _ _ h => hQ _ _ _ _ h) (Or.inl ⟨by rfl, ?_⟩) hHeld ?_ ?_
  rotate_left
  · intro w' hS
    have y0 := blk_cell hS.b 0
    have y1 := blk_cell hS.b 1
    have y2 := blk_cell hS.b 2
    simp only [List.getElem?_toArray, List.getElem?_cons_zero, List.getElem?_cons_succ] at y0 y1 y2
    clear hS
    go_simp
    first | done | with_reducible rfl
  rotate_left
  · simp only [Act.put, List.setIfInBounds_toArray, List.set_cons_zero, List.set_cons_succ]
    rfl
  refine one_ (i := 7) (N := some 60) #[true, true, true, true, true, true, true, true, true, true, true, true, true, true, true, false, false, false, false, false, false, false, false, false] rfl rfl (by kernel_rfl) (by decide) (fun K hK => ?_)
  refine goes_ Try.func25 (by kernel_rfl) rfl #[.pointer (some ⟨b, 0, none⟩), .int .i64 t, .int .i64 x, .int .i64 y] (by rfl) rfl rfl (by (try simp only [List.map_toArray, List.map_cons, List.map_nil]); first | done | rfl) ?_
  refine (color_any HD6 (by omega) t x y).mono ?_
  rintro e w7 ⟨rfl, HD7⟩
  refine ⟨_, rfl, ?_⟩
  have hN := hHeld.blo HD7.out.blo hne h0
  have HD8 := Aside0.mk HD7.out.self
  clear hHeld HD7 HD6
  refine hK.out _ _ hN (fun hHeld => ?_)
  clear hK K hN
  refine norm_ (a' := ?_) ?_ ?_
  rotate_left
  · show Act.put _ (some 60) _ = _
    simp only [Act.put, List.setIfInBounds_toArray, List.set_cons_zero, List.set_cons_succ]
    rfl
  refine one_ (i := 15) (N := some 68) #[true, true, true, true, true, true, true, true, true, true, true, true, true, true, true, true, false, false, false, false, false, false, false, false] rfl rfl (by kernel_rfl) (by decide) (fun K hK => ?_)
  refine goes_ Try.func26 (by kernel_rfl) rfl #[.slice V l.length cv, .int .i64 t, .int .i64 x, .int .i64 y] (by rfl) rfl rfl (by (try simp only [List.map_toArray, List.map_cons, List.map_nil]); first | done | rfl) ?_
  refine (whirligigref17_Color.calls 22 V cv l t x y _ _ (Kd.C_below HV.out hHeld.hB) hcv (ref_any HL.out t x y)).mono ?_
  rintro e w8 ⟨rfl, ⟨nd, rfl⟩⟩
  refine ⟨_, rfl, ?_⟩
  have hb : Below w7.heap.size w7 (w7.drewN nd) := pw_below_drewN (Below.refl _ _) nd
  have hN := hHeld.below hb
  have HD9 := Aside0.mk (HD8.out.below hb)
  clear hHeld HD8 hb
  generalize World.drewN w7 nd = w8 at HD9 hN ⊢
  refine hK.out _ _ hN (fun hHeld => ?_)
  clear hK K hN
  refine norm_ (a' := ?_) ?_ ?_
  rotate_left
  · show Act.put _ (some 68) _ = _
    simp only [Act.put, List.setIfInBounds_toArray, List.set_cons_zero, List.set_cons_succ]
    rfl
  refine pure_ (i := 16) (N := some 69) (v := (.bool false)) (a' := ?_) #[true, true, true, true, true, true, true, true, true, true, true, true, true, true, true, true, true, false, false, false, false, false, false, false] rfl rfl (by kernel_rfl) (fun _ _ _ h => hQ _ _ _ _ h) (Or.inl ⟨by rfl, ?_⟩) ?_ ?_
  · intro w'
    go_simp
    first | done | with_reducible rfl
  rotate_left
  · simp only [Act.put, List.setIfInBounds_toArray, List.set_cons_zero, List.set_cons_succ]
    rfl
  refine pure_ (i := 17) (N := some 70) (v := (.bool false)) (a' := ?_) #[true, true, true, true, true, true, true, true, true, true, true, true, true, true, true, true, true, true, false, false, false, false, false, false] rfl rfl (by kernel_rfl) (fun _ _ _ h => hQ _ _ _ _ h) (Or.inl ⟨by rfl, ?_⟩) ?_ ?_
  · intro w'
    go_simp
    first | done | with_reducible rfl
  rotate_left
  · simp only [Act.put, List.setIfInBounds_toArray, List.set_cons_zero, List.set_cons_succ]
    rfl
  refine pure_ (i := 18) (N := some 71) (v := ?_) (a' := ?_) #[true, true, true, true, true, true, true, true, true, true, true, true, true, true, true, true, true, true, true, false, false, false, false, false] rfl rfl (by kernel_rfl) (fun _ _ _ h => hQ _ _ _ _ h) (Or.inl ⟨by rfl, ?_⟩) ?_ ?_
  rotate_left
  · intro w'
    go_simp
    first | done | with_reducible rfl
  rotate_left
  · simp only [Act.put, List.setIfInBounds_toArray, List.set_cons_zero, List.set_cons_succ]
    rfl
  refine pure_ (i := 20) (N := some 73) (v := ?_) (a' := ?_) #[true, true, true, true, true, true, true, true, true, true, true, true, true, true, true, true, true, true, true, false, true, false, false, false] rfl rfl (by kernel_rfl) (fun _ _ _ h => hQ _ _ _ _ h) (Or.inl ⟨by rfl, ?_⟩) ?_ ?_
  rotate_left
  · intro w'
    go_simp
    first | done | with_reducible rfl
  rotate_left
  · simp only [Act.put, List.setIfInBounds_toArray, List.set_cons_zero, List.set_cons_succ]
    rfl
  refine pure_ (i := 21) (N := some 74) (v := ?_) (a' := ?_) #[true, true, true, true, true, true, true, true, true, true, true, true, true, true, true, true, true, true, true, false, true, true, false, false] rfl rfl (by kernel_rfl) (fun _ _ _ h => hQ _ _ _ _ h) (Or.inl ⟨by rfl, ?_⟩) ?_ ?_
  rotate_left
  · intro w'
    go_simp
    first | done | with_reducible rfl
  rotate_left
  · simp only [Act.put, List.setIfInBounds_toArray, List.set_cons_zero, List.set_cons_succ]
    rfl
  refine one_ (i := 19) (N := some 72) #[true, true, true, true, true, true, true, true, true, true, true, true, true, true, true, true, true, true, true, true, true, true, false, false] rfl rfl (by kernel_rfl) (by decide) (fun K hK => ?_)
  refine goes_ Try.func24 (by kernel_rfl) rfl #[.pointer (some ⟨b, 0, none⟩)] (by rfl) rfl rfl (by (try simp only [List.map_toArray, List.map_cons, List.map_nil]); first | done | rfl) ?_
  refine (asked_calls b _ _ HD9.out.c3.1).mono ?_
  rintro e w' ⟨rfl, rfl⟩
  refine ⟨_, rfl, ?_⟩
  have hN := hHeld
  clear hHeld
  refine hK.out _ _ hN (fun hHeld => ?_)
  clear hK K hN
  refine norm_ (a' := ?_) ?_ ?_
  rotate_left
  · show Act.put _ (some 72) _ = _
    simp only [Act.put, List.setIfInBounds_toArray, List.set_cons_zero, List.set_cons_succ]
    rfl
  refine pure_ (i := 22) (N := some 75) (v := (.bool false)) (a' := ?_) #[true, true, true, true, true, true, true, true, true, true, true, true, true, true, true, true, true, true, true, true, true, true, true, false] rfl rfl (by kernel_rfl) (fun _ _ _ h => hQ _ _ _ _ h) (Or.inl ⟨by rfl, ?_⟩) ?_ ?_
  · intro w'
    go_simp
    first | done | with_reducible rfl
  rotate_left
  · simp only [Act.put, List.setIfInBounds_toArray, List.set_cons_zero, List.set_cons_succ]
    rfl
  refine pure_ (i := 23) (N := some 76) (v := (.bool false)) (a' := ?_) #[true, true, true, true, true, true, true, true, true, true, true, true, true, true, true, true, true, true, true, true, true, true, true, true] rfl rfl (by kernel_rfl) (fun _ _ _ h => hQ _ _ _ _ h) (Or.inl ⟨by rfl, ?_⟩) ?_ ?_
  · intro w'
    go_simp
    first | done | with_reducible rfl
  rotate_left
  · simp only [Act.put, List.setIfInBounds_toArray, List.set_cons_zero, List.set_cons_succ]
    rfl
  refine done_ (by kernel_rfl) ?_
  have HH := Aside0.mk hHeld
  clear hHeld HK
  go_wp2
  try rw [show IntKind.i64.wrap ((i : Int) + 1) = ((i + 1 : Nat) : Int) from g7]
  refine NX.out _ _ (by rfl) HH.out.hB HD9.out
end Go.Proofs.Ytmigbinllnejoaa.P
