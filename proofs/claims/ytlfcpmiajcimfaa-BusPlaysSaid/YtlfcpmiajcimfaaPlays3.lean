/- BusPlays: the round that gets. No condition but the hypotheses that stand in it. -/
import Derived.Test.YtlfcpmiajcimfaaPlays2
import Derived.Shelf.RegionOpen
namespace Go.Proofs.Ytlfcpmiajcimfaa.P
open Go.RowKit Go.Proofs.YtlfcpmiajcimfaaW.PrintWords Go.Proofs.YtlfcpmiajcimfaaW.PrintLast Go.Proofs.YtlfcpmiajcimfaaW.PrintMore Go.Proofs.Ytlfcpmiajcimfaa.Plain
set_option linter.unusedVariables false
set_option linter.unusedSimpArgs false
set_option maxHeartbeats 8000000
set_option maxRecDepth 100000
theorem round_get (Q : Exit → Act → World → Prop) (mm : Nat) (w₀ W : World) (al : Addr) (n c i bm bv bw br : Nat) (v0 v1 v2 v3 : Value) (m r : M4) (K V : Int) (A : Nat) (hA : A < 65536) (a : Act)
    (hi : i < n) (h80 : i < 80) (hact : ActAt w₀ al i K (A : Int) V) (hk : K = 1) (hmr : m = r) (hQ : ∀ ch a b w, Q (.panic ch) a w → Q (.panic ch) b w) (hfr : Fr (.slice (some al) n c) bm br (i : Int) a) (h : St w₀ bm bv bw br v0 v1 v2 v3 v0 v1 v2 v3 m r W)
    (next : ∀ (a' : Act) (W' : World) (x0 x1 x2 x3 : Value), Fr (.slice (some al) n c) bm br ((i + 1 : Nat) : Int) a' → St w₀ bm bv bw br x0 x1 x2 x3 x0 x1 x2 x3 m r W' → Code.rounds Try.prog playsBody Q mm a' W') :
    Code.rounds Try.prog playsBody Q (mm + 1) a W := by
  obtain ⟨u, hu⟩ : ∃ u : Nat → Value, a = fr (.slice (some al) n c) bm br (i : Int) u := ⟨_, hfr⟩
  clear hfr
  subst hu
  rw [rounds_succ]
  obtain ⟨Z, hZ⟩ : ∃ Z, Code.rounds Try.prog playsBody Q mm = Z := ⟨_, rfl⟩
  rw [hZ] at next ⊢
  clear hZ
  have NX := Aside0.mk next
  clear next
  have HS := Aside0.mk h
  have hix := fun W => run_ix35 (W := W) (al := al) (c := c) hi
  have hld := hact.load h.P.hB
  clear h hact
  have g1 : decide ((i : Int) < (n : Int)) = true := decide_eq_true (by omega)
  have g2 : decide ((i : Int) < 80) = true := decide_eq_true (by omega)
  simp only [fr, playsBody, codeSnd, codeFst, codeIn, Try.f8, Option.getD_some]
  subst hk
  subst hmr
  have HA := Aside0.mk (HS.out.sa_new (.cells #[.int .i64 1, .int .u16 (A : Int), .int .u8 V] 41))
  go_wp2_with (first
    | ((with_reducible refine gate_dst (N := 29) rfl ?_); refine Kd.event_run rfl (exec_ix rfl (hix _)) ?_)
    | ((with_reducible refine gate_dst (N := 30) rfl ?_); refine Kd.event_run rfl (exec_load rfl hld) ?_))
  obtain ⟨W1, hW1⟩ : ∃ W1, W.alloc (.cells #[.int .i64 1, .int .u16 (A : Int), .int .u8 V] 41) = W1 := ⟨_, rfl⟩
  obtain ⟨ba, hba⟩ : ∃ ba, W.heap.size = ba := ⟨_, rfl⟩
  rw [hW1, hba] at HA
  rw [hW1, hba]
  clear hW1 hba hld HS hix
  refine start_ (n := 9) (S := fun w' => Sa w₀ bm bv bw br ba (.cells #[.int .i64 1, .int .u16 (A : Int), .int .u8 V] 41) v0 v1 v2 v3 v0 v1 v2 v3 m m w') (ds := []) #[false, false, false, false, false, false, false, false, false] (by kernel_rfl) rfl rfl (HA.out.below (below_drew1 (Below.refl _ _))) (fun hHeld => ?_)
  clear HA
  generalize W1.drew = W6 at hHeld ⊢
  refine pure_ (i := 0) (N := some 35) (v := ?_) (a' := ?_) #[true, false, false, false, false, false, false, false, false] rfl rfl (by kernel_rfl) (fun _ _ _ h => hQ _ _ _ _ h) (Or.inl ⟨by rfl, ?_⟩) ?_ ?_
  rotate_left
  · intro w'
    go_simp
    first | done | with_reducible rfl
  rotate_left
  · simp only [Act.put, List.setIfInBounds_toArray, List.set_cons_zero, List.set_cons_succ]
    rfl
  refine pure_ (i := 1) (N := some 36) (v := ?_) (a' := ?_) #[true, true, false, false, false, false, false, false, false] rfl rfl (by kernel_rfl) (fun _ _ _ h => hQ _ _ _ _ h) (Or.inl ⟨by rfl, ?_⟩) ?_ ?_
  rotate_left
  · intro w'
    go_simp
    first | done | with_reducible rfl
  rotate_left
  · simp only [Act.put, List.setIfInBounds_toArray, List.set_cons_zero, List.set_cons_succ]
    rfl
  refine take_ (i := 2) (N := some 37) (v := ?_) (a' := ?_) #[true, true, true, false, false, false, false, false, false] rfl rfl (by kernel_rfl) (fun _ _ _ h => hQ _ _ _ _ h) (Or.inl ⟨by rfl, ?_⟩) hHeld ?_ ?_
  rotate_left
  · intro w' hS
    have y0 := blk_cell hS.b 0
    have y1 := blk_cell hS.b 1
    have y2 := blk_cell hS.b 2
    simp only [List.getElem?_toArray, List.getElem?_cons_zero, List.getElem?_cons_succ] at y0 y1 y2
    have x0 := hS.s.b0
    have x1 := hS.s.b1
    have x2 := hS.s.b2
    have x3 := hS.s.b3
    clear hS
    go_simp
    first | done | with_reducible rfl
  rotate_left
  · simp only [Act.put, List.setIfInBounds_toArray, List.set_cons_zero, List.set_cons_succ]
    rfl
  refine take_ (i := 4) (N := some 39) (v := ?_) (a' := ?_) #[true, true, true, false, true, false, false, false, false] rfl rfl (by kernel_rfl) (fun _ _ _ h => hQ _ _ _ _ h) (Or.inl ⟨by rfl, ?_⟩) hHeld ?_ ?_
  rotate_left
  · intro w' hS
    have y0 := blk_cell hS.b 0
    have y1 := blk_cell hS.b 1
    have y2 := blk_cell hS.b 2
    simp only [List.getElem?_toArray, List.getElem?_cons_zero, List.getElem?_cons_succ] at y0 y1 y2
    have x0 := hS.s.b0
    have x1 := hS.s.b1
    have x2 := hS.s.b2
    have x3 := hS.s.b3
    clear hS
    go_simp
    first | done | with_reducible rfl
  rotate_left
  · simp only [Act.put, List.setIfInBounds_toArray, List.set_cons_zero, List.set_cons_succ]
    rfl
  refine pure_ (i := 5) (N := some 40) (v := ?_) (a' := ?_) #[true, true, true, false, true, true, false, false, false] rfl rfl (by kernel_rfl) (fun _ _ _ h => hQ _ _ _ _ h) (Or.inl ⟨by rfl, ?_⟩) ?_ ?_
  rotate_left
  · intro w'
    go_simp
    first | done | with_reducible rfl
  rotate_left
  · simp only [Act.put, List.setIfInBounds_toArray, List.set_cons_zero, List.set_cons_succ]
    rfl
  refine take_ (i := 6) (N := some 41) (v := ?_) (a' := ?_) #[true, true, true, false, true, true, true, false, false] rfl rfl (by kernel_rfl) (fun _ _ _ h => hQ _ _ _ _ h) (Or.inl ⟨by rfl, ?_⟩) hHeld ?_ ?_
  rotate_left
  · intro w' hS
    have y0 := blk_cell hS.b 0
    have y1 := blk_cell hS.b 1
    have y2 := blk_cell hS.b 2
    simp only [List.getElem?_toArray, List.getElem?_cons_zero, List.getElem?_cons_succ] at y0 y1 y2
    have x0 := hS.s.b0
    have x1 := hS.s.b1
    have x2 := hS.s.b2
    have x3 := hS.s.b3
    clear hS
    go_simp
    first | done | with_reducible rfl
  rotate_left
  · simp only [Act.put, List.setIfInBounds_toArray, List.set_cons_zero, List.set_cons_succ]
    rfl
  refine one_ (i := 3) (N := some 38) #[true, true, true, true, true, true, true, false, false] rfl rfl (by kernel_rfl) (by decide) (fun K hK => ?_)
  refine goes_ Try.func19 (by kernel_rfl) rfl #[.pointer (some ⟨bm, 0, none⟩), .int .u16 (A : Int)] (by rfl) rfl rfl (by (try simp only [List.map_toArray, List.map_cons, List.map_nil]); first | done | rfl) ?_
  refine (get_sa hHeld A hA).mono ?_
  rintro e w' ⟨rfl, hb⟩
  refine ⟨_, rfl, ?_⟩
  have hN := hHeld.below hb
  clear hHeld hb
  refine hK.out _ _ hN (fun hHeld => ?_)
  clear hK K hN
  refine norm_ (a' := ?_) ?_ ?_
  rotate_left
  · show Act.put _ (some 38) _ = _
    simp only [Act.put, List.setIfInBounds_toArray, List.set_cons_zero, List.set_cons_succ]
    rfl
  refine one_ (i := 7) (N := some 42) #[true, true, true, true, true, true, true, true, false] rfl rfl (by kernel_rfl) (by decide) (fun K hK => ?_)
  refine goes_ Try.func23 (by kernel_rfl) rfl #[.agg #[v0, v1, v2, v3], .int .u16 (A : Int)] (by rfl) rfl rfl (by (try simp only [List.map_toArray, List.map_cons, List.map_nil]); first | done | rfl) ?_
  refine (rget_sa hHeld A hA).mono ?_
  rintro e w' ⟨rfl, hb⟩
  refine ⟨_, rfl, ?_⟩
  have hN := hHeld.below hb
  clear hHeld hb
  refine hK.out _ _ hN (fun hHeld => ?_)
  clear hK K hN
  refine norm_ (a' := ?_) ?_ ?_
  rotate_left
  · show Act.put _ (some 42) _ = _
    simp only [Act.put, List.setIfInBounds_toArray, List.set_cons_zero, List.set_cons_succ]
    rfl
  refine pure_ (i := 8) (N := some 43) (v := (.bool false)) (a' := ?_) #[true, true, true, true, true, true, true, true, true] rfl rfl (by kernel_rfl) (fun _ _ _ h => hQ _ _ _ _ h) (Or.inl ⟨by rfl, ?_⟩) ?_ ?_
  · intro w'
    go_simp
    first | done | with_reducible rfl
  rotate_left
  · simp only [Act.put, List.setIfInBounds_toArray, List.set_cons_zero, List.set_cons_succ]
    rfl
  refine done_ (by kernel_rfl) ?_
  have HA := Aside0.mk hHeld
  clear hHeld
  go_wp2
  exact NX.out _ _ _ _ _ _ (by rfl) HA.out.s
end Go.Proofs.Ytlfcpmiajcimfaa.P
