/- BusPlays: the loop and the whole function. No condition but the hypotheses that stand in each. -/
import Derived.Test.YtlfcpmiajcimfaaPlays3
import Derived.Test.YtlfcpmiajcimfaaPlays5
namespace Go.Proofs.Ytlfcpmiajcimfaa.P
open Go.RowKit Go.Proofs.YtlfcpmiajcimfaaW.PrintWords Go.Proofs.YtlfcpmiajcimfaaW.PrintLast Go.Proofs.YtlfcpmiajcimfaaW.PrintMore Go.Proofs.Ytlfcpmiajcimfaa.Plain
set_option linter.unusedVariables false
set_option linter.unusedSimpArgs false
set_option maxHeartbeats 8000000
set_option maxRecDepth 100000
theorem conv36e {W : World} {g n c : Nat} {f : Nat → Int} {S : ByteArray} (hS : sOf f n = S) (h : W.heap[g]? = some (.cells (cellsOf f n).toArray 5)) :
    (convert 36 9 (.slice (some ⟨g, 0, none⟩) n c)).run Try.prog W = .ok (.string S) W := hS ▸ conv36 (cells_at h)
theorem convB {W : World} {n₀ : Nat} {v : Value} {f : Nat → Int} {n : Nat} {S : ByteArray} (hS : sOf f n = S) (hn : 0 < n) (h : RB W n₀ v (lof f n)) : (convert 36 9 v).run Try.prog W = .ok (.string S) W := by
  subst hS
  obtain ⟨g, c, e, hh⟩ := conv_R hn h
  subst e
  exact hh W rfl
theorem end_n (Q : Exit → Act → World → Prop) (mm : Nat) (W : World) (B : Option Addr) (n c i bm br : Nat) (a : Act) (hi : n ≤ i) (hfr : Fr (.slice B n c) bm br (i : Int) a)
    (next : ∀ (a' : Act), Fr (.slice B n c) bm br (i : Int) a' → Q (.exit 0) a' W) : Code.rounds Try.prog playsBody Q (mm + 1) a W := by
  obtain ⟨u, hu⟩ : ∃ u : Nat → Value, a = fr (.slice B n c) bm br (i : Int) u := ⟨_, hfr⟩
  clear hfr
  subst hu
  rw [rounds_succ]
  obtain ⟨Z, hZ⟩ : ∃ Z, Code.rounds Try.prog playsBody Q mm = Z := ⟨_, rfl⟩
  rw [hZ]
  clear hZ
  have NX := Aside0.mk next
  clear next
  have g1 : decide ((i : Int) < (n : Int)) = false := decide_eq_false (by omega)
  simp only [fr, playsBody, codeSnd, codeFst, codeIn, Try.f8, Option.getD_some]
  go_wp2
  exact NX.out _ (by rfl)
theorem end_80 (Q : Exit → Act → World → Prop) (mm : Nat) (W : World) (B : Option Addr) (n c i bm br : Nat) (a : Act) (hi : i < n) (h80 : 80 ≤ i) (hfr : Fr (.slice B n c) bm br (i : Int) a)
    (next : ∀ (a' : Act), Fr (.slice B n c) bm br (i : Int) a' → Q (.exit 0) a' W) : Code.rounds Try.prog playsBody Q (mm + 1) a W := by
  obtain ⟨u, hu⟩ : ∃ u : Nat → Value, a = fr (.slice B n c) bm br (i : Int) u := ⟨_, hfr⟩
  clear hfr
  subst hu
  rw [rounds_succ]
  obtain ⟨Z, hZ⟩ : ∃ Z, Code.rounds Try.prog playsBody Q mm = Z := ⟨_, rfl⟩
  rw [hZ]
  clear hZ
  have NX := Aside0.mk next
  clear next
  have g1 : decide ((i : Int) < (n : Int)) = true := decide_eq_true (by omega)
  have g2 : decide ((i : Int) < 80) = false := decide_eq_false (by omega)
  simp only [fr, playsBody, codeSnd, codeFst, codeIn, Try.f8, Option.getD_some]
  go_wp2
  exact NX.out _ (by rfl)
def ActsAt (w₀ : World) (B : Option Addr) (n : Nat) : Prop := ∀ i, i < n → ∃ (al : Addr) (K V : Int) (A : Nat), B = some al ∧ A < 65536 ∧ ActAt w₀ al i K (A : Int) V
theorem rounds_all (Q : Exit → Act → World → Prop) (hQ : ∀ ch a b w, Q (.panic ch) a w → Q (.panic ch) b w) (w₀ : World) (B : Option Addr) (n c bm bv bw br : Nat) (hacts : ActsAt w₀ B n)
    (next : ∀ (i : Nat) (a' : Act) (W' : World) (x0 x1 x2 x3 : Value) (m : M4), Fr (.slice B n c) bm br (i : Int) a' → St w₀ bm bv bw br x0 x1 x2 x3 x0 x1 x2 x3 m m W' → Q (.exit 0) a' W') :
    ∀ (d i : Nat) (a : Act) (W : World) (v0 v1 v2 v3 : Value) (m : M4), i + d = n → Fr (.slice B n c) bm br (i : Int) a → St w₀ bm bv bw br v0 v1 v2 v3 v0 v1 v2 v3 m m W → Code.rounds Try.prog playsBody Q (d + 1) a W := by
  intro d
  induction d with
  | zero =>
    intro i a W v0 v1 v2 v3 m hd hfr h
    exact end_n Q 0 W B n c i bm br a (by omega) hfr (fun a' hf => next i a' W v0 v1 v2 v3 m hf h)
  | succ d ih =>
    intro i a W v0 v1 v2 v3 m hd hfr h
    by_cases h80 : 80 ≤ i
    · exact end_80 Q (d + 1) W B n c i bm br a (by omega) h80 hfr (fun a' hf => next i a' W v0 v1 v2 v3 m hf h)
    · obtain ⟨al, K, V, A, rfl, hA, hact⟩ := hacts i (by omega)
      by_cases k1 : K = 1
      · exact round_get Q (d + 1) w₀ W al n c i bm bv bw br v0 v1 v2 v3 m m K V A hA a (by omega) (by omega) hact k1 rfl hQ hfr h (fun a' W' x0 x1 x2 x3 hf hs => ih (i + 1) a' W' x0 x1 x2 x3 m (by omega) hf hs)
      by_cases k2 : K = 2
      · exact round_put Q (d + 1) w₀ W al n c i bm bv bw br v0 v1 v2 v3 m m K V A hA a (by omega) (by omega) hact k2 hfr h (fun a' W' x0 x1 x2 x3 hf hs => ih (i + 1) a' W' x0 x1 x2 x3 _ (by omega) hf hs)
      by_cases k3 : K = 3
      · exact round_object Q (d + 1) w₀ W al n c i bm bv bw br v0 v1 v2 v3 m m K V A hA a (by omega) (by omega) hact k3 hfr h (fun a' W' x0 x1 x2 x3 hf hs => ih (i + 1) a' W' x0 x1 x2 x3 _ (by omega) hf hs)
      by_cases k4 : K = 4
      · exact round_same Q (d + 1) w₀ W al n c i bm bv bw br v0 v1 v2 v3 m m K V A hA a (by omega) (by omega) hact k4 rfl hfr h (fun a' W' x0 x1 x2 x3 hf hs => ih (i + 1) a' W' x0 x1 x2 x3 m (by omega) hf hs)
      exact round_other Q (d + 1) w₀ W al n c i bm bv bw br v0 v1 v2 v3 m m K V A hA a (by omega) (by omega) hact k1 k2 k3 k4 hfr h (fun a' W' x0 x1 x2 x3 hf hs => ih (i + 1) a' W' x0 x1 x2 x3 m (by omega) hf hs)
def QE (P : Act → World → Prop) : Exit → Act → World → Prop
  | .exit id, a, w => id = 0 ∧ P a w
  | _, _, _ => False
theorem RefAt.lower {n₀ n₁ : Nat} {v0 v1 v2 v3 : Value} {r : M4} {W : World} (h : RefAt n₀ v0 v1 v2 v3 r W) (hn : n₁ ≤ n₀) : RefAt n₁ v0 v1 v2 v3 r W :=
  ⟨Kd.R_lower h.r0 hn, Kd.R_lower h.r1 hn, Kd.R_lower h.r2 hn, Kd.R_lower h.r3 hn, h.e01, h.e02, h.e03, h.e12, h.e13, h.e23⟩
theorem st_start {w₀ w2 w3 : World} {bm bv bw : Nat} {v0 v1 v2 v3 : Value} (P : Pk bm bv bw M4.zero w₀ w2) (A : RefAt w2.heap.size v0 v1 v2 v3 M4.zero w3) (hO : ∀ k, Own v0 v1 v2 v3 k → w2.heap.size ≤ k) (hb : Below w2.heap.size w2 w3) :
    St w₀ bm bv bw w3.heap.size v0 v1 v2 v3 v0 v1 v2 v3 M4.zero M4.zero (w3.alloc (.cells #[v0, v1, v2, v3] 38)) := by
  have ha : Below w3.heap.size w3 (w3.alloc (.cells #[v0, v1, v2, v3] 38)) := below_alloc (Below.refl _ _) _
  have s1 := hb.size
  have s0 := P.hB.size
  have l1 := P.M.lm
  have l2 := P.M.lv
  have l3 := P.M.lw
  have bk := blk_new w3 (.cells #[v0, v1, v2, v3] 38)
  refine ⟨(P.below hb).below ha, (A.lower s0).below ha, (blk_cell bk 0).trans rfl, (blk_cell bk 1).trans rfl, (blk_cell bk 2).trans rfl, (blk_cell bk 3).trans rfl, blk_frozen bk, blk_lt bk, by omega, by omega, fun k hk => ?_⟩
  have := hO k hk
  have := A.lt hk
  unfold Far
  omega
theorem plays_walk (w₀ : World) (B : Option Addr) (n c : Nat) (hacts : ActsAt w₀ B n) :
    Calls Try.prog 8 #[.slice B n c] w₀ fun e w' => e = .returned (.bool true) ∧ Below w₀.heap.size w₀ w' := by
  have HX := Aside0.mk hacts
  clear hacts
  go_enter Try.func8, Try.ntmps8
  go_wp2_with fail
  refine (whirligiglaw20_shown.calls true _ rfl).mono ?_
  rintro e w1 ⟨rfl, b1⟩
  go_wp2_with fail
  refine (new_pk b1).mono ?_
  clear b1
  rintro e w2 ⟨bm, bv, bw, rfl, P2⟩
  go_wp2_with fail
  refine (rnew_calls w2).mono ?_
  rintro e w3 ⟨v0, v1, v2, v3, rfl, A3, o3, b3⟩
  obtain ⟨A0, c0, A1, c1, A2, c2, A3', c3, e0, e1, e2, e3⟩ := RefAt.open (w₀ := w2) A3
  have HS := Aside0.mk (st_start P2.out A3 o3 b3)
  clear P2 A3 o3 b3
  subst e0 e1 e2 e3
  go_wp2_with fail
  refine wp_mono (Q := QE (fun a W => ∃ (i : Nat) (x0 x1 x2 x3 : Value) (m : M4), Fr (.slice B n c) bm w3.heap.size (i : Int) a ∧ St w₀ bm bv bw w3.heap.size x0 x1 x2 x3 x0 x1 x2 x3 m m W)) ?_ ?_
  · refine wp_loop_rounds (n + 1) ?_
    exact rounds_all _ (fun _ _ _ _ h => h.elim) w₀ B n c bm bv bw w3.heap.size HX.out (fun i a' W' x0 x1 x2 x3 m hf hs => ⟨rfl, i, x0, x1, x2, x3, m, hf, hs⟩) n 0 _ _ _ _ _ _ M4.zero (by omega) (by rfl) HS.out
  clear HX HS
  generalize w3.heap.size = br
  intro e a' W' hq
  obtain ⟨rfl, i, v0, v1, v2, v3, m, hfr, h⟩ : e = .exit 0 ∧ ∃ (i : Nat) (x0 x1 x2 x3 : Value) (m : M4), Fr (.slice B n c) bm br (i : Int) a' ∧ St w₀ bm bv bw br x0 x1 x2 x3 x0 x1 x2 x3 m m W' := by
    cases e with
    | exit id => exact ⟨by rw [hq.1], hq.2⟩
    | _ => exact hq.elim
  clear hq
  obtain ⟨u, hu⟩ : ∃ u : Nat → Value, a' = fr (.slice B n c) bm br (i : Int) u := ⟨_, hfr⟩
  clear hfr
  subst hu
  have HA := Aside0.mk h
  clear h
  obtain ⟨SV, hSV⟩ : ∃ SV, sOf m.v 8192 = SV := ⟨_, rfl⟩
  obtain ⟨SO, hSO⟩ : ∃ SO, sOf m.o 160 = SO := ⟨_, rfl⟩
  simp only [fr]
  go_wp2_with fail
  refine start_ (n := 17) (S := fun w' => St w₀ bm bv bw br v0 v1 v2 v3 v0 v1 v2 v3 m m w') (ds := []) #[false, false, false, false, false, false, false, false, false, false, false, false, false, false, false, false, false] (by kernel_rfl) rfl rfl (HA.out.below (below_drew1 (Below.refl _ _))) (fun hHeld => ?_)
  clear HA
  generalize W'.drew = W6 at hHeld ⊢
  refine pure_ (i := 0) (N := some 122) (v := ?_) (a' := ?_) #[true, false, false, false, false, false, false, false, false, false, false, false, false, false, false, false, false] rfl rfl (by kernel_rfl) (fun _ _ _ h => h) (Or.inl ⟨by rfl, ?_⟩) ?_ ?_
  rotate_left
  · intro w'
    go_simp
    first | done | with_reducible rfl
  rotate_left
  · simp only [Act.put, List.setIfInBounds_toArray, List.set_cons_zero, List.set_cons_succ]
    rfl
  refine pure_ (i := 3) (N := some 125) (v := ?_) (a' := ?_) #[true, false, false, true, false, false, false, false, false, false, false, false, false, false, false, false, false] rfl rfl (by kernel_rfl) (fun _ _ _ h => h) (Or.inl ⟨by rfl, ?_⟩) ?_ ?_
  rotate_left
  · intro w'
    go_simp
    first | done | with_reducible rfl
  rotate_left
  · simp only [Act.put, List.setIfInBounds_toArray, List.set_cons_zero, List.set_cons_succ]
    rfl
  refine take_ (i := 4) (N := some 126) (v := ?_) (a' := ?_) #[true, false, false, true, true, false, false, false, false, false, false, false, false, false, false, false, false] rfl rfl (by kernel_rfl) (fun _ _ _ h => h) (Or.inl ⟨by rfl, ?_⟩) hHeld ?_ ?_
  rotate_left
  · intro w' hS
    have x0 := hS.b0
    have x2 := hS.b2
    clear hS
    go_simp
    first | done | with_reducible rfl
  rotate_left
  · simp only [Act.put, List.setIfInBounds_toArray, List.set_cons_zero, List.set_cons_succ]
    rfl
  refine take_ (i := 5) (N := some 127) (v := (.string SV)) (a' := ?_) #[true, false, false, true, true, true, false, false, false, false, false, false, false, false, false, false, false] rfl rfl (by kernel_rfl) (fun _ _ _ h => h) (Or.inl ⟨by rfl, ?_⟩) hHeld ?_ ?_
  · intro w' hS
    exact exec_conv rfl (convB hSV (by omega) hS.A.r0)
    first | done | with_reducible rfl
  rotate_left
  · simp only [Act.put, List.setIfInBounds_toArray, List.set_cons_zero, List.set_cons_succ]
    rfl
  refine one_ (i := 1) (N := some 123) #[true, true, false, true, true, true, false, false, false, false, false, false, false, false, false, false, false] rfl rfl (by kernel_rfl) (by decide) (fun K hK => ?_)
  refine goes_ Try.func27 (by kernel_rfl) rfl #[.pointer (some ⟨bm, 0, none⟩)] (by rfl) rfl rfl (by (try simp only [List.map_toArray, List.map_cons, List.map_nil]); first | done | rfl) ?_
  refine (vram_mem hHeld.P.M).mono ?_
  rintro e w' ⟨g1, rfl, q1, s1, hb⟩
  refine ⟨_, rfl, ?_⟩
  have hN := hHeld.below hb
  have C1 := Aside0.mk (conv36e (c := 8192) hSV q1)
  clear hHeld hb q1 s1
  refine hK.out _ _ hN (fun hHeld => ?_)
  clear hK K hN
  refine norm_ (a' := ?_) ?_ ?_
  rotate_left
  · show Act.put _ (some 123) _ = _
    simp only [Act.put, List.setIfInBounds_toArray, List.set_cons_zero, List.set_cons_succ]
    rfl
  refine one_ (i := 2) (N := some 124) #[true, true, true, true, true, true, false, false, false, false, false, false, false, false, false, false, false] rfl rfl (by kernel_rfl) (by decide) (fun K hK => ?_)
  refine event_step (by rfl) (exec_conv rfl C1.out) ?_
  have hN := hHeld
  clear hHeld
  refine hK.out _ _ hN (fun hHeld => ?_)
  clear hK K hN
  refine norm_ (a' := ?_) ?_ ?_
  rotate_left
  · show Act.put _ (some 124) _ = _
    simp only [Act.put, List.setIfInBounds_toArray, List.set_cons_zero, List.set_cons_succ]
    rfl
  refine pure_ (i := 6) (N := some 128) (v := (.bool true)) (a' := ?_) #[true, true, true, true, true, true, true, false, false, false, false, false, false, false, false, false, false] rfl rfl (by kernel_rfl) (fun _ _ _ h => h) (Or.inl ⟨by rfl, ?_⟩) ?_ ?_
  · intro w'
    go_simp
    first | done | with_reducible rfl
  rotate_left
  · simp only [Act.put, List.setIfInBounds_toArray, List.set_cons_zero, List.set_cons_succ]
    rfl
  refine pure_ (i := 7) (N := some 129) (v := ?_) (a' := ?_) #[true, true, true, true, true, true, true, true, false, false, false, false, false, false, false, false, false] rfl rfl (by kernel_rfl) (fun _ _ _ h => h) (Or.inl ⟨by rfl, ?_⟩) ?_ ?_
  rotate_left
  · intro w'
    go_simp
    first | done | with_reducible rfl
  rotate_left
  · simp only [Act.put, List.setIfInBounds_toArray, List.set_cons_zero, List.set_cons_succ]
    rfl
  refine pure_ (i := 8) (N := some 130) (v := ?_) (a' := ?_) #[true, true, true, true, true, true, true, true, true, false, false, false, false, false, false, false, false] rfl rfl (by kernel_rfl) (fun _ _ _ h => h) (Or.inl ⟨by rfl, ?_⟩) ?_ ?_
  rotate_left
  · intro w'
    go_simp
    first | done | with_reducible rfl
  rotate_left
  · simp only [Act.put, List.setIfInBounds_toArray, List.set_cons_zero, List.set_cons_succ]
    rfl
  refine pure_ (i := 11) (N := some 133) (v := ?_) (a' := ?_) #[true, true, true, true, true, true, true, true, true, false, false, true, false, false, false, false, false] rfl rfl (by kernel_rfl) (fun _ _ _ h => h) (Or.inl ⟨by rfl, ?_⟩) ?_ ?_
  rotate_left
  · intro w'
    go_simp
    first | done | with_reducible rfl
  rotate_left
  · simp only [Act.put, List.setIfInBounds_toArray, List.set_cons_zero, List.set_cons_succ]
    rfl
  refine take_ (i := 12) (N := some 134) (v := ?_) (a' := ?_) #[true, true, true, true, true, true, true, true, true, false, false, true, true, false, false, false, false] rfl rfl (by kernel_rfl) (fun _ _ _ h => h) (Or.inl ⟨by rfl, ?_⟩) hHeld ?_ ?_
  rotate_left
  · intro w' hS
    have x0 := hS.b0
    have x2 := hS.b2
    clear hS
    go_simp
    first | done | with_reducible rfl
  rotate_left
  · simp only [Act.put, List.setIfInBounds_toArray, List.set_cons_zero, List.set_cons_succ]
    rfl
  refine take_ (i := 13) (N := some 135) (v := (.string SO)) (a' := ?_) #[true, true, true, true, true, true, true, true, true, false, false, true, true, true, false, false, false] rfl rfl (by kernel_rfl) (fun _ _ _ h => h) (Or.inl ⟨by rfl, ?_⟩) hHeld ?_ ?_
  · intro w' hS
    exact exec_conv rfl (convB hSO (by omega) hS.A.r2)
    first | done | with_reducible rfl
  rotate_left
  · simp only [Act.put, List.setIfInBounds_toArray, List.set_cons_zero, List.set_cons_succ]
    rfl
  refine one_ (i := 9) (N := some 131) #[true, true, true, true, true, true, true, true, true, true, false, true, true, true, false, false, false] rfl rfl (by kernel_rfl) (by decide) (fun K hK => ?_)
  refine goes_ Try.func28 (by kernel_rfl) rfl #[.pointer (some ⟨bm, 0, none⟩)] (by rfl) rfl rfl (by (try simp only [List.map_toArray, List.map_cons, List.map_nil]); first | done | rfl) ?_
  refine (oam_mem hHeld.P.M).mono ?_
  rintro e w' ⟨g9, rfl, q1, s1, hb⟩
  refine ⟨_, rfl, ?_⟩
  have hN := hHeld.below hb
  have C2 := Aside0.mk (conv36e (c := 160) hSO q1)
  clear hHeld hb q1 s1
  refine hK.out _ _ hN (fun hHeld => ?_)
  clear hK K hN
  refine norm_ (a' := ?_) ?_ ?_
  rotate_left
  · show Act.put _ (some 131) _ = _
    simp only [Act.put, List.setIfInBounds_toArray, List.set_cons_zero, List.set_cons_succ]
    rfl
  refine one_ (i := 10) (N := some 132) #[true, true, true, true, true, true, true, true, true, true, true, true, true, true, false, false, false] rfl rfl (by kernel_rfl) (by decide) (fun K hK => ?_)
  refine event_step (by rfl) (exec_conv rfl C2.out) ?_
  have hN := hHeld
  clear hHeld
  refine hK.out _ _ hN (fun hHeld => ?_)
  clear hK K hN
  refine norm_ (a' := ?_) ?_ ?_
  rotate_left
  · show Act.put _ (some 132) _ = _
    simp only [Act.put, List.setIfInBounds_toArray, List.set_cons_zero, List.set_cons_succ]
    rfl
  refine pure_ (i := 14) (N := some 136) (v := (.bool true)) (a' := ?_) #[true, true, true, true, true, true, true, true, true, true, true, true, true, true, true, false, false] rfl rfl (by kernel_rfl) (fun _ _ _ h => h) (Or.inl ⟨by rfl, ?_⟩) ?_ ?_
  · intro w'
    go_simp
    first | done | with_reducible rfl
  rotate_left
  · simp only [Act.put, List.setIfInBounds_toArray, List.set_cons_zero, List.set_cons_succ]
    rfl
  refine pure_ (i := 15) (N := some 137) (v := (.bool true)) (a' := ?_) #[true, true, true, true, true, true, true, true, true, true, true, true, true, true, true, true, false] rfl rfl (by kernel_rfl) (fun _ _ _ h => h) (Or.inl ⟨by rfl, ?_⟩) ?_ ?_
  · intro w'
    go_simp
    first | done | with_reducible rfl
  rotate_left
  · simp only [Act.put, List.setIfInBounds_toArray, List.set_cons_zero, List.set_cons_succ]
    rfl
  refine pure_ (i := 16) (N := some 2) (v := ?_) (a' := ?_) #[true, true, true, true, true, true, true, true, true, true, true, true, true, true, true, true, true] rfl rfl (by kernel_rfl) (fun _ _ _ h => h) (Or.inl ⟨by rfl, ?_⟩) ?_ ?_
  rotate_left
  · intro w'
    go_simp
    first | done | with_reducible rfl
  rotate_left
  · simp only [Act.put, List.setIfInBounds_toArray, List.set_cons_zero, List.set_cons_succ]
    rfl
  refine done_ (by kernel_rfl) ?_
  have HA := Aside0.mk hHeld
  clear hHeld
  go_wp2
  go_ret
  exact ⟨rfl, HA.out.P.hB⟩
end Go.Proofs.Ytlfcpmiajcimfaa.P
