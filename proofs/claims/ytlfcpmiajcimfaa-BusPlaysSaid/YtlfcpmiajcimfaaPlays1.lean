/- BusPlays: the contracts of the calls over both memories. No condition but the hypotheses that stand in each. -/
import Derived.Test.YtlfcpmiajcimfaaPlays0
import Derived.Laws.BytesString
namespace Go.Proofs.Ytlfcpmiajcimfaa.P
open Go.RowKit Go.Proofs.YtlfcpmiajcimfaaW.PrintWords Go.Proofs.YtlfcpmiajcimfaaW.PrintLast Go.Proofs.YtlfcpmiajcimfaaW.PrintMore Go.Proofs.Ytlfcpmiajcimfaa.Plain
set_option linter.unusedVariables false
set_option linter.unusedSimpArgs false
set_option maxHeartbeats 2000000
set_option maxRecDepth 100000
theorem put_any {W : World} {bm bv bw : Nat} {m : M4} (M : MemAt W bm bv bw m) (a : Nat) (ha : a < 65536) (x : Int) (I : World → Prop) (hI : ∀ w1, Below W.heap.size W w1 → I w1) (hS : ∀ w1 c j u, I w1 → (c = bm ∨ c = bv ∨ c = bw) → I (w1.setCell ⟨c, j, none⟩ u)) :
    Calls Try.prog 18 #[.pointer (some ⟨bm, 0, none⟩), .int .u16 (a : Int), .int .u8 x] W fun e w' => e = .returned (.tuple #[]) ∧ MemAt w' bm bv bw (m.put a x) ∧ I w' := by
  obtain ⟨F, R, hFR, hF, hA, hc⟩ := best_cases a ha
  have hn : ∀ r : Int, r = R → sliceOf bm bv bw r = .slice none 0 0 → m.put a x = m → Calls Try.prog 18 #[.pointer (some ⟨bm, 0, none⟩), .int .u16 (a : Int), .int .u8 x] W fun e w' => e = .returned (.tuple #[]) ∧ MemAt w' bm bv bw (m.put a x) ∧ I w' := fun r hr hs hg => by
    subst hr
    rw [hg]
    refine (put_none _ a F R x _ W hFR hA (fun w' hb => by rw [← hs]; exact cells_mem (M.below hb) _)).mono ?_
    rintro e w' ⟨rfl, hb⟩
    exact ⟨rfl, M.below hb, hI _ hb⟩
  rcases hc with ⟨h1, rfl, rfl⟩ | ⟨h1, h2, rfl, rfl⟩ | ⟨h1, h2, rfl, rfl⟩ | ⟨h1, h2, rfl, rfl⟩ | ⟨h1, h2, rfl, rfl⟩ | ⟨h1, h2, rfl, rfl⟩ | ⟨h1, h2, rfl, rfl⟩ | ⟨h1, h2, rfl, rfl⟩ | ⟨h1, h2, rfl, rfl⟩ | ⟨h1, rfl, rfl⟩
  · exact hn _ rfl rfl (by unfold M4.put; rw [if_pos h1])
  · have e : m.put a x = { m with v := upd m.v (a - 32768) x } := by unfold M4.put; rw [if_neg (by omega), if_pos h2]
    rw [e]
    refine (put_some _ a _ _ x _ (a - 32768) bv 0 8192 W hFR hA (by omega) (fun w' hb => cells_mem (M.below hb) _) M.lv (by rw [Nat.zero_add]; exact M.v _ (by omega)) (M.fv _)).mono ?_
    rintro e w' ⟨rfl, w1, hb, rfl⟩
    rw [Nat.zero_add]
    exact ⟨rfl, (M.below hb).set_v _ _, hS _ _ _ _ (hI _ hb) (.inr (.inl rfl))⟩
  · exact hn _ rfl rfl (by unfold M4.put; rw [if_neg (by omega), if_neg (by omega), if_pos h2])
  · have e : m.put a x = { m with q := upd m.q (a - 49152) x } := by unfold M4.put; rw [if_neg (by omega), if_neg (by omega), if_neg (by omega), if_pos h2]
    rw [e]
    refine (put_some _ a _ _ x _ (a - 49152) bw 0 8192 W hFR hA (by omega) (fun w' hb => cells_mem (M.below hb) _) M.lw (by rw [Nat.zero_add]; exact M.q _ (by omega)) (M.fw _)).mono ?_
    rintro e w' ⟨rfl, w1, hb, rfl⟩
    rw [Nat.zero_add]
    exact ⟨rfl, (M.below hb).set_q _ _, hS _ _ _ _ (hI _ hb) (.inr (.inr rfl))⟩
  · have e : m.put a x = { m with q := upd m.q (a - 57344) x } := by unfold M4.put; rw [if_neg (by omega), if_neg (by omega), if_neg (by omega), if_neg (by omega), if_pos h2]
    rw [e]
    refine (put_some _ a _ _ x _ (a - 57344) bw 0 8192 W hFR hA (by omega) (fun w' hb => cells_mem (M.below hb) _) M.lw (by rw [Nat.zero_add]; exact M.q _ (by omega)) (M.fw _)).mono ?_
    rintro e w' ⟨rfl, w1, hb, rfl⟩
    rw [Nat.zero_add]
    exact ⟨rfl, (M.below hb).set_q _ _, hS _ _ _ _ (hI _ hb) (.inr (.inr rfl))⟩
  · have e : m.put a x = { m with o := upd m.o (a - 65024) x } := by unfold M4.put; rw [if_neg (by omega), if_neg (by omega), if_neg (by omega), if_neg (by omega), if_neg (by omega), if_pos h2]
    rw [e]
    refine (put_some _ a _ _ x _ (a - 65024) bm 2 160 W hFR hA (by omega) (fun w' hb => cells_mem (M.below hb) _) M.lm (M.o _ (by omega)) (M.fm _)).mono ?_
    rintro e w' ⟨rfl, w1, hb, rfl⟩
    exact ⟨rfl, (M.below hb).set_o _ (by omega) _, hS _ _ _ _ (hI _ hb) (.inl rfl)⟩
  · exact hn _ rfl rfl (by unfold M4.put; rw [if_neg (by omega), if_neg (by omega), if_neg (by omega), if_neg (by omega), if_neg (by omega), if_neg (by omega), if_pos (by omega)])
  · exact hn _ rfl rfl (by unfold M4.put; rw [if_neg (by omega), if_neg (by omega), if_neg (by omega), if_neg (by omega), if_neg (by omega), if_neg (by omega), if_pos (by omega)])
  · have e : m.put a x = { m with h := upd m.h (a - 65408) x } := by unfold M4.put; rw [if_neg (by omega), if_neg (by omega), if_neg (by omega), if_neg (by omega), if_neg (by omega), if_neg (by omega), if_neg (by omega), if_pos h2]
    rw [e]
    refine (put_some _ a _ _ x _ (a - 65408) bm 162 127 W hFR hA (by omega) (fun w' hb => cells_mem (M.below hb) _) M.lm (M.h _ (by omega)) (M.fm _)).mono ?_
    rintro e w' ⟨rfl, w1, hb, rfl⟩
    exact ⟨rfl, (M.below hb).set_h _ (by omega) _, hS _ _ _ _ (hI _ hb) (.inl rfl)⟩
  · exact hn _ rfl rfl (by unfold M4.put; rw [if_neg (by omega), if_neg (by omega), if_neg (by omega), if_neg (by omega), if_neg (by omega), if_neg (by omega), if_neg (by omega), if_neg (by omega)])
theorem object_any {W : World} {bm bv bw : Nat} {m : M4} (M : MemAt W bm bv bw m) (k : Nat) (hk : k < 256) (x : Int) (I : World → Prop) (hI : ∀ w1, Below W.heap.size W w1 → I w1) (hS : ∀ w1 c j u, I w1 → (c = bm ∨ c = bv ∨ c = bw) → I (w1.setCell ⟨c, j, none⟩ u)) :
    Calls Try.prog 25 #[.pointer (some ⟨bm, 0, none⟩), .int .u8 (k : Int), .int .u8 x] W fun e w' => e = .returned (.tuple #[]) ∧ MemAt w' bm bv bw (m.object k x) ∧ I w' := by
  unfold M4.object
  by_cases h : k < 160
  · rw [if_pos h]
    refine (object_some _ x _ k bm 2 160 W h (by omega) (cells_mem M 4) M.lm (M.o _ h) (M.fm _)).mono ?_
    rintro e w' ⟨rfl, rfl⟩
    exact ⟨rfl, M.set_o k h x, hS _ _ _ _ (hI _ (Below.refl _ _)) (.inl rfl)⟩
  · rw [if_neg h]
    refine (object_none _ x k 160 _ W (by omega) hk (cells_mem M 4)).mono ?_
    rintro e w' ⟨rfl, rfl⟩
    exact ⟨rfl, M, hI _ (Below.refl _ _)⟩

section
variable {w₀ W W' : World} {bm bv bw br : Nat} {u0 u1 u2 u3 v0 v1 v2 v3 : Value} {m r : M4}
/-- What lies beside the memories. -/
structure Bs (w₀ : World) (bm bv bw br : Nat) (u0 u1 u2 u3 v0 v1 v2 v3 : Value) (r : M4) (W : World) : Prop where
  hB : Below w₀.heap.size w₀ W
  A : RefAt w₀.heap.size v0 v1 v2 v3 r W
  b0 : W.cell? ⟨br, 0, none⟩ = some u0
  b1 : W.cell? ⟨br, 1, none⟩ = some u1
  b2 : W.cell? ⟨br, 2, none⟩ = some u2
  b3 : W.cell? ⟨br, 3, none⟩ = some u3
  fb : ∀ i, W.frozen? ⟨br, i, none⟩ = false
  lb : br < W.heap.size
theorem St.bs (h : St w₀ bm bv bw br u0 u1 u2 u3 v0 v1 v2 v3 m r W) (w1 : World) (hb : Below W.heap.size W w1) : Bs w₀ bm bv bw br u0 u1 u2 u3 v0 v1 v2 v3 r w1 := by
  have k := h.below hb
  exact ⟨k.P.hB, k.A, k.b0, k.b1, k.b2, k.b3, k.fb, k.lb⟩
theorem Bs.set (h : Bs w₀ bm bv bw br u0 u1 u2 u3 v0 v1 v2 v3 r W) {c j : Nat} (h1 : w₀.heap.size ≤ c) (h2 : c ≠ br) (h3 : ¬ Own v0 v1 v2 v3 c) (u : Value) : Bs w₀ bm bv bw br u0 u1 u2 u3 v0 v1 v2 v3 r (W.setCell ⟨c, j, none⟩ u) where
  hB := h.hB.setCell (p := ⟨c, j, none⟩) h1 u
  A := h.A.far (p := ⟨c, j, none⟩) h3 u
  b0 := cell_far (.inl (Ne.symm h2)) h.b0
  b1 := cell_far (.inl (Ne.symm h2)) h.b1
  b2 := cell_far (.inl (Ne.symm h2)) h.b2
  b3 := cell_far (.inl (Ne.symm h2)) h.b3
  fb := fun i => by rw [World.frozen?_setCell]; exact h.fb i
  lb := by rw [size_set]; exact h.lb
theorem St.of_bs (h : St w₀ bm bv bw br u0 u1 u2 u3 v0 v1 v2 v3 m r W) {m' : M4} (M : MemAt W' bm bv bw m') (b : Bs w₀ bm bv bw br u0 u1 u2 u3 v0 v1 v2 v3 r W') : St w₀ bm bv bw br u0 u1 u2 u3 v0 v1 v2 v3 m' r W' :=
  ⟨⟨M, b.hB, h.P.k1, h.P.k2, h.P.k3⟩, b.A, b.b0, b.b1, b.b2, b.b3, b.fb, b.lb, h.kb, h.nb, h.f⟩
theorem St.bset (h : St w₀ bm bv bw br u0 u1 u2 u3 v0 v1 v2 v3 m r W) (w1 : World) (c j : Nat) (u : Value) (b : Bs w₀ bm bv bw br u0 u1 u2 u3 v0 v1 v2 v3 r w1) (hc : c = bm ∨ c = bv ∨ c = bw) : Bs w₀ bm bv bw br u0 u1 u2 u3 v0 v1 v2 v3 r (w1.setCell ⟨c, j, none⟩ u) := by
  have hn := h.nb
  refine b.set ?_ ?_ ?_ u
  · rcases hc with rfl | rfl | rfl
    · exact h.P.k1
    · exact h.P.k2
    · exact h.P.k3
  · rcases hc with rfl | rfl | rfl
    · exact Ne.symm hn.1
    · exact Ne.symm hn.2.1
    · exact Ne.symm hn.2.2
  · intro e
    have := h.f c e
    unfold Far at this
    omega
theorem put_st (h : St w₀ bm bv bw br u0 u1 u2 u3 v0 v1 v2 v3 m r W) (a : Nat) (ha : a < 65536) (x : Int) :
    Calls Try.prog 18 #[.pointer (some ⟨bm, 0, none⟩), .int .u16 (a : Int), .int .u8 x] W fun e w' => e = .returned (.tuple #[]) ∧ Aside0 (St w₀ bm bv bw br u0 u1 u2 u3 v0 v1 v2 v3 (m.put a x) r w') := by
  refine (put_any h.P.M a ha x (Bs w₀ bm bv bw br u0 u1 u2 u3 v0 v1 v2 v3 r) h.bs (fun w1 c j u b hc => h.bset w1 c j u b hc)).mono ?_
  rintro e w' ⟨rfl, M, b⟩
  exact ⟨rfl, ⟨h.of_bs M b⟩⟩
theorem object_st (h : St w₀ bm bv bw br u0 u1 u2 u3 v0 v1 v2 v3 m r W) (k : Nat) (hk : k < 256) (x : Int) :
    Calls Try.prog 25 #[.pointer (some ⟨bm, 0, none⟩), .int .u8 (k : Int), .int .u8 x] W fun e w' => e = .returned (.tuple #[]) ∧ Aside0 (St w₀ bm bv bw br u0 u1 u2 u3 v0 v1 v2 v3 (m.object k x) r w') := by
  refine (object_any h.P.M k hk x (Bs w₀ bm bv bw br u0 u1 u2 u3 v0 v1 v2 v3 r) h.bs (fun w1 c j u b hc => h.bset w1 c j u b hc)).mono ?_
  rintro e w' ⟨rfl, M, b⟩
  exact ⟨rfl, ⟨h.of_bs M b⟩⟩
theorem get_st (h : St w₀ bm bv bw br u0 u1 u2 u3 v0 v1 v2 v3 m r W) (a : Nat) (ha : a < 65536) :
    Calls Try.prog 19 #[.pointer (some ⟨bm, 0, none⟩), .int .u16 (a : Int)] W fun e w' => e = .returned (.int .u8 (m.get a)) ∧ Aside0 (St w₀ bm bv bw br u0 u1 u2 u3 v0 v1 v2 v3 m r w') := by
  refine (get_mem h.P.M a ha).mono ?_
  rintro e w' ⟨rfl, hb⟩
  exact ⟨rfl, ⟨h.below hb⟩⟩
/-- The reference's values are slices, and read. -/
theorem RefAt.open (h : RefAt w₀.heap.size v0 v1 v2 v3 r W) : ∃ A0 c0 A1 c1 A2 c2 A3 c3, v0 = .slice A0 8192 c0 ∧ v1 = .slice A1 8192 c1 ∧ v2 = .slice A2 160 c2 ∧ v3 = .slice A3 127 c3 := by
  obtain ⟨A0, c0, e0⟩ := Kd.R_slice h.r0
  obtain ⟨A1, c1, e1⟩ := Kd.R_slice h.r1
  obtain ⟨A2, c2, e2⟩ := Kd.R_slice h.r2
  obtain ⟨A3, c3, e3⟩ := Kd.R_slice h.r3
  rw [lof_len] at e0 e1 e2 e3
  exact ⟨A0, c0, A1, c1, A2, c2, A3, c3, e0, e1, e2, e3⟩
theorem rget_st (h : St w₀ bm bv bw br u0 u1 u2 u3 v0 v1 v2 v3 m r W) (a : Nat) (ha : a < 65536) :
    Calls Try.prog 23 #[.agg #[v0, v1, v2, v3], .int .u16 (a : Int)] W fun e w' => e = .returned (.int .u8 (r.get a)) ∧ Aside0 (St w₀ bm bv bw br u0 u1 u2 u3 v0 v1 v2 v3 m r w') := by
  have hr := h
  obtain ⟨A0, c0, e0⟩ := Kd.R_slice h.A.r0
  obtain ⟨A1, c1, e1⟩ := Kd.R_slice h.A.r1
  obtain ⟨A2, c2, e2⟩ := Kd.R_slice h.A.r2
  obtain ⟨A3, c3, e3⟩ := Kd.R_slice h.A.r3
  subst e0 e1 e2 e3
  refine (whirligigref20_Get.calls A0 c0 _ A1 c1 _ A2 c2 _ A3 c3 _ (a : Int) (r.get a) W (Kd.R_reads' h.A.r0).2.2 (Kd.R_reads' h.A.r0).2.1 (Kd.R_reads' h.A.r1).2.2 (Kd.R_reads' h.A.r1).2.1 (Kd.R_reads' h.A.r2).2.2 (Kd.R_reads' h.A.r2).2.1 (Kd.R_reads' h.A.r3).2.2 (Kd.R_reads' h.A.r3).2.1 (get_lof r a ha)).mono ?_
  rintro e w' ⟨rfl, hb⟩
  exact ⟨rfl, ⟨hr.below hb⟩⟩
/-- What the reference's changing calls leave. -/
theorem St.turned (h : St w₀ bm bv bw br v0 v1 v2 v3 v0 v1 v2 v3 m r W) {x0 x1 x2 x3 : Value} {r' : M4}
    (A : RefAt w₀.heap.size x0 x1 x2 x3 r' W') (hx : ∀ k, Own x0 x1 x2 x3 k → Own v0 v1 v2 v3 k ∨ W.heap.size ≤ k) (hB : Below w₀.heap.size w₀ W') (hK : Kept W W' (Own v0 v1 v2 v3)) :
    St w₀ bm bv bw br v0 v1 v2 v3 x0 x1 x2 x3 m r' W' := by
  have hn : ∀ c, c < W.heap.size → (c = bm ∨ c = bv ∨ c = bw ∨ c = br) → W'.heap[c]? = W.heap[c]? := fun c hc hcs => hK.2 c hc (fun e => by have := h.f c e; unfold Far at this; omega)
  have nm := hn bm h.P.M.lm (.inl rfl)
  have nv := hn bv h.P.M.lv (.inr (.inl rfl))
  have nw := hn bw h.P.M.lw (.inr (.inr (.inl rfl)))
  have nr := hn br h.lb (.inr (.inr (.inr rfl)))
  have cm : ∀ i, W'.cell? ⟨bm, i, none⟩ = W.cell? ⟨bm, i, none⟩ := fun i => World.cell?_of_block nm
  have cv : ∀ i, W'.cell? ⟨bv, i, none⟩ = W.cell? ⟨bv, i, none⟩ := fun i => World.cell?_of_block nv
  have cw : ∀ i, W'.cell? ⟨bw, i, none⟩ = W.cell? ⟨bw, i, none⟩ := fun i => World.cell?_of_block nw
  have cr : ∀ i, W'.cell? ⟨br, i, none⟩ = W.cell? ⟨br, i, none⟩ := fun i => World.cell?_of_block nr
  have M := h.P.M
  refine ⟨⟨⟨M.ne1, M.ne2, M.ne3, (cm _).trans M.s0, (cm _).trans M.s1, fun i hi => (cv _).trans (M.v i hi), fun i hi => (cw _).trans (M.q i hi), fun i hi => (cm _).trans (M.o i hi), fun i hi => (cm _).trans (M.h i hi), fun i => (World.frozen?_of_block nm).trans (M.fm i), fun i => (World.frozen?_of_block nv).trans (M.fv i), fun i => (World.frozen?_of_block nw).trans (M.fw i), Nat.lt_of_lt_of_le M.lm hK.1, Nat.lt_of_lt_of_le M.lv hK.1, Nat.lt_of_lt_of_le M.lw hK.1⟩, hB, h.P.k1, h.P.k2, h.P.k3⟩, A, (cr _).trans h.b0, (cr _).trans h.b1, (cr _).trans h.b2, (cr _).trans h.b3, fun i => (World.frozen?_of_block nr).trans (h.fb i), Nat.lt_of_lt_of_le h.lb hK.1, h.kb, h.nb, ?_⟩
  intro k hk
  rcases hx k hk with e | e
  · exact h.f k e
  · have := M.lm; have := M.lv; have := M.lw; have := h.lb
    unfold Far; omega
theorem rput_st (h : St w₀ bm bv bw br v0 v1 v2 v3 v0 v1 v2 v3 m r W) (a : Nat) (ha : a < 65536) (x : Int) :
    Calls Try.prog 24 #[.agg #[v0, v1, v2, v3], .int .u16 (a : Int), .int .u8 x] W fun e w' => ∃ x0 x1 x2 x3, e = .returned (.agg #[x0, x1, x2, x3]) ∧ Aside0 (St w₀ bm bv bw br v0 v1 v2 v3 x0 x1 x2 x3 m (r.put a x) w') ∧ Kept W w' (Own v0 v1 v2 v3) ∧ (∀ k, Own x0 x1 x2 x3 k → Own v0 v1 v2 v3 k ∨ W.heap.size ≤ k) := by
  have A := h.A
  refine (whirligigref20_Put.calls (fun k => some k = v0.ownBlock) v0 _ (fun k => some k = v1.ownBlock) v1 _ (fun k => some k = v2.ownBlock) v2 _ (fun k => some k = v3.ownBlock) v3 _ _ x _ _ _ _ w₀ W h.P.hB
    A.r0 A.e01 A.e02 A.e03 A.r1 (fun k a b => A.e01 k b a) A.e12 A.e13 A.r2 (fun k a b => A.e02 k b a) (fun k a b => A.e12 k b a) A.e23 A.r3 (fun k a b => A.e03 k b a) (fun k a b => A.e13 k b a) (fun k a b => A.e23 k b a) (put_lof r a ha x)).mono ?_
  rintro e w' ⟨x0, x1, x2, x3, rfl, h0, h1, h2, h3, hB, hK⟩
  obtain ⟨A', a0, a1, a2, a3⟩ := refAt_of (o1 := fun _ => True) (o2 := fun _ => True) (o3 := fun _ => True) (o4 := fun _ => True) h0 h1 h2 h3
  suffices hx : ∀ k, Own x0 x1 x2 x3 k → Own v0 v1 v2 v3 k ∨ W.heap.size ≤ k from ⟨x0, x1, x2, x3, rfl, ⟨h.turned A' hx hB hK⟩, hK, hx⟩
  rintro k (e | e | e | e)
  · exact a0 k e
  · exact a1 k e
  · exact a2 k e
  · exact a3 k e
theorem robject_st (h : St w₀ bm bv bw br v0 v1 v2 v3 v0 v1 v2 v3 m r W) (k : Nat) (hk : k < 256) (x : Int) :
    Calls Try.prog 26 #[.agg #[v0, v1, v2, v3], .int .u8 (k : Int), .int .u8 x] W fun e w' => ∃ x0 x1 x2 x3, e = .returned (.agg #[x0, x1, x2, x3]) ∧ Aside0 (St w₀ bm bv bw br v0 v1 v2 v3 x0 x1 x2 x3 m (r.object k x) w') ∧ Kept W w' (Own v0 v1 v2 v3) ∧ (∀ k, Own x0 x1 x2 x3 k → Own v0 v1 v2 v3 k ∨ W.heap.size ≤ k) := by
  have A := h.A
  refine (whirligigref20_Object.calls (fun k => some k = v0.ownBlock) v0 _ (fun k => some k = v1.ownBlock) v1 _ (fun k => some k = v2.ownBlock) v2 _ (fun k => some k = v3.ownBlock) v3 _ _ x _ _ _ _ w₀ W h.P.hB
    A.r0 A.e01 A.e02 A.e03 A.r1 (fun k a b => A.e01 k b a) A.e12 A.e13 A.r2 (fun k a b => A.e02 k b a) (fun k a b => A.e12 k b a) A.e23 A.r3 (fun k a b => A.e03 k b a) (fun k a b => A.e13 k b a) (fun k a b => A.e23 k b a) (object_lof r k hk x)).mono ?_
  rintro e w' ⟨x0, x1, x2, x3, rfl, h0, h1, h2, h3, hB, hK⟩
  obtain ⟨A', a0, a1, a2, a3⟩ := refAt_of (o1 := fun _ => True) (o2 := fun _ => True) (o3 := fun _ => True) (o4 := fun _ => True) h0 h1 h2 h3
  suffices hx : ∀ k, Own x0 x1 x2 x3 k → Own v0 v1 v2 v3 k ∨ W.heap.size ≤ k from ⟨x0, x1, x2, x3, rfl, ⟨h.turned A' hx hB hK⟩, hK, hx⟩
  rintro k (e | e | e | e)
  · exact a0 k e
  · exact a1 k e
  · exact a2 k e
  · exact a3 k e

/-- The same, and a block ba beside them. -/
structure Sa (w₀ : World) (bm bv bw br ba : Nat) (o : Obj) (u0 u1 u2 u3 v0 v1 v2 v3 : Value) (m r : M4) (W : World) : Prop where
  s : St w₀ bm bv bw br u0 u1 u2 u3 v0 v1 v2 v3 m r W
  b : W.heap[ba]? = some o
  f : Far bm bv bw br ba
  g : ¬ Own v0 v1 v2 v3 ba
theorem Sa.below {ba : Nat} {o : Obj} (h : Sa w₀ bm bv bw br ba o u0 u1 u2 u3 v0 v1 v2 v3 m r W) (hb : Below W.heap.size W W') : Sa w₀ bm bv bw br ba o u0 u1 u2 u3 v0 v1 v2 v3 m r W' := ⟨h.s.below hb, (hb.block ba (blk_lt h.b)).trans h.b, h.f, h.g⟩
theorem St.sa_new (h : St w₀ bm bv bw br u0 u1 u2 u3 v0 v1 v2 v3 m r W) (o : Obj) : Sa w₀ bm bv bw br W.heap.size o u0 u1 u2 u3 v0 v1 v2 v3 m r (W.alloc o) := by
  refine ⟨h.below (below_alloc (Below.refl _ _) _), blk_new W o, ?_, fun e => Nat.lt_irrefl _ (h.A.lt e)⟩
  have := h.P.M.lm; have := h.P.M.lv; have := h.P.M.lw; have := h.lb
  unfold Far; omega
theorem put_sa {ba : Nat} {o : Obj} (h : Aside0 (Sa w₀ bm bv bw br ba o u0 u1 u2 u3 v0 v1 v2 v3 m r W)) (a : Nat) (ha : a < 65536) (x : Int) :
    Calls Try.prog 18 #[.pointer (some ⟨bm, 0, none⟩), .int .u16 (a : Int), .int .u8 x] W fun e w' => e = .returned (.tuple #[]) ∧ Aside0 (Sa w₀ bm bv bw br ba o u0 u1 u2 u3 v0 v1 v2 v3 (m.put a x) r w') := by
  refine (put_any h.out.s.P.M a ha x (fun w1 => Bs w₀ bm bv bw br u0 u1 u2 u3 v0 v1 v2 v3 r w1 ∧ w1.heap[ba]? = some o) (fun w1 hb => ⟨h.out.s.bs w1 hb, (hb.block ba (blk_lt h.out.b)).trans h.out.b⟩)
    (fun w1 c j u b hc => ⟨h.out.s.bset w1 c j u b.1 hc, (Below.heap_setCell w1 ⟨c, j, none⟩ u ba (by have := h.out.f; unfold Far at this; show ba ≠ c; omega)).trans b.2⟩)).mono ?_
  rintro e w' ⟨rfl, M, b, b2⟩
  exact ⟨rfl, ⟨h.out.s.of_bs M b, b2, h.out.f, h.out.g⟩⟩
theorem object_sa {ba : Nat} {o : Obj} (h : Aside0 (Sa w₀ bm bv bw br ba o u0 u1 u2 u3 v0 v1 v2 v3 m r W)) (k : Nat) (hk : k < 256) (x : Int) :
    Calls Try.prog 25 #[.pointer (some ⟨bm, 0, none⟩), .int .u8 (k : Int), .int .u8 x] W fun e w' => e = .returned (.tuple #[]) ∧ Aside0 (Sa w₀ bm bv bw br ba o u0 u1 u2 u3 v0 v1 v2 v3 (m.object k x) r w') := by
  refine (object_any h.out.s.P.M k hk x (fun w1 => Bs w₀ bm bv bw br u0 u1 u2 u3 v0 v1 v2 v3 r w1 ∧ w1.heap[ba]? = some o) (fun w1 hb => ⟨h.out.s.bs w1 hb, (hb.block ba (blk_lt h.out.b)).trans h.out.b⟩)
    (fun w1 c j u b hc => ⟨h.out.s.bset w1 c j u b.1 hc, (Below.heap_setCell w1 ⟨c, j, none⟩ u ba (by have := h.out.f; unfold Far at this; show ba ≠ c; omega)).trans b.2⟩)).mono ?_
  rintro e w' ⟨rfl, M, b, b2⟩
  exact ⟨rfl, ⟨h.out.s.of_bs M b, b2, h.out.f, h.out.g⟩⟩
theorem rput_sa {ba : Nat} {o : Obj} (h : Aside0 (Sa w₀ bm bv bw br ba o v0 v1 v2 v3 v0 v1 v2 v3 m r W)) (a : Nat) (ha : a < 65536) (x : Int) :
    Calls Try.prog 24 #[.agg #[v0, v1, v2, v3], .int .u16 (a : Int), .int .u8 x] W fun e w' => ∃ x0 x1 x2 x3, e = .returned (.agg #[x0, x1, x2, x3]) ∧ Aside0 (Sa w₀ bm bv bw br ba o v0 v1 v2 v3 x0 x1 x2 x3 m (r.put a x) w') := by
  refine (rput_st h.out.s a ha x).mono ?_
  rintro e w' ⟨x0, x1, x2, x3, rfl, s, hK, hx⟩
  exact ⟨x0, x1, x2, x3, rfl, ⟨s.out, (hK.2 ba (blk_lt h.out.b) h.out.g).trans h.out.b, h.out.f, fun e => (hx ba e).elim h.out.g (fun e2 => Nat.not_le.2 (blk_lt h.out.b) e2)⟩⟩
theorem robject_sa {ba : Nat} {o : Obj} (h : Aside0 (Sa w₀ bm bv bw br ba o v0 v1 v2 v3 v0 v1 v2 v3 m r W)) (a : Nat) (ha : a < 256) (x : Int) :
    Calls Try.prog 26 #[.agg #[v0, v1, v2, v3], .int .u8 (a : Int), .int .u8 x] W fun e w' => ∃ x0 x1 x2 x3, e = .returned (.agg #[x0, x1, x2, x3]) ∧ Aside0 (Sa w₀ bm bv bw br ba o v0 v1 v2 v3 x0 x1 x2 x3 m (r.object a x) w') := by
  refine (robject_st h.out.s a ha x).mono ?_
  rintro e w' ⟨x0, x1, x2, x3, rfl, s, hK, hx⟩
  exact ⟨x0, x1, x2, x3, rfl, ⟨s.out, (hK.2 ba (blk_lt h.out.b) h.out.g).trans h.out.b, h.out.f, fun e => (hx ba e).elim h.out.g (fun e2 => Nat.not_le.2 (blk_lt h.out.b) e2)⟩⟩
theorem get_sa {ba : Nat} {o : Obj} (h : Sa w₀ bm bv bw br ba o u0 u1 u2 u3 v0 v1 v2 v3 m r W) (a : Nat) (ha : a < 65536) :
    Calls Try.prog 19 #[.pointer (some ⟨bm, 0, none⟩), .int .u16 (a : Int)] W fun e w' => e = .returned (.int .u8 (m.get a)) ∧ Below W.heap.size W w' := get_mem h.s.P.M a ha
theorem rget_sa {ba : Nat} {o : Obj} (h : Sa w₀ bm bv bw br ba o u0 u1 u2 u3 v0 v1 v2 v3 m r W) (a : Nat) (ha : a < 65536) :
    Calls Try.prog 23 #[.agg #[v0, v1, v2, v3], .int .u16 (a : Int)] W fun e w' => e = .returned (.int .u8 (r.get a)) ∧ Below W.heap.size W w' := by
  have A := h.s.A
  clear h
  obtain ⟨A0, c0, e0⟩ := Kd.R_slice A.r0
  obtain ⟨A1, c1, e1⟩ := Kd.R_slice A.r1
  obtain ⟨A2, c2, e2⟩ := Kd.R_slice A.r2
  obtain ⟨A3, c3, e3⟩ := Kd.R_slice A.r3
  subst e0 e1 e2 e3
  exact whirligigref20_Get.calls A0 c0 _ A1 c1 _ A2 c2 _ A3 c3 _ (a : Int) (r.get a) W (Kd.R_reads' A.r0).2.2 (Kd.R_reads' A.r0).2.1 (Kd.R_reads' A.r1).2.2 (Kd.R_reads' A.r1).2.1 (Kd.R_reads' A.r2).2.2 (Kd.R_reads' A.r2).2.1 (Kd.R_reads' A.r3).2.2 (Kd.R_reads' A.r3).2.1 (get_lof r a ha)
end
end Go.Proofs.Ytlfcpmiajcimfaa.P
