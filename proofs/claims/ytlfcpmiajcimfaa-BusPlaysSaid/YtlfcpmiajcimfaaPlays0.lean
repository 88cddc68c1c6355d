/- BusPlays: the memories of the program and of the reference side by side, and the contracts of their calls. No condition but the hypotheses that stand in each. -/
import Derived.Test.YtlfcpmiajcimfaaRefPlain
import Derived.Test.YtlfcpmiajcimfaaTold
import Derived.Test.YtlfcpmiajcimfaaBack
namespace Go.Proofs.Ytlfcpmiajcimfaa.P
open Go.RowKit Go.Proofs.YtlfcpmiajcimfaaW.PrintWords Go.Proofs.YtlfcpmiajcimfaaW.PrintLast Go.Proofs.YtlfcpmiajcimfaaW.PrintMore Go.Proofs.Ytlfcpmiajcimfaa.Plain
set_option linter.unusedVariables false
set_option linter.unusedSimpArgs false
set_option maxHeartbeats 2000000
set_option maxRecDepth 100000
def RB (W : World) (n₀ : Nat) (v : Value) (xs : List Int) : Prop := Kd.R (Kd.int .u8) 5 W n₀ (fun k => some k = v.ownBlock) v xs
theorem RB_of {W : World} {n₀ : Nat} {ok : Nat → Prop} {v : Value} {xs : List Int} (h : Kd.R (Kd.int .u8) 5 W n₀ ok v xs) : RB W n₀ v xs := Kd.R_tight rfl h
structure RefAt (n₀ : Nat) (v0 v1 v2 v3 : Value) (r : M4) (W : World) : Prop where
  r0 : RB W n₀ v0 (lof r.v 8192)
  r1 : RB W n₀ v1 (lof r.q 8192)
  r2 : RB W n₀ v2 (lof r.o 160)
  r3 : RB W n₀ v3 (lof r.h 127)
  e01 : ∀ k, some k = v0.ownBlock → ¬ some k = v1.ownBlock
  e02 : ∀ k, some k = v0.ownBlock → ¬ some k = v2.ownBlock
  e03 : ∀ k, some k = v0.ownBlock → ¬ some k = v3.ownBlock
  e12 : ∀ k, some k = v1.ownBlock → ¬ some k = v2.ownBlock
  e13 : ∀ k, some k = v1.ownBlock → ¬ some k = v3.ownBlock
  e23 : ∀ k, some k = v2.ownBlock → ¬ some k = v3.ownBlock
def Own (v0 v1 v2 v3 : Value) (k : Nat) : Prop := some k = v0.ownBlock ∨ some k = v1.ownBlock ∨ some k = v2.ownBlock ∨ some k = v3.ownBlock
theorem RefAt.step {n₀ : Nat} {v0 v1 v2 v3 : Value} {r : M4} {W W' : World} (h : RefAt n₀ v0 v1 v2 v3 r W) (hm : ∀ k, Own v0 v1 v2 v3 k → k < W.heap.size → W'.heap[k]? = W.heap[k]?) : RefAt n₀ v0 v1 v2 v3 r W' :=
  ⟨Kd.R_step h.r0 (fun k hk => hm k (.inl hk)), Kd.R_step h.r1 (fun k hk => hm k (.inr (.inl hk))), Kd.R_step h.r2 (fun k hk => hm k (.inr (.inr (.inl hk)))), Kd.R_step h.r3 (fun k hk => hm k (.inr (.inr (.inr hk)))), h.e01, h.e02, h.e03, h.e12, h.e13, h.e23⟩
theorem RefAt.below {n₀ : Nat} {v0 v1 v2 v3 : Value} {r : M4} {W W' : World} (h : RefAt n₀ v0 v1 v2 v3 r W) (hb : Below W.heap.size W W') : RefAt n₀ v0 v1 v2 v3 r W' := h.step (fun k _ hk => hb.block k hk)
theorem RefAt.far {n₀ : Nat} {v0 v1 v2 v3 : Value} {r : M4} {W : World} (h : RefAt n₀ v0 v1 v2 v3 r W) {p : Addr} (hp : ¬ Own v0 v1 v2 v3 p.block) (u : Value) : RefAt n₀ v0 v1 v2 v3 r (W.setCell p u) := h.step (fun k hk _ => Below.heap_setCell W p u k (fun e => hp (e ▸ hk)))
theorem RefAt.lt {n₀ : Nat} {v0 v1 v2 v3 : Value} {r : M4} {W : World} (h : RefAt n₀ v0 v1 v2 v3 r W) {k : Nat} (hk : Own v0 v1 v2 v3 k) : k < W.heap.size := by
  rcases hk with e | e | e | e
  · exact Kd.R_lt h.r0 k e.symm
  · exact Kd.R_lt h.r1 k e.symm
  · exact Kd.R_lt h.r2 k e.symm
  · exact Kd.R_lt h.r3 k e.symm
theorem refAt_of {n₀ : Nat} {v0 v1 v2 v3 : Value} {r : M4} {W : World} {A B C D : Nat → Prop} {o1 o2 o3 o4 : Nat → Prop}
    (h0 : Kd.R (Kd.int .u8) 5 W n₀ (fun k => A k ∧ some k ≠ v1.ownBlock ∧ some k ≠ v2.ownBlock ∧ some k ≠ v3.ownBlock) v0 (lof r.v 8192))
    (h1 : Kd.R (Kd.int .u8) 5 W n₀ (fun k => B k ∧ some k ≠ v0.ownBlock ∧ some k ≠ v2.ownBlock ∧ some k ≠ v3.ownBlock) v1 (lof r.q 8192))
    (h2 : Kd.R (Kd.int .u8) 5 W n₀ (fun k => C k ∧ some k ≠ v0.ownBlock ∧ some k ≠ v1.ownBlock ∧ some k ≠ v3.ownBlock) v2 (lof r.o 160))
    (h3 : Kd.R (Kd.int .u8) 5 W n₀ (fun k => D k ∧ some k ≠ v0.ownBlock ∧ some k ≠ v1.ownBlock ∧ some k ≠ v2.ownBlock) v3 (lof r.h 127)) :
    RefAt n₀ v0 v1 v2 v3 r W ∧ (∀ k, some k = v0.ownBlock → A k) ∧ (∀ k, some k = v1.ownBlock → B k) ∧ (∀ k, some k = v2.ownBlock → C k) ∧ (∀ k, some k = v3.ownBlock → D k) :=
  ⟨⟨RB_of h0, RB_of h1, RB_of h2, RB_of h3, fun k hk => (h0.1 k hk.symm).2.1, fun k hk => (h0.1 k hk.symm).2.2.1, fun k hk => (h0.1 k hk.symm).2.2.2, fun k hk => (h1.1 k hk.symm).2.2.1, fun k hk => (h1.1 k hk.symm).2.2.2, fun k hk => (h2.1 k hk.symm).2.2.2⟩,
   fun k hk => (h0.1 k hk.symm).1, fun k hk => (h1.1 k hk.symm).1, fun k hk => (h2.1 k hk.symm).1, fun k hk => (h3.1 k hk.symm).1⟩
/-- The reference's new memory. -/
theorem rnew_calls (W : World) : Calls Try.prog 22 #[] W fun e w' => ∃ v0 v1 v2 v3 : Value, e = .returned (.agg #[v0, v1, v2, v3]) ∧ RefAt W.heap.size v0 v1 v2 v3 M4.zero w' ∧ (∀ k, Own v0 v1 v2 v3 k → W.heap.size ≤ k) ∧ Below W.heap.size W w' := by
  refine (whirligigref20_New.calls _ _ _ _ W new_lof).mono ?_
  rintro e w' ⟨v0, v1, v2, v3, rfl, h0, h1, h2, h3, hb⟩
  have t : ∀ {v : Value} {xs : List Int} {ok : Nat → Prop}, Kd.R (Kd.int .u8) 5 w' W.heap.size ok v xs → Kd.R (Kd.int .u8) 5 w' W.heap.size (fun k => True ∧ ok k) v xs := fun h => Kd.R_mono h (fun k hk => ⟨trivial, hk⟩)
  refine ⟨v0, v1, v2, v3, rfl, (refAt_of (A := fun _ => True) (B := fun _ => True) (C := fun _ => True) (D := fun _ => True) (o1 := fun _ => True) (o2 := fun _ => True) (o3 := fun _ => True) (o4 := fun _ => True) (t h0) (t h1) (t h2) (t h3)).1, ?_, hb⟩
  rintro k (e | e | e | e)
  · exact Kd.R_base h0 k e.symm
  · exact Kd.R_base h1 k e.symm
  · exact Kd.R_base h2 k e.symm
  · exact Kd.R_base h3 k e.symm
def Far (bm bv bw br k : Nat) : Prop := k ≠ bm ∧ k ≠ bv ∧ k ≠ bw ∧ k ≠ br
/-- Both memories, and the block br that holds the reference's (the values u). -/
structure St (w₀ : World) (bm bv bw br : Nat) (u0 u1 u2 u3 v0 v1 v2 v3 : Value) (m r : M4) (W : World) : Prop where
  P : Pk bm bv bw m w₀ W
  A : RefAt w₀.heap.size v0 v1 v2 v3 r W
  b0 : W.cell? ⟨br, 0, none⟩ = some u0
  b1 : W.cell? ⟨br, 1, none⟩ = some u1
  b2 : W.cell? ⟨br, 2, none⟩ = some u2
  b3 : W.cell? ⟨br, 3, none⟩ = some u3
  fb : ∀ i, W.frozen? ⟨br, i, none⟩ = false
  lb : br < W.heap.size
  kb : w₀.heap.size ≤ br
  nb : br ≠ bm ∧ br ≠ bv ∧ br ≠ bw
  f : ∀ k, Own v0 v1 v2 v3 k → Far bm bv bw br k
section
variable {w₀ W W' : World} {bm bv bw br : Nat} {u0 u1 u2 u3 v0 v1 v2 v3 : Value} {m r : M4}
theorem St.below (h : St w₀ bm bv bw br u0 u1 u2 u3 v0 v1 v2 v3 m r W) (hb : Below W.heap.size W W') : St w₀ bm bv bw br u0 u1 u2 u3 v0 v1 v2 v3 m r W' where
  P := h.P.below hb
  A := h.A.below hb
  b0 := (hb.cell (p := ⟨br, 0, none⟩) h.lb).trans h.b0
  b1 := (hb.cell (p := ⟨br, 1, none⟩) h.lb).trans h.b1
  b2 := (hb.cell (p := ⟨br, 2, none⟩) h.lb).trans h.b2
  b3 := (hb.cell (p := ⟨br, 3, none⟩) h.lb).trans h.b3
  fb := fun i => (World.frozen?_of_block (hb.block br h.lb)).trans (h.fb i)
  lb := Nat.lt_of_lt_of_le h.lb hb.size
  kb := h.kb
  nb := h.nb
  f := h.f
theorem Pk.far (h : Pk bm bv bw m w₀ W) {c j : Nat} (h1 : c ≠ bm) (h2 : c ≠ bv) (h3 : c ≠ bw) (hk : w₀.heap.size ≤ c) (u : Value) : Pk bm bv bw m w₀ (W.setCell ⟨c, j, none⟩ u) where
  M := { ne1 := h.M.ne1, ne2 := h.M.ne2, ne3 := h.M.ne3, s0 := cell_far (.inl (Ne.symm h1)) h.M.s0, s1 := cell_far (.inl (Ne.symm h1)) h.M.s1, v := fun i hi => cell_far (.inl (Ne.symm h2)) (h.M.v i hi), q := fun i hi => cell_far (.inl (Ne.symm h3)) (h.M.q i hi),
         o := fun i hi => cell_far (.inl (Ne.symm h1)) (h.M.o i hi), h := fun i hi => cell_far (.inl (Ne.symm h1)) (h.M.h i hi), fm := fun i => by rw [World.frozen?_setCell]; exact h.M.fm i, fv := fun i => by rw [World.frozen?_setCell]; exact h.M.fv i, fw := fun i => by rw [World.frozen?_setCell]; exact h.M.fw i,
         lm := by rw [size_set]; exact h.M.lm, lv := by rw [size_set]; exact h.M.lv, lw := by rw [size_set]; exact h.M.lw }
  hB := h.hB.setCell (p := ⟨c, j, none⟩) hk u
  k1 := h.k1
  k2 := h.k2
  k3 := h.k3
theorem St.far (h : St w₀ bm bv bw br u0 u1 u2 u3 v0 v1 v2 v3 m r W) {c j : Nat} (hf : Far bm bv bw br c) (ho : ¬ Own v0 v1 v2 v3 c) (hk : w₀.heap.size ≤ c) (u : Value) : St w₀ bm bv bw br u0 u1 u2 u3 v0 v1 v2 v3 m r (W.setCell ⟨c, j, none⟩ u) where
  P := h.P.far hf.1 hf.2.1 hf.2.2.1 hk u
  A := h.A.far (p := ⟨c, j, none⟩) ho u
  b0 := cell_far (.inl (Ne.symm hf.2.2.2)) h.b0
  b1 := cell_far (.inl (Ne.symm hf.2.2.2)) h.b1
  b2 := cell_far (.inl (Ne.symm hf.2.2.2)) h.b2
  b3 := cell_far (.inl (Ne.symm hf.2.2.2)) h.b3
  fb := fun i => by rw [World.frozen?_setCell]; exact h.fb i
  lb := by rw [size_set]; exact h.lb
  kb := h.kb
  nb := h.nb
  f := h.f
/-- The reference's block takes its new values. -/
theorem St.stored (h : St w₀ bm bv bw br u0 u1 u2 u3 v0 v1 v2 v3 m r W) : St w₀ bm bv bw br v0 v1 v2 v3 v0 v1 v2 v3 m r ((((W.setCell ⟨br, 0, none⟩ v0).setCell ⟨br, 1, none⟩ v1).setCell ⟨br, 2, none⟩ v2).setCell ⟨br, 3, none⟩ v3) where
  P := (((h.P.far h.nb.1 h.nb.2.1 h.nb.2.2 h.kb v0).far h.nb.1 h.nb.2.1 h.nb.2.2 h.kb v1).far h.nb.1 h.nb.2.1 h.nb.2.2 h.kb v2).far h.nb.1 h.nb.2.1 h.nb.2.2 h.kb v3
  A := by
    have ho : ¬ Own v0 v1 v2 v3 br := fun e => (h.f _ e).2.2.2 rfl
    exact (((h.A.far (p := ⟨br, 0, none⟩) ho v0).far (p := ⟨br, 1, none⟩) ho v1).far (p := ⟨br, 2, none⟩) ho v2).far (p := ⟨br, 3, none⟩) ho v3
  b0 := by rw [cell_set (cell_set (cell_set (cell_set h.b0)))]; simp
  b1 := by rw [cell_set (cell_set (cell_set (cell_set h.b1)))]; simp
  b2 := by rw [cell_set (cell_set (cell_set (cell_set h.b2)))]; simp
  b3 := by rw [cell_set (cell_set (cell_set (cell_set h.b3)))]; simp
  fb := fun i => by simp only [World.frozen?_setCell]; exact h.fb i
  lb := by simp only [size_set]; exact h.lb
  kb := h.kb
  nb := h.nb
  f := h.f
end
end Go.Proofs.Ytlfcpmiajcimfaa.P
