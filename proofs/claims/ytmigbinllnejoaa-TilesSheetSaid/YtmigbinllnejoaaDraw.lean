/- Sheet.draw: its loop. No condition but the hypotheses that stand in it. -/
import Derived.Test.YtmigbinllnejoaaSheet
import Derived.Shelf.RegionOpen
namespace Go.Proofs.Ytmigbinllnejoaa.P
open Go.RowKit Go.Proofs.YtmigbinllnejoaaW.PrintWords Go.Proofs.YtmigbinllnejoaaW.PrintLast Go.Proofs.YtmigbinllnejoaaW.PrintMore
set_option linter.unusedVariables false
set_option linter.unusedSimpArgs false
set_option maxHeartbeats 4000000
set_option maxRecDepth 100000
def codeSnd : Code → Code
  | .seq _ b => b
  | c => c
def codeFst : Code → Code
  | .seq a _ => a
  | c => c
def codeIn : Code → Code
  | .block _ c => c
  | .loop c => c
  | c => c
noncomputable def drawBody : Code := codeIn (codeIn (codeSnd (Try.f32.body.getD .skip)))
def frD (b : Nat) (i : Int) (u : Nat → Value) : Act := { tmps := #[.pointer (some ⟨b, 0, none⟩), u 1, .int .i64 i, u 3, u 4, u 5, u 6, u 7, u 8, u 9, u 10, u 11, u 12, u 13, u 14, u 15, u 16, u 17, u 18, u 19, u 20, u 21, u 22, u 23, u 24, u 25, u 26, u 27, u 28, u 29, u 30, u 31, u 32, u 33, u 34, u 35, u 36], defers := [] }
def FrD (b : Nat) (i : Int) (a : Act) : Prop := a = frD b i (fun k => a.tmps.getD k undef)
theorem ownsRow_below {w W : World} {base : Nat} {e : TypeId} {sz : Nat} {v : Value} {n : Nat} {xs : List Value} (h : w.ownsRow base e sz v n xs) (hb : Below w.heap.size w W) : W.ownsRow base e sz v n xs := by
  obtain ⟨hl, h⟩ := h
  refine ⟨hl, ?_⟩
  rcases h with h | ⟨g, cap, cur, rfl, hg, hc, h1, h2, h3, h4⟩
  · exact .inl h
  · exact .inr ⟨g, cap, cur, rfl, hg, (hb.block g (blk_lt hc)).trans hc, h1, h2, h3, h4⟩
theorem ownsRow_far {w : World} {base : Nat} {e : TypeId} {sz : Nat} {v : Value} {n : Nat} {xs : List Value} (h : w.ownsRow base e sz v n xs) {p : Addr} (hp : some p.block ≠ v.ownBlock) (u : Value) : (w.setCell p u).ownsRow base e sz v n xs := by
  obtain ⟨hl, h⟩ := h
  refine ⟨hl, ?_⟩
  rcases h with h | ⟨g, cap, cur, rfl, hg, hc, h1, h2, h3, h4⟩
  · exact .inl h
  · exact .inr ⟨g, cap, cur, rfl, hg, (Below.heap_setCell w p u g (fun e => hp (by simp [Value.ownBlock, e]))).trans hc, h1, h2, h3, h4⟩
theorem draw_round (Q : Exit → Act → World → Prop) (Z : Act → World → Prop) (hQ : ∀ ch a b w, Q (.panic ch) a w → Q (.panic ch) b w) (w₀ W : World) (b g : Nat) (f : Nat → Int) (d l q : Int) (rv : Value) (k : Nat) (hk : k < 3072) (a : Act) (hfr : FrD b ((2 * k : Nat) : Int) a)
    (h : Sh w₀ b g f d l q rv W) (ho : W.ownsRow w₀.heap.size 24 8 rv k (rowsOf f k)) (h1 : some b ≠ rv.ownBlock) (h2 : some g ≠ rv.ownBlock)
    (next : ∀ (a' : Act) (W' : World) (rv' : Value), FrD b ((2 * (k + 1) : Nat) : Int) a' → Sh w₀ b g f d l q rv' W' → W'.ownsRow w₀.heap.size 24 8 rv' (k + 1) (rowsOf f (k + 1)) → some b ≠ rv'.ownBlock → some g ≠ rv'.ownBlock → Z a' W') :
    drawBody.wp Try.prog (Exit.then Z Q) a W := by
  obtain ⟨u, hu⟩ : ∃ u : Nat → Value, a = frD b ((2 * k : Nat) : Int) u := ⟨_, hfr⟩
  clear hfr
  subst hu
  have NX := Aside0.mk next
  clear next
  have x4 := h.c4
  have HS := Aside0.mk h
  have HO := Aside0.mk (And.intro ho (And.intro h1 h2))
  clear h ho h1 h2
  obtain ⟨p, hp⟩ : ∃ p, 2 * k = p := ⟨_, rfl⟩
  obtain ⟨p', hp'⟩ : ∃ p', 2 * k + 1 = p' := ⟨_, rfl⟩
  have HP := Aside0.mk (And.intro hp hp')
  have g1 : decide ((p : Int) < 6144) = true := decide_eq_true (by omega)
  have g2 : (p : Int) < 6144 := by omega
  have g3 : (p' : Int) < 6144 := by omega
  have g4 : IntKind.i64.wrap ((p : Int) + 1) = (p' : Int) := by
    unfold IntKind.wrap
    simp [IntKind.bits, IntKind.signed]
    omega
  have g5 : (p : Int) + 1 = (p' : Int) := by omega
  have g6 : IntKind.i64.wrap (p' : Int) = (p' : Int) := by
    unfold IntKind.wrap
    simp [IntKind.bits, IntKind.signed]
    omega
  have gp : p < 6144 := by omega
  have gp' : p' < 6144 := by omega
  rw [hp]
  clear hp hp'
  simp only [frD, drawBody, codeSnd, codeFst, codeIn, Try.f32, Option.getD_some]
  go_wp2_with fail
  refine start_ (n := 26) (S := fun w' => Sh w₀ b g f d l q rv w') (ds := [25]) #[false, false, false, false, false, false, false, false, false, false, false, false, false, false, false, false, false, false, false, false, false, false, false, false, false, false] (by kernel_rfl) rfl rfl (HS.out.below (below_drew1 (Below.refl _ _))) (fun hHeld => ?_)
  generalize hW6 : W.drew = W6 at hHeld ⊢
  refine pure_ (i := 0) (N := some 12) (v := ?_) (a' := ?_) #[true, false, false, false, false, false, false, false, false, false, false, false, false, false, false, false, false, false, false, false, false, false, false, false, false, false] rfl rfl (by kernel_rfl) (fun _ _ _ h => hQ _ _ _ _ h) (Or.inl ⟨by rfl, ?_⟩) ?_ ?_
  rotate_left
  · intro w'
    go_simp
    first | done | with_reducible rfl
  rotate_left
  · simp only [Act.put, List.setIfInBounds_toArray, List.set_cons_zero, List.set_cons_succ]
    rfl
  refine pure_ (i := 1) (N := some 13) (v := ?_) (a' := ?_) #[true, true, false, false, false, false, false, false, false, false, false, false, false, false, false, false, false, false, false, false, false, false, false, false, false, false] rfl rfl (by kernel_rfl) (fun _ _ _ h => hQ _ _ _ _ h) (Or.inl ⟨by rfl, ?_⟩) ?_ ?_
  rotate_left
  · intro w'
    go_simp
    first | done | with_reducible rfl
  rotate_left
  · simp only [Act.put, List.setIfInBounds_toArray, List.set_cons_zero, List.set_cons_succ]
    rfl
  refine pure_ (i := 2) (N := some 14) (v := ?_) (a' := ?_) #[true, true, true, false, false, false, false, false, false, false, false, false, false, false, false, false, false, false, false, false, false, false, false, false, false, false] rfl rfl (by kernel_rfl) (fun _ _ _ h => hQ _ _ _ _ h) (Or.inl ⟨by rfl, ?_⟩) ?_ ?_
  rotate_left
  · intro w'
    go_simp
    first | done | with_reducible rfl
  rotate_left
  · simp only [Act.put, List.setIfInBounds_toArray, List.set_cons_zero, List.set_cons_succ]
    rfl
  refine pure_ (i := 3) (N := some 15) (v := ?_) (a' := ?_) #[true, true, true, true, false, false, false, false, false, false, false, false, false, false, false, false, false, false, false, false, false, false, false, false, false, false] rfl rfl (by kernel_rfl) (fun _ _ _ h => hQ _ _ _ _ h) (Or.inl ⟨by rfl, ?_⟩) ?_ ?_
  rotate_left
  · intro w'
    go_simp
    first | done | with_reducible rfl
  rotate_left
  · simp only [Act.put, List.setIfInBounds_toArray, List.set_cons_zero, List.set_cons_succ]
    rfl
  refine take_ (i := 4) (N := some 16) (v := ?_) (a' := ?_) #[true, true, true, true, true, false, false, false, false, false, false, false, false, false, false, false, false, false, false, false, false, false, false, false, false, false] rfl rfl (by kernel_rfl) (fun _ _ _ h => hQ _ _ _ _ h) (Or.inl ⟨by rfl, ?_⟩) hHeld ?_ ?_
  rotate_left
  · intro w' hS
    have x4 := hS.c4
    have x5 := hS.c5
    have y0 := hS.bs p gp
    have y1 := hS.bs p' gp'
    clear hS
    go_simp
    first | done | with_reducible rfl
  rotate_left
  · simp only [Act.put, List.setIfInBounds_toArray, List.set_cons_zero, List.set_cons_succ]
    rfl
  refine pure_ (i := 5) (N := some 17) (v := ?_) (a' := ?_) #[true, true, true, true, true, true, false, false, false, false, false, false, false, false, false, false, false, false, false, false, false, false, false, false, false, false] rfl rfl (by kernel_rfl) (fun _ _ _ h => hQ _ _ _ _ h) (Or.inl ⟨by rfl, ?_⟩) ?_ ?_
  rotate_left
  · intro w'
    go_simp
    first | done | with_reducible rfl
  rotate_left
  · simp only [Act.put, List.setIfInBounds_toArray, List.set_cons_zero, List.set_cons_succ]
    rfl
  refine pure_ (i := 6) (N := some 18) (v := ?_) (a' := ?_) #[true, true, true, true, true, true, true, false, false, false, false, false, false, false, false, false, false, false, false, false, false, false, false, false, false, false] rfl rfl (by kernel_rfl) (fun _ _ _ h => hQ _ _ _ _ h) (Or.inl ⟨by rfl, ?_⟩) ?_ ?_
  rotate_left
  · intro w'
    go_simp
    first | done | with_reducible rfl
  rotate_left
  · simp only [Act.put, List.setIfInBounds_toArray, List.set_cons_zero, List.set_cons_succ]
    rfl
  refine pure_ (i := 7) (N := some 19) (v := ?_) (a' := ?_) #[true, true, true, true, true, true, true, true, false, false, false, false, false, false, false, false, false, false, false, false, false, false, false, false, false, false] rfl rfl (by kernel_rfl) (fun _ _ _ h => hQ _ _ _ _ h) (Or.inl ⟨by rfl, ?_⟩) ?_ ?_
  rotate_left
  · intro w'
    go_simp
    first | done | with_reducible rfl
  rotate_left
  · simp only [Act.put, List.setIfInBounds_toArray, List.set_cons_zero, List.set_cons_succ]
    rfl
  refine take_ (i := 8) (N := some 20) (v := ?_) (a' := ?_) #[true, true, true, true, true, true, true, true, true, false, false, false, false, false, false, false, false, false, false, false, false, false, false, false, false, false] rfl rfl (by kernel_rfl) (fun _ _ _ h => hQ _ _ _ _ h) (Or.inl ⟨by rfl, ?_⟩) hHeld ?_ ?_
  rotate_left
  · intro w' hS
    have x4 := hS.c4
    have x5 := hS.c5
    have y0 := hS.bs p gp
    have y1 := hS.bs p' gp'
    clear hS
    go_simp
    first | done | with_reducible rfl
  rotate_left
  · simp only [Act.put, List.setIfInBounds_toArray, List.set_cons_zero, List.set_cons_succ]
    rfl
  refine pure_ (i := 9) (N := some 21) (v := ?_) (a' := ?_) #[true, true, true, true, true, true, true, true, true, true, false, false, false, false, false, false, false, false, false, false, false, false, false, false, false, false] rfl rfl (by kernel_rfl) (fun _ _ _ h => hQ _ _ _ _ h) (Or.inl ⟨by rfl, ?_⟩) ?_ ?_
  rotate_left
  · intro w'
    go_simp
    first | done | with_reducible rfl
  rotate_left
  · simp only [Act.put, List.setIfInBounds_toArray, List.set_cons_zero, List.set_cons_succ]
    rfl
  refine pure_ (i := 10) (N := some 22) (v := ?_) (a' := ?_) #[true, true, true, true, true, true, true, true, true, true, true, false, false, false, false, false, false, false, false, false, false, false, false, false, false, false] rfl rfl (by kernel_rfl) (fun _ _ _ h => hQ _ _ _ _ h) (Or.inl ⟨by rfl, ?_⟩) ?_ ?_
  rotate_left
  · intro w'
    go_simp
    first | done | with_reducible rfl
  rotate_left
  · simp only [Act.put, List.setIfInBounds_toArray, List.set_cons_zero, List.set_cons_succ]
    rfl
  refine take_ (i := 11) (N := some 23) (v := ?_) (a' := ?_) #[true, true, true, true, true, true, true, true, true, true, true, true, false, false, false, false, false, false, false, false, false, false, false, false, false, false] rfl rfl (by kernel_rfl) (fun _ _ _ h => hQ _ _ _ _ h) (Or.inl ⟨by rfl, ?_⟩) hHeld ?_ ?_
  rotate_left
  · intro w' hS
    have x4 := hS.c4
    have x5 := hS.c5
    have y0 := hS.bs p gp
    have y1 := hS.bs p' gp'
    clear hS
    go_simp
    first | done | with_reducible rfl
  rotate_left
  · simp only [Act.put, List.setIfInBounds_toArray, List.set_cons_zero, List.set_cons_succ]
    rfl
  refine pure_ (i := 12) (N := some 24) (v := ?_) (a' := ?_) #[true, true, true, true, true, true, true, true, true, true, true, true, true, false, false, false, false, false, false, false, false, false, false, false, false, false] rfl rfl (by kernel_rfl) (fun _ _ _ h => hQ _ _ _ _ h) (Or.inl ⟨by rfl, ?_⟩) ?_ ?_
  rotate_left
  · intro w'
    go_simp
    first | done | with_reducible rfl
  rotate_left
  · simp only [Act.put, List.setIfInBounds_toArray, List.set_cons_zero, List.set_cons_succ]
    rfl
  refine pure_ (i := 13) (N := some 25) (v := ?_) (a' := ?_) #[true, true, true, true, true, true, true, true, true, true, true, true, true, true, false, false, false, false, false, false, false, false, false, false, false, false] rfl rfl (by kernel_rfl) (fun _ _ _ h => hQ _ _ _ _ h) (Or.inl ⟨by rfl, ?_⟩) ?_ ?_
  rotate_left
  · intro w'
    go_simp
    first | done | with_reducible rfl
  rotate_left
  · simp only [Act.put, List.setIfInBounds_toArray, List.set_cons_zero, List.set_cons_succ]
    rfl
  refine pure_ (i := 14) (N := some 26) (v := ?_) (a' := ?_) #[true, true, true, true, true, true, true, true, true, true, true, true, true, true, true, false, false, false, false, false, false, false, false, false, false, false] rfl rfl (by kernel_rfl) (fun _ _ _ h => hQ _ _ _ _ h) (Or.inl ⟨by rfl, ?_⟩) ?_ ?_
  rotate_left
  · intro w'
    go_simp
    first | done | with_reducible rfl
  rotate_left
  · simp only [Act.put, List.setIfInBounds_toArray, List.set_cons_zero, List.set_cons_succ]
    rfl
  refine take_ (i := 15) (N := some 27) (v := ?_) (a' := ?_) #[true, true, true, true, true, true, true, true, true, true, true, true, true, true, true, true, false, false, false, false, false, false, false, false, false, false] rfl rfl (by kernel_rfl) (fun _ _ _ h => hQ _ _ _ _ h) (Or.inl ⟨by rfl, ?_⟩) hHeld ?_ ?_
  rotate_left
  · intro w' hS
    have x4 := hS.c4
    have x5 := hS.c5
    have y0 := hS.bs p gp
    have y1 := hS.bs p' gp'
    clear hS
    go_simp
    first | done | with_reducible rfl
  rotate_left
  · simp only [Act.put, List.setIfInBounds_toArray, List.set_cons_zero, List.set_cons_succ]
    rfl
  refine pure_ (i := 16) (N := some 28) (v := ?_) (a' := ?_) #[true, true, true, true, true, true, true, true, true, true, true, true, true, true, true, true, true, false, false, false, false, false, false, false, false, false] rfl rfl (by kernel_rfl) (fun _ _ _ h => hQ _ _ _ _ h) (Or.inl ⟨by rfl, ?_⟩) ?_ ?_
  rotate_left
  · intro w'
    go_simp
    first | done | with_reducible rfl
  rotate_left
  · simp only [Act.put, List.setIfInBounds_toArray, List.set_cons_zero, List.set_cons_succ]
    rfl
  refine pure_ (i := 17) (N := some 29) (v := (.int .i64 (p' : Int))) (a' := ?_) #[true, true, true, true, true, true, true, true, true, true, true, true, true, true, true, true, true, true, false, false, false, false, false, false, false, false] rfl rfl (by kernel_rfl) (fun _ _ _ h => hQ _ _ _ _ h) (Or.inl ⟨by rfl, ?_⟩) ?_ ?_
  · intro w'
    go_simp
    try simp only [g4, g5, g6]
  rotate_left
  · simp only [Act.put, List.setIfInBounds_toArray, List.set_cons_zero, List.set_cons_succ]
    rfl
  refine pure_ (i := 18) (N := some 30) (v := ?_) (a' := ?_) #[true, true, true, true, true, true, true, true, true, true, true, true, true, true, true, true, true, true, true, false, false, false, false, false, false, false] rfl rfl (by kernel_rfl) (fun _ _ _ h => hQ _ _ _ _ h) (Or.inl ⟨by rfl, ?_⟩) ?_ ?_
  rotate_left
  · intro w'
    go_simp
    first | done | with_reducible rfl
  rotate_left
  · simp only [Act.put, List.setIfInBounds_toArray, List.set_cons_zero, List.set_cons_succ]
    rfl
  refine take_ (i := 19) (N := some 31) (v := ?_) (a' := ?_) #[true, true, true, true, true, true, true, true, true, true, true, true, true, true, true, true, true, true, true, true, false, false, false, false, false, false] rfl rfl (by kernel_rfl) (fun _ _ _ h => hQ _ _ _ _ h) (Or.inl ⟨by rfl, ?_⟩) hHeld ?_ ?_
  rotate_left
  · intro w' hS
    have x4 := hS.c4
    have x5 := hS.c5
    have y0 := hS.bs p gp
    have y1 := hS.bs p' gp'
    clear hS
    go_simp
    first | done | with_reducible rfl
  rotate_left
  · simp only [Act.put, List.setIfInBounds_toArray, List.set_cons_zero, List.set_cons_succ]
    rfl
  refine one_ (i := 20) (N := some 32) #[true, true, true, true, true, true, true, true, true, true, true, true, true, true, true, true, true, true, true, true, true, false, false, false, false, false] rfl rfl (by kernel_rfl) (by decide) (fun K hK => ?_)
  refine goes_ Try.func13 (by kernel_rfl) rfl #[.int .u8 (f p), .int .u8 (f p')] (by rfl) rfl rfl (by (try simp only [List.map_toArray, List.map_cons, List.map_nil]); first | done | rfl) ?_
  refine (row_calls _ _ _).mono ?_
  rintro e w' ⟨rfl, hb⟩
  refine ⟨_, rfl, ?_⟩
  have hN := hHeld.below hb
  refine hK.out _ _ hN (fun hHeld => ?_)
  clear hK K hN
  refine norm_ (a' := ?_) ?_ ?_
  rotate_left
  · show Act.put _ (some 32) _ = _
    simp only [Act.put, List.setIfInBounds_toArray, List.set_cons_zero, List.set_cons_succ]
    rfl
  have hO2 := ownsRow_below HO.out.1 ((by rw [← hW6]; exact below_drew1 (Below.refl _ _) : Below W.heap.size W W6))
  refine one_ (i := 21) (N := some 33) #[true, true, true, true, true, true, true, true, true, true, true, true, true, true, true, true, true, true, true, true, true, true, false, false, false, false] rfl rfl (by kernel_rfl) (by decide) (fun K hK => ?_)
  refine event_step (w1 := w'.alloc (.cells (rowCells (f p) (f p')).toArray 24)) (v := .slice (some ⟨w'.heap.size, 0, none⟩) 1 1) (by rfl) (by first | (go_simp; done) | (go_simp; rfl)) ?_
  have hN := hHeld.below (below_alloc (Below.refl _ _) (.cells (rowCells (f p) (f p')).toArray 24))
  refine hK.out _ _ hN (fun hHeld2 => ?_)
  clear hK K hN
  refine norm_ (a' := ?_) ?_ ?_
  rotate_left
  · show Act.put _ (some 33) _ = _
    simp only [Act.put, List.setIfInBounds_toArray, List.set_cons_zero, List.set_cons_succ]
    rfl
  refine one_ (i := 22) (N := some 34) #[true, true, true, true, true, true, true, true, true, true, true, true, true, true, true, true, true, true, true, true, true, true, true, false, false, false] rfl rfl (by kernel_rfl) (by decide) (fun K hK => ?_)
  refine step_append_cells w₀.heap.size (by rfl) (.tmp 16) (.tmp 33) 60 24 (.agg #[.int .u8 0, .int .u8 0, .int .u8 0, .int .u8 0, .int .u8 0, .int .u8 0, .int .u8 0, .int .u8 0]) 8 8 rfl Try.underlying60 (by kernel_rfl) rfl (by decide) (by decide) rv k (rowsOf f k) (rowCells (f p) (f p')) rfl rfl rfl (by intro u hu; simp [rowCells] at hu; rcases hu with rfl | rfl | rfl | rfl | rfl | rfl | rfl | rfl <;> rfl) (ownsRow_below hO2 hb) (Below.refl _ _) hHeld.hB.size (by omega) ?_
  intro v1 w1 ho1 hb1 hg1 hat1
  have hN := hHeld.grown hg1 HO.out.2.1 HO.out.2.2 (hHeld.hB.grown hg1 (own_base HO.out.1))
  have hb_ : some b ≠ v1.ownBlock := by
    rcases hat1 with e | ⟨c, e, hc⟩
    · rw [e]; exact HO.out.2.1
    · rw [e]; intro e2; injection e2 with e2; have := hHeld.lb; omega
  have hg_ : some g ≠ v1.ownBlock := by
    rcases hat1 with e | ⟨c, e, hc⟩
    · rw [e]; exact HO.out.2.2
    · rw [e]; intro e2; injection e2 with e2; have := hHeld.lg; omega
  have ho1' := ho1
  obtain ⟨_, hor⟩ := ho1'
  rcases hor with ⟨_, h0⟩ | ⟨g', cap, cur, rfl, _⟩
  · omega
  have HN := Aside0.mk (And.intro ho1 (And.intro hb_ hg_))
  clear ho1 hb_ hg_ hHeld2 hHeld hO2 hb hb1 hg1 hat1
  refine hK.out _ _ hN (fun hHeld => ?_)
  clear hK K hN
  refine norm_ (a' := ?_) ?_ ?_
  rotate_left
  · show Act.put _ (some 34) _ = _
    simp only [Act.put, List.setIfInBounds_toArray, List.set_cons_zero, List.set_cons_succ]
    rfl
  refine pure_ (i := 23) (N := some 35) (v := ?_) (a' := ?_) #[true, true, true, true, true, true, true, true, true, true, true, true, true, true, true, true, true, true, true, true, true, true, true, true, false, false] rfl rfl (by kernel_rfl) (fun _ _ _ h => hQ _ _ _ _ h) (Or.inl ⟨by rfl, ?_⟩) ?_ ?_
  rotate_left
  · intro w'
    go_simp
    first | done | with_reducible rfl
  rotate_left
  · simp only [Act.put, List.setIfInBounds_toArray, List.set_cons_zero, List.set_cons_succ]
    rfl
  refine pure_ (i := 24) (N := some 36) (v := ?_) (a' := ?_) #[true, true, true, true, true, true, true, true, true, true, true, true, true, true, true, true, true, true, true, true, true, true, true, true, true, false] rfl rfl (by kernel_rfl) (fun _ _ _ h => hQ _ _ _ _ h) (Or.inl ⟨by rfl, ?_⟩) ?_ ?_
  rotate_left
  · intro w'
    go_simp
    first | done | with_reducible rfl
  rotate_left
  · simp only [Act.put, List.setIfInBounds_toArray, List.set_cons_zero, List.set_cons_succ]
    rfl
  have x5 := hHeld.c5
  have xf := hHeld.fz
  refine last_ (i := 25) (N := none) #[true, true, true, true, true, true, true, true, true, true, true, true, true, true, true, true, true, true, true, true, true, true, true, true, true, true] rfl rfl (by kernel_rfl) (by decide) (fun K hK => ?_)
  refine skip_ (w1 := w1.setCell ⟨b, 5, none⟩ (.slice (some ⟨g', 0, none⟩) (k + 1) cap)) (by rfl) rfl (by first | (go_simp; done) | (go_simp; rfl)) ?_
  refine hK.out _ _ ?_
  clear hK K
  refine done_ (by kernel_rfl) ?_
  clear x5 xf
  have HH := Aside0.mk hHeld
  clear hHeld
  have g7 : IntKind.i64.wrap ((p : Int) + 2) = (p : Int) + 2 := by
    unfold IntKind.wrap
    simp [IntKind.bits, IntKind.signed]
    omega
  go_wp2
  have e2 : ((2 * (k + 1) : Nat) : Int) = (p : Int) + 2 := by have := HP.out.1; omega
  refine NX.out _ _ (.slice (some ⟨g', 0, none⟩) (k + 1) cap) (by rw [e2]; rfl) (HH.out.rows _) ?_ HN.out.2.1 HN.out.2.2
  rw [rowsOf_succ, HP.out.2, HP.out.1]
  exact ownsRow_far HN.out.1 (p := ⟨b, 5, none⟩) HN.out.2.1 _
theorem draw_end (Q : Exit → Act → World → Prop) (Z : Act → World → Prop) (w₀ W : World) (b g : Nat) (f : Nat → Int) (d l q : Int) (rv : Value) (k : Nat) (hk : k = 3072) (a : Act) (hfr : FrD b ((2 * k : Nat) : Int) a)
    (h : Sh w₀ b g f d l q rv W) (next : ∀ a', a'.defers = [] → Q (.exit 0) a' W) : drawBody.wp Try.prog (Exit.then Z Q) a W := by
  subst hk
  obtain ⟨u, hu⟩ : ∃ u : Nat → Value, a = frD b ((2 * 3072 : Nat) : Int) u := ⟨_, hfr⟩
  clear hfr
  subst hu
  have NX := Aside0.mk next
  clear next
  have x4 := h.c4
  clear h
  simp only [frD, drawBody, codeSnd, codeFst, codeIn, Try.f32, Option.getD_some]
  go_wp2
  exact NX.out _ rfl
theorem draw_rounds (Q : Exit → Act → World → Prop) (hQ : ∀ ch a b w, Q (.panic ch) a w → Q (.panic ch) b w) (w₀ : World) (b g : Nat) (f : Nat → Int) (d l q : Int)
    (next : ∀ (a' : Act) (W' : World) (rv' : Value), a'.defers = [] → Sh w₀ b g f d l q rv' W' → W'.ownsRow w₀.heap.size 24 8 rv' 3072 (rowsOf f 3072) → some b ≠ rv'.ownBlock → some g ≠ rv'.ownBlock → Q (.exit 0) a' W') :
    ∀ (n k : Nat) (a : Act) (W : World) (rv : Value), k + n = 3072 → FrD b ((2 * k : Nat) : Int) a → Sh w₀ b g f d l q rv W → W.ownsRow w₀.heap.size 24 8 rv k (rowsOf f k) → some b ≠ rv.ownBlock → some g ≠ rv.ownBlock → Code.rounds Try.prog drawBody Q (n + 1) a W := by
  intro n
  induction n with
  | zero =>
    intro k a W rv hn hfr h ho h1 h2
    rw [rounds_succ]
    have hk : k = 3072 := by omega
    refine draw_end Q _ w₀ W b g f d l q rv k hk a hfr h (fun a' hd => ?_)
    subst hk
    exact next a' W rv hd h ho h1 h2
  | succ n ih =>
    intro k a W rv hn hfr h ho h1 h2
    rw [rounds_succ]
    exact draw_round Q _ hQ w₀ W b g f d l q rv k (by omega) a hfr h ho h1 h2 (fun a' W' rv' hf hs ho' h1' h2' => ih (k + 1) a' W' rv' (by omega) hf hs ho' h1' h2')
def QE (P : Act → World → Prop) : Exit → Act → World → Prop
  | .exit id, a, w => id = 0 ∧ P a w
  | _, _, _ => False
theorem draw_calls (w₀ W : World) (b g : Nat) (f : Nat → Int) (d l q : Int) (h : Sh w₀ b g f d l q (.slice none 0 0) W) :
    Calls Try.prog 32 #[.pointer (some ⟨b, 0, none⟩)] W fun e w' => e = .returned (.tuple #[]) ∧ ∃ rv', Sh w₀ b g f d l q rv' w' ∧ w'.ownsRow w₀.heap.size 24 8 rv' 3072 (rowsOf f 3072) ∧ some b ≠ rv'.ownBlock ∧ some g ≠ rv'.ownBlock := by
  have HS := Aside0.mk h
  clear h
  go_enter Try.func32, Try.ntmps32
  go_wp2_with fail
  refine wp_mono (Q := QE (fun a w' => a.defers = [] ∧ ∃ rv', Sh w₀ b g f d l q rv' w' ∧ w'.ownsRow w₀.heap.size 24 8 rv' 3072 (rowsOf f 3072) ∧ some b ≠ rv'.ownBlock ∧ some g ≠ rv'.ownBlock)) ?_ ?_
  · refine wp_loop_rounds 3073 ?_
    exact draw_rounds _ (fun _ _ _ _ h => h.elim) w₀ b g f d l q (fun a' W' rv' hd hs ho h1 h2 => ⟨rfl, hd, rv', hs, ho, h1, h2⟩) 3072 0 _ _ (.slice none 0 0) (by omega) (by rfl) HS.out ⟨by rfl, .inl ⟨rfl, rfl⟩⟩ (by simp [Value.ownBlock]) (by simp [Value.ownBlock])
  intro e a' W' hq
  obtain ⟨rfl, hd, hr⟩ : e = .exit 0 ∧ a'.defers = [] ∧ ∃ rv', Sh w₀ b g f d l q rv' W' ∧ W'.ownsRow w₀.heap.size 24 8 rv' 3072 (rowsOf f 3072) ∧ some b ≠ rv'.ownBlock ∧ some g ≠ rv'.ownBlock := by
    cases e with
    | exit id => exact ⟨by rw [hq.1], hq.2⟩
    | _ => exact hq.elim
  have HR := Aside0.mk hr
  have HD := Aside0.mk hd
  clear hq hr hd
  go_wp2
  exact ⟨HD.out, .tuple #[], results_none rfl _ _ _, rfl, HR.out⟩
end Go.Proofs.Ytmigbinllnejoaa.P
