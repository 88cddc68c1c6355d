/- tiles.NewSheet: its loop. No condition but the hypotheses that stand in each. -/
import Derived.Test.YtmigbinllnejoaaNew
namespace Go.Proofs.Ytmigbinllnejoaa.P
open Go.RowKit Go.Proofs.YtmigbinllnejoaaW.PrintWords Go.Proofs.YtmigbinllnejoaaW.PrintLast Go.Proofs.YtmigbinllnejoaaW.PrintMore
set_option linter.unusedVariables false
set_option linter.unusedSimpArgs false
set_option maxHeartbeats 4000000
set_option maxRecDepth 100000
noncomputable def newBody : Code := codeIn (codeIn (codeSnd (codeFst (codeSnd (codeSnd (Try.f23.body.getD .skip))))))
def frN (L : Value) (b : Nat) (i : Int) (u : Nat → Value) : Act := { tmps := #[L, u 1, u 2, .pointer (some ⟨b, 0, none⟩), u 4, u 5, u 6, u 7, u 8, u 9, u 10, u 11, .int .i64 6144, .int .i64 i, u 14, u 15, u 16, u 17, u 18, u 19, u 20, u 21, u 22, u 23, u 24, u 25, u 26], defers := [] }
def FrN (L : Value) (b : Nat) (i : Int) (a : Act) : Prop := a = frN L b i (fun k => a.tmps.getD k undef)
theorem new_round (Q : Exit → Act → World → Prop) (Z : Act → World → Prop) (hQ : ∀ ch a b w, Q (.panic ch) a w → Q (.panic ch) b w) (w₀ W : World) (b g : Nat) (A0 : Option Addr) (c0 : Nat) (l : List Int) (hc0 : l.length ≤ c0) (hC : ∀ W', Below w₀.heap.size w₀ W' → Kd.C (Kd.int .u8) W' A0 l.length l)
    (kb : w₀.heap.size ≤ b) (hg : w₀.heap.size ≤ g) (k : Nat) (hk : k < 6144) (a : Act) (hfr : FrN (.slice A0 l.length c0) b (k : Int) a) (h : Sh w₀ b g (laid l k) 0 0 0 (.slice none 0 0) W)
    (next : ∀ (a' : Act) (W' : World), FrN (.slice A0 l.length c0) b ((k + 1 : Nat) : Int) a' → Sh w₀ b g (laid l (k + 1)) 0 0 0 (.slice none 0 0) W' → Z a' W') :
    newBody.wp Try.prog (Exit.then Z Q) a W := by
  obtain ⟨u, hu⟩ : ∃ u : Nat → Value, a = frN (.slice A0 l.length c0) b (k : Int) u := ⟨_, hfr⟩
  clear hfr
  subst hu
  have NX := Aside0.mk next
  clear next
  have HS := Aside0.mk h
  have HC := Aside0.mk hC
  clear h hC
  have g1 : decide ((k : Int) < 6144) = true := decide_eq_true (by omega)
  have g2 : (k : Int) < 6144 := by omega
  simp only [frN, newBody, codeSnd, codeFst, codeIn, Try.f23, Option.getD_some]
  go_wp2_with fail
  refine start_ (n := 10) (S := fun w' => Sh w₀ b g (laid l k) 0 0 0 (.slice none 0 0) w') (ds := [9]) #[false, false, false, false, false, false, false, false, false, false] (by kernel_rfl) rfl rfl (HS.out.below (below_drew1 (Below.refl _ _))) (fun hHeld => ?_)
  generalize hW6 : W.drew = W6 at hHeld ⊢
  refine pure_ (i := 0) (N := some 16) (v := ?_) (a' := ?_) #[true, false, false, false, false, false, false, false, false, false] rfl rfl (by kernel_rfl) (fun _ _ _ h => hQ _ _ _ _ h) (Or.inl ⟨by rfl, ?_⟩) ?_ ?_
  rotate_left
  · intro w'
    go_simp
    first | done | with_reducible rfl
  rotate_left
  · simp only [Act.put, List.setIfInBounds_toArray, List.set_cons_zero, List.set_cons_succ]
    rfl
  refine pure_ (i := 1) (N := some 17) (v := ?_) (a' := ?_) #[true, true, false, false, false, false, false, false, false, false] rfl rfl (by kernel_rfl) (fun _ _ _ h => hQ _ _ _ _ h) (Or.inl ⟨by rfl, ?_⟩) ?_ ?_
  rotate_left
  · intro w'
    go_simp
    first | done | with_reducible rfl
  rotate_left
  · simp only [Act.put, List.setIfInBounds_toArray, List.set_cons_zero, List.set_cons_succ]
    rfl
  refine pure_ (i := 2) (N := some 18) (v := ?_) (a' := ?_) #[true, true, true, false, false, false, false, false, false, false] rfl rfl (by kernel_rfl) (fun _ _ _ h => hQ _ _ _ _ h) (Or.inl ⟨by rfl, ?_⟩) ?_ ?_
  rotate_left
  · intro w'
    go_simp
    first | done | with_reducible rfl
  rotate_left
  · simp only [Act.put, List.setIfInBounds_toArray, List.set_cons_zero, List.set_cons_succ]
    rfl
  refine take_ (i := 3) (N := some 19) (v := ?_) (a' := ?_) #[true, true, true, true, false, false, false, false, false, false] rfl rfl (by kernel_rfl) (fun _ _ _ h => hQ _ _ _ _ h) (Or.inl ⟨by rfl, ?_⟩) hHeld ?_ ?_
  rotate_left
  · intro w' hS
    have x4 := hS.c4
    clear hS
    go_simp
    first | done | with_reducible rfl
  rotate_left
  · simp only [Act.put, List.setIfInBounds_toArray, List.set_cons_zero, List.set_cons_succ]
    rfl
  refine pure_ (i := 4) (N := some 20) (v := ?_) (a' := ?_) #[true, true, true, true, true, false, false, false, false, false] rfl rfl (by kernel_rfl) (fun _ _ _ h => hQ _ _ _ _ h) (Or.inl ⟨by rfl, ?_⟩) ?_ ?_
  rotate_left
  · intro w'
    go_simp
    first | done | with_reducible rfl
  rotate_left
  · simp only [Act.put, List.setIfInBounds_toArray, List.set_cons_zero, List.set_cons_succ]
    rfl
  refine pure_ (i := 5) (N := some 21) (v := ?_) (a' := ?_) #[true, true, true, true, true, true, false, false, false, false] rfl rfl (by kernel_rfl) (fun _ _ _ h => hQ _ _ _ _ h) (Or.inl ⟨by rfl, ?_⟩) ?_ ?_
  rotate_left
  · intro w'
    go_simp
    first | done | with_reducible rfl
  rotate_left
  · simp only [Act.put, List.setIfInBounds_toArray, List.set_cons_zero, List.set_cons_succ]
    rfl
  refine pure_ (i := 6) (N := some 22) (v := ?_) (a' := ?_) #[true, true, true, true, true, true, true, false, false, false] rfl rfl (by kernel_rfl) (fun _ _ _ h => hQ _ _ _ _ h) (Or.inl ⟨by rfl, ?_⟩) ?_ ?_
  rotate_left
  · intro w'
    go_simp
    first | done | with_reducible rfl
  rotate_left
  · simp only [Act.put, List.setIfInBounds_toArray, List.set_cons_zero, List.set_cons_succ]
    rfl
  refine one_ (i := 7) (N := some 23) #[true, true, true, true, true, true, true, true, false, false] rfl rfl (by kernel_rfl) (by decide) (fun K hK => ?_)
  refine goes_ Try.func21 (by kernel_rfl) rfl #[.slice A0 l.length c0, .int .i64 (k : Int)] (by rfl) rfl rfl (by (try simp only [List.map_toArray, List.map_cons, List.map_nil]); first | done | rfl) ?_
  refine (tiles_At.calls A0 c0 l (k : Int) (byteOf l k) _ (HC.out _ (hHeld.hB.to kb)) hc0 (at_byte l k)).mono ?_
  rintro e w' ⟨rfl, ⟨nd, rfl⟩⟩
  refine ⟨_, rfl, ?_⟩
  have hN := hHeld.below (pw_below_drewN (Below.refl _ _) nd)
  clear hHeld
  refine hK.out _ _ hN (fun hHeld => ?_)
  clear hK K hN
  refine norm_ (a' := ?_) ?_ ?_
  rotate_left
  · show Act.put _ (some 23) _ = _
    simp only [Act.put, List.setIfInBounds_toArray, List.set_cons_zero, List.set_cons_succ]
    rfl
  refine pure_ (i := 8) (N := some 24) (v := ?_) (a' := ?_) #[true, true, true, true, true, true, true, true, true, false] rfl rfl (by kernel_rfl) (fun _ _ _ h => hQ _ _ _ _ h) (Or.inl ⟨by rfl, ?_⟩) ?_ ?_
  rotate_left
  · intro w'
    go_simp
    first | done | with_reducible rfl
  rotate_left
  · simp only [Act.put, List.setIfInBounds_toArray, List.set_cons_zero, List.set_cons_succ]
    rfl
  generalize hW7 : World.drewN W6 nd = W7 at hHeld ⊢
  have y0 := hHeld.bs k hk
  have yf : W7.frozen? ⟨g, k, none⟩ = false := hHeld.fg k
  refine last_ (i := 9) (N := none) #[true, true, true, true, true, true, true, true, true, true] rfl rfl (by kernel_rfl) (by decide) (fun K hK => ?_)
  refine skip_ (w1 := W7.setCell ⟨g, k, none⟩ (.int .u8 (byteOf l k))) (by rfl) rfl (by first | (go_simp; done) | (go_simp; rfl)) ?_
  refine hK.out _ _ ?_
  clear hK K
  refine done_ (by kernel_rfl) ?_
  clear y0 yf
  have HH := Aside0.mk hHeld
  clear hHeld
  have g7 : IntKind.i64.wrap ((k : Int) + 1) = (k : Int) + 1 := by
    unfold IntKind.wrap
    simp [IntKind.bits, IntKind.signed]
    omega
  go_wp2
  refine NX.out _ _ (by rfl) (HH.out.byte hg)
theorem new_end (Q : Exit → Act → World → Prop) (Z : Act → World → Prop) (W : World) (b : Nat) (L : Value) (k : Nat) (hk : k = 6144) (a : Act) (hfr : FrN L b (k : Int) a)
    (next : ∀ a', FrN L b (k : Int) a' → Q (.exit 0) a' W) : newBody.wp Try.prog (Exit.then Z Q) a W := by
  subst hk
  obtain ⟨u, hu⟩ : ∃ u : Nat → Value, a = frN L b ((6144 : Nat) : Int) u := ⟨_, hfr⟩
  clear hfr
  subst hu
  have NX := Aside0.mk next
  clear next
  simp only [frN, newBody, codeSnd, codeFst, codeIn, Try.f23, Option.getD_some]
  go_wp2
  exact NX.out _ (by rfl)
theorem new_rounds (Q : Exit → Act → World → Prop) (hQ : ∀ ch a b w, Q (.panic ch) a w → Q (.panic ch) b w) (w₀ : World) (b g : Nat) (A0 : Option Addr) (c0 : Nat) (l : List Int) (hc0 : l.length ≤ c0) (hC : ∀ W', Below w₀.heap.size w₀ W' → Kd.C (Kd.int .u8) W' A0 l.length l)
    (kb : w₀.heap.size ≤ b) (hg : w₀.heap.size ≤ g) (next : ∀ (a' : Act) (W' : World), FrN (.slice A0 l.length c0) b ((6144 : Nat) : Int) a' → Sh w₀ b g (laid l 6144) 0 0 0 (.slice none 0 0) W' → Q (.exit 0) a' W') :
    ∀ (n k : Nat) (a : Act) (W : World), k + n = 6144 → FrN (.slice A0 l.length c0) b (k : Int) a → Sh w₀ b g (laid l k) 0 0 0 (.slice none 0 0) W → Code.rounds Try.prog newBody Q (n + 1) a W := by
  intro n
  induction n with
  | zero =>
    intro k a W hn hfr h
    rw [rounds_succ]
    have hk : k = 6144 := by omega
    subst hk
    exact new_end Q _ W b _ 6144 rfl a hfr (fun a' hu => next a' W hu h)
  | succ n ih =>
    intro k a W hn hfr h
    rw [rounds_succ]
    exact new_round Q _ hQ w₀ W b g A0 c0 l hc0 hC kb hg k (by omega) a hfr h (fun a' W' hf hs => ih (k + 1) a' W' (by omega) hf hs)
end Go.Proofs.Ytmigbinllnejoaa.P
