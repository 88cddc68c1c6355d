/- TilesSheet: the loop over the bytes that the sheet was made of. No condition but the hypotheses that stand in each. -/
import Derived.Test.YtmigbinllnejoaaLaw0
namespace Go.Proofs.Ytmigbinllnejoaa.P
open Go.RowKit Go.Proofs.YtmigbinllnejoaaW.PrintWords Go.Proofs.YtmigbinllnejoaaW.PrintLast Go.Proofs.YtmigbinllnejoaaW.PrintMore Go.Proofs.Ytmigbinllnejoaa.Plain
set_option linter.unusedVariables false
set_option linter.unusedSimpArgs false
set_option maxHeartbeats 8000000
set_option maxRecDepth 100000
noncomputable def ownBody : Code := codeIn (codeIn (codeSnd (codeFst (codeSnd (codeSnd (codeSnd (codeSnd (codeSnd (Try.f9.body.getD .skip)))))))))
noncomputable def askBody : Code := codeIn (codeIn (codeSnd (codeFst (codeSnd (codeSnd (codeSnd (codeSnd (codeSnd (codeSnd (Try.f9.body.getD .skip))))))))))
def fr7 (Vv L O : Value) (b : Nat) (i : Int) (u : Nat → Value) : Act := { tmps := #[Vv, L, u 2, u 3, .bool false, O, .pointer (some ⟨b, 0, none⟩), .int .i64 i, u 8, u 9, u 10, u 11, u 12, u 13, u 14, u 15, u 16, u 17, u 18, u 19, u 20, u 21, u 22, u 23, u 24, u 25, u 26, u 27, u 28, u 29, u 30, u 31, u 32, u 33, u 34, u 35, u 36, u 37, u 38, u 39, u 40, u 41, u 42, u 43, u 44, u 45, u 46, u 47, u 48, u 49, u 50, u 51, u 52, u 53, u 54, u 55, u 56, u 57, u 58, u 59, u 60, u 61, u 62, u 63, u 64, u 65, u 66, u 67, u 68, u 69, u 70, u 71, u 72, u 73, u 74, u 75, u 76, u 77, u 78, u 79, u 80, u 81, u 82, u 83, u 84, u 85, u 86, u 87, u 88, u 89, u 90, u 91, u 92, u 93, u 94, u 95, u 96, u 97, u 98, u 99, u 100, u 101], defers := [] }
def Fr7 (Vv L O : Value) (b : Nat) (i : Int) (a : Act) : Prop := a = fr7 Vv L O b i (fun k => a.tmps.getD k undef)
def fr8 (Vv L O : Value) (b : Nat) (i : Int) (u : Nat → Value) : Act := { tmps := #[Vv, L, u 2, u 3, .bool false, O, .pointer (some ⟨b, 0, none⟩), u 7, .int .i64 i, u 9, u 10, u 11, u 12, u 13, u 14, u 15, u 16, u 17, u 18, u 19, u 20, u 21, u 22, u 23, u 24, u 25, u 26, u 27, u 28, u 29, u 30, u 31, u 32, u 33, u 34, u 35, u 36, u 37, u 38, u 39, u 40, u 41, u 42, u 43, u 44, u 45, u 46, u 47, u 48, u 49, u 50, u 51, u 52, u 53, u 54, u 55, u 56, u 57, u 58, u 59, u 60, u 61, u 62, u 63, u 64, u 65, u 66, u 67, u 68, u 69, u 70, u 71, u 72, u 73, u 74, u 75, u 76, u 77, u 78, u 79, u 80, u 81, u 82, u 83, u 84, u 85, u 86, u 87, u 88, u 89, u 90, u 91, u 92, u 93, u 94, u 95, u 96, u 97, u 98, u 99, u 100, u 101], defers := [] }
def Fr8 (Vv L O : Value) (b : Nat) (i : Int) (a : Act) : Prop := a = fr8 Vv L O b i (fun k => a.tmps.getD k undef)
/-- The sheet, not yet drawn, beside the bytes. -/
def S1 (w₀ : World) (b g : Nat) (f : Nat → Int) (A : Option Addr) (n : Nat) (W : World) : Prop := Sh w₀ b g f 0 0 0 (.slice none 0 0) W ∧ Ow w₀ W b g A n
theorem own_round (Q : Exit → Act → World → Prop) (Z : Act → World → Prop) (w₀ W : World) (b g : Nat) (f : Nat → Int) (A : Option Addr) (n c : Nat) (Vv L : Value) (hn : n ≤ 140737488351232) (k : Nat) (hk : k < n) (a : Act) (hfr : Fr7 Vv L (.slice A n c) b (k : Int) a) (h : S1 w₀ b g f A n W)
    (next : ∀ (a' : Act) (W' : World), Fr7 Vv L (.slice A n c) b ((k + 1 : Nat) : Int) a' → S1 w₀ b g f A n W' → Z a' W') :
    ownBody.wp Try.prog (Exit.then Z Q) a W := by
  obtain ⟨u, hu⟩ : ∃ u : Nat → Value, a = fr7 Vv L (.slice A n c) b (k : Int) u := ⟨_, hfr⟩
  clear hfr
  subst hu
  have NX := Aside0.mk next
  clear next
  obtain ⟨o, rfl, h1, h2, h3, ⟨x, hx⟩, hf⟩ := h.2 k hk
  have HS := Aside0.mk (And.intro h (And.intro h1 (And.intro h2 h3)))
  clear h h1 h2 h3
  have g1 : decide ((k : Int) < (n : Int)) = true := decide_eq_true (by omega)
  have g2 : (0 : Int) ≤ (k : Int) := by omega
  have g3 : (k : Int) < (n : Int) := by omega
  have g7 : IntKind.i64.wrap ((k : Int) + 1) = (k : Int) + 1 := by
    unfold IntKind.wrap
    simp [IntKind.bits, IntKind.signed]
    omega
  simp only [fr7, ownBody, codeSnd, codeFst, codeIn, Try.f9, Option.getD_some]
  go_wp2
  refine NX.out _ _ (by rfl) ⟨HS.out.1.1.far HS.out.2.2.1 HS.out.2.2.2 HS.out.2.1 _, HS.out.1.2.set _ _ _⟩
theorem own_end (Q : Exit → Act → World → Prop) (Z : Act → World → Prop) (W : World) (b : Nat) (A : Option Addr) (n c : Nat) (Vv L : Value) (k : Nat) (hk : k = n) (a : Act) (hfr : Fr7 Vv L (.slice A n c) b (k : Int) a)
    (next : ∀ a', Fr7 Vv L (.slice A n c) b (k : Int) a' → Q (.exit 0) a' W) : ownBody.wp Try.prog (Exit.then Z Q) a W := by
  obtain ⟨u, hu⟩ : ∃ u : Nat → Value, a = fr7 Vv L (.slice A n c) b (k : Int) u := ⟨_, hfr⟩
  clear hfr
  subst hu
  have NX := Aside0.mk next
  clear next
  have g1 : decide ((k : Int) < (n : Int)) = false := decide_eq_false (by omega)
  have g1n : decide (k < n) = false := decide_eq_false (by omega)
  have g1m : ¬ k < n := by omega
  clear hk
  simp only [fr7, ownBody, codeSnd, codeFst, codeIn, Try.f9, Option.getD_some]
  go_wp2
  exact NX.out _ (by rfl)
theorem own_rounds (Q : Exit → Act → World → Prop) (w₀ : World) (b g : Nat) (f : Nat → Int) (A : Option Addr) (n c : Nat) (Vv L : Value) (hn : n ≤ 140737488351232)
    (next : ∀ (a' : Act) (W' : World), Fr7 Vv L (.slice A n c) b (n : Int) a' → S1 w₀ b g f A n W' → Q (.exit 0) a' W') :
    ∀ (d k : Nat) (a : Act) (W : World), k + d = n → Fr7 Vv L (.slice A n c) b (k : Int) a → S1 w₀ b g f A n W → Code.rounds Try.prog ownBody Q (d + 1) a W := by
  intro d
  induction d with
  | zero =>
    intro k a W hd hfr h
    rw [rounds_succ]
    have hk : k = n := by omega
    subst hk
    exact own_end Q _ W b A k c Vv L k rfl a hfr (fun a' hu => next a' W hu h)
  | succ d ih =>
    intro k a W hd hfr h
    rw [rounds_succ]
    exact own_round Q _ w₀ W b g f A n c Vv L hn k (by omega) a hfr h (fun a' W' hf hs => ih (k + 1) a' W' (by omega) hf hs)
end Go.Proofs.Ytmigbinllnejoaa.P
