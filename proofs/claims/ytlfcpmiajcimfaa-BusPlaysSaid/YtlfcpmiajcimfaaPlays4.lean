/- BusPlays: the round that compares: the two loops over the copies. No condition but the hypotheses that stand in each. -/
import Derived.Test.YtlfcpmiajcimfaaPlays2
namespace Go.Proofs.Ytlfcpmiajcimfaa.P
open Go.RowKit Go.Proofs.YtlfcpmiajcimfaaW.PrintWords Go.Proofs.YtlfcpmiajcimfaaW.PrintLast Go.Proofs.YtlfcpmiajcimfaaW.PrintMore Go.Proofs.Ytlfcpmiajcimfaa.Plain
set_option linter.unusedVariables false
set_option linter.unusedSimpArgs false
set_option maxHeartbeats 8000000
set_option maxRecDepth 100000
/-- Both memories, and two copies of bytes beside them. -/
structure Cx (w₀ : World) (bm bv bw br g1 g2 : Nat) (v0 v1 v2 v3 : Value) (m r : M4) (W : World) : Prop where
  s : St w₀ bm bv bw br v0 v1 v2 v3 v0 v1 v2 v3 m r W
  d1 : ∀ i, i < 8192 → ∃ x, W.cell? ⟨g1, i, none⟩ = some (.int .u8 x)
  d2 : ∀ i, i < 160 → ∃ x, W.cell? ⟨g2, i, none⟩ = some (.int .u8 x)
  f1 : ∀ i, W.frozen? ⟨g1, i, none⟩ = false
  f2 : ∀ i, W.frozen? ⟨g2, i, none⟩ = false
  a1 : Far bm bv bw br g1
  a2 : Far bm bv bw br g2
  o1 : ¬ Own v0 v1 v2 v3 g1
  o2 : ¬ Own v0 v1 v2 v3 g2
  k1 : w₀.heap.size ≤ g1
  k2 : w₀.heap.size ≤ g2
theorem some_set {W : World} {b i c j : Nat} {y : Int} (h : ∃ x, W.cell? ⟨b, i, none⟩ = some (.int .u8 x)) : ∃ x, (W.setCell ⟨c, j, none⟩ (.int .u8 y)).cell? ⟨b, i, none⟩ = some (.int .u8 x) := by
  obtain ⟨x, hx⟩ := h
  by_cases e : b = c ∧ i = j
  · exact ⟨y, by rw [cell_set hx, if_pos e]⟩
  · exact ⟨x, by rw [cell_set hx, if_neg e]⟩
theorem Cx.set1 {w₀ W : World} {bm bv bw br g1 g2 : Nat} {v0 v1 v2 v3 : Value} {m r : M4} (h : Cx w₀ bm bv bw br g1 g2 v0 v1 v2 v3 m r W) (k : Nat) (y : Int) : Cx w₀ bm bv bw br g1 g2 v0 v1 v2 v3 m r (W.setCell ⟨g1, k, none⟩ (.int .u8 y)) :=
  ⟨h.s.far h.a1 h.o1 h.k1 _, fun i hi => some_set (h.d1 i hi), fun i hi => some_set (h.d2 i hi), fun i => by rw [World.frozen?_setCell]; exact h.f1 i, fun i => by rw [World.frozen?_setCell]; exact h.f2 i, h.a1, h.a2, h.o1, h.o2, h.k1, h.k2⟩
theorem Cx.set2 {w₀ W : World} {bm bv bw br g1 g2 : Nat} {v0 v1 v2 v3 : Value} {m r : M4} (h : Cx w₀ bm bv bw br g1 g2 v0 v1 v2 v3 m r W) (k : Nat) (y : Int) : Cx w₀ bm bv bw br g1 g2 v0 v1 v2 v3 m r (W.setCell ⟨g2, k, none⟩ (.int .u8 y)) :=
  ⟨h.s.far h.a2 h.o2 h.k2 _, fun i hi => some_set (h.d1 i hi), fun i hi => some_set (h.d2 i hi), fun i => by rw [World.frozen?_setCell]; exact h.f1 i, fun i => by rw [World.frozen?_setCell]; exact h.f2 i, h.a1, h.a2, h.o1, h.o2, h.k1, h.k2⟩
/-- The arm that compares. -/
noncomputable def sameArm : Code := codeYes (codeSnd (codeNo (codeSnd (codeNo (codeSnd (codeNo (codeSnd (codeIn (codeSnd (codeSnd (codeIn (codeFst (codeSnd playsBody))))))))))))) 
noncomputable def loopV : Code := codeIn (codeSnd (codeFst (codeSnd (codeSnd (codeSnd sameArm)))))
noncomputable def loopO : Code := codeIn (codeSnd (codeSnd (codeSnd (codeSnd (codeSnd sameArm)))))
noncomputable def bodyV : Code := codeIn loopV
noncomputable def bodyO : Code := codeIn loopO
def frV (al : Addr) (n c i bm br g1 g2 : Nat) (k : Value) (u : Nat → Value) : Act := { tmps := #[.slice (some al) n c, u 1, u 2, u 3, .pointer (some ⟨bm, 0, none⟩), .pointer (some ⟨br, 0, none⟩), .int .i64 (i : Int), u 7, .slice (some ⟨g1, 0, none⟩) 8192 8192, .slice (some ⟨g2, 0, none⟩) 160 160, k, u 11, u 12, u 13, u 14, u 15, u 16, u 17, u 18, u 19, u 20, u 21, u 22, u 23, u 24, u 25, u 26, u 27, u 28, u 29, u 30, u 31, u 32, u 33, u 34, u 35, u 36, u 37, u 38, u 39, u 40, u 41, u 42, u 43, u 44, u 45, u 46, u 47, u 48, u 49, u 50, u 51, u 52, u 53, u 54, u 55, u 56, u 57, u 58, u 59, u 60, u 61, u 62, u 63, u 64, u 65, u 66, u 67, u 68, u 69, u 70, u 71, u 72, u 73, u 74, u 75, u 76, u 77, u 78, u 79, u 80, u 81, u 82, u 83, u 84, u 85, u 86, u 87, u 88, u 89, u 90, u 91, u 92, u 93, u 94, u 95, u 96, u 97, u 98, u 99, u 100, u 101, u 102, u 103, u 104, u 105, u 106, u 107, u 108, u 109, u 110, u 111, u 112, u 113, u 114, u 115, u 116, u 117, u 118, u 119, u 120, u 121, u 122, u 123, u 124, u 125, u 126, u 127, u 128, u 129, u 130, u 131, u 132, u 133, u 134, u 135, u 136, u 137], defers := [] }
def FrV (al : Addr) (n c i bm br g1 g2 : Nat) (k : Value) (a : Act) : Prop := a = frV al n c i bm br g1 g2 k (fun k => a.tmps.getD k undef)
theorem roundV (Q : Exit → Act → World → Prop) (w₀ : World) (al : Addr) (n c i bm bv bw br g1 g2 : Nat) (v0 v1 v2 v3 : Value) (m r : M4) (Z : Act → World → Prop) (k : Nat) (hk : k < 8192) (a : Act) (W : World) (hfr : FrV al n c i bm br g1 g2 (.int .i64 (k : Int)) a) (h : Cx w₀ bm bv bw br g1 g2 v0 v1 v2 v3 m r W)
    (next : ∀ (a' : Act) (W' : World), FrV al n c i bm br g1 g2 (.int .i64 ((k + 1 : Nat) : Int)) a' → Cx w₀ bm bv bw br g1 g2 v0 v1 v2 v3 m r W' → Z a' W') : bodyV.wp Try.prog (Exit.then Z Q) a W := by
  obtain ⟨u, hu⟩ : ∃ u : Nat → Value, a = frV al n c i bm br g1 g2 (.int .i64 (k : Int)) u := ⟨_, hfr⟩
  clear hfr
  subst hu
  have NX := Aside0.mk next
  clear next
  obtain ⟨x, hx⟩ := h.d1 k hk
  have hf := h.f1 k
  have HC := Aside0.mk h
  clear h
  have g1_ : decide ((k : Int) < 8192) = true := decide_eq_true (by omega)
  have g2_ : (0 : Int) ≤ (k : Int) := by omega
  have g3_ : (k : Int) < 8192 := by omega
  simp only [frV, bodyV, bodyO, loopV, loopO, sameArm, playsBody, codeSnd, codeFst, codeIn, codeYes, codeNo, Try.f8, Option.getD_some]
  go_wp2
  exact NX.out _ _ (by rfl) (HC.out.set1 k _)
theorem endV (Q : Exit → Act → World → Prop) (w₀ : World) (al : Addr) (n c i bm bv bw br g1 g2 : Nat) (v0 v1 v2 v3 : Value) (m r : M4) (Z : Act → World → Prop) (k : Nat) (hk : k = 8192) (a : Act) (W : World) (hfr : FrV al n c i bm br g1 g2 (.int .i64 (k : Int)) a)
    (next : ∀ (a' : Act), FrV al n c i bm br g1 g2 (.int .i64 (k : Int)) a' → Q (.exit 3) a' W) : bodyV.wp Try.prog (Exit.then Z Q) a W := by
  obtain ⟨u, hu⟩ : ∃ u : Nat → Value, a = frV al n c i bm br g1 g2 (.int .i64 (k : Int)) u := ⟨_, hfr⟩
  clear hfr
  subst hu
  have NX := Aside0.mk next
  clear next
  have g1_ : decide ((k : Int) < 8192) = false := decide_eq_false (by omega)
  simp only [frV, bodyV, bodyO, loopV, loopO, sameArm, playsBody, codeSnd, codeFst, codeIn, codeYes, codeNo, Try.f8, Option.getD_some]
  go_wp2
  exact NX.out _ (by rfl)
theorem roundsV (Q : Exit → Act → World → Prop) (w₀ : World) (al : Addr) (n c i bm bv bw br g1 g2 : Nat) (v0 v1 v2 v3 : Value) (m r : M4) (next : ∀ (a' : Act) (W' : World), FrV al n c i bm br g1 g2 (.int .i64 ((8192 : Nat) : Int)) a' → Cx w₀ bm bv bw br g1 g2 v0 v1 v2 v3 m r W' → Q (.exit 3) a' W') :
    ∀ (d k : Nat) (a : Act) (W : World), k + d = 8192 → FrV al n c i bm br g1 g2 (.int .i64 (k : Int)) a → Cx w₀ bm bv bw br g1 g2 v0 v1 v2 v3 m r W → Code.rounds Try.prog bodyV Q (d + 1) a W := by
  intro d
  induction d with
  | zero =>
    intro k a W hk hfr h
    rw [rounds_succ]
    have hk2 : k = 8192 := by omega
    refine endV Q w₀ al n c i bm bv bw br g1 g2 v0 v1 v2 v3 m r _ k hk2 a W hfr (fun a' hf => ?_)
    subst hk2
    exact next a' W hf h
  | succ d ih =>
    intro k a W hk hfr h
    rw [rounds_succ]
    exact roundV Q w₀ al n c i bm bv bw br g1 g2 v0 v1 v2 v3 m r _ k (by omega) a W hfr h (fun a' W' hf h' => ih (k + 1) a' W' (by omega) hf h')
theorem wpV (Q : Exit → Act → World → Prop) (w₀ : World) (al : Addr) (n c i bm bv bw br g1 g2 : Nat) (v0 v1 v2 v3 : Value) (m r : M4) (a : Act) (W : World) (hfr : FrV al n c i bm br g1 g2 (.int .i64 ((0 : Nat) : Int)) a) (h : Cx w₀ bm bv bw br g1 g2 v0 v1 v2 v3 m r W) (next : ∀ (a' : Act) (W' : World), FrV al n c i bm br g1 g2 (.int .i64 ((8192 : Nat) : Int)) a' → Cx w₀ bm bv bw br g1 g2 v0 v1 v2 v3 m r W' → Q (.exit 3) a' W') : (Code.loop bodyV).wp Try.prog Q a W :=
  wp_loop_rounds 8193 (roundsV Q w₀ al n c i bm bv bw br g1 g2 v0 v1 v2 v3 m r next 8192 0 a W (by omega) hfr h)
def frO (al : Addr) (n c i bm br g1 g2 : Nat) (k : Value) (u : Nat → Value) : Act := { tmps := #[.slice (some al) n c, u 1, u 2, u 3, .pointer (some ⟨bm, 0, none⟩), .pointer (some ⟨br, 0, none⟩), .int .i64 (i : Int), u 7, .slice (some ⟨g1, 0, none⟩) 8192 8192, .slice (some ⟨g2, 0, none⟩) 160 160, u 10, k, u 12, u 13, u 14, u 15, u 16, u 17, u 18, u 19, u 20, u 21, u 22, u 23, u 24, u 25, u 26, u 27, u 28, u 29, u 30, u 31, u 32, u 33, u 34, u 35, u 36, u 37, u 38, u 39, u 40, u 41, u 42, u 43, u 44, u 45, u 46, u 47, u 48, u 49, u 50, u 51, u 52, u 53, u 54, u 55, u 56, u 57, u 58, u 59, u 60, u 61, u 62, u 63, u 64, u 65, u 66, u 67, u 68, u 69, u 70, u 71, u 72, u 73, u 74, u 75, u 76, u 77, u 78, u 79, u 80, u 81, u 82, u 83, u 84, u 85, u 86, u 87, u 88, u 89, u 90, u 91, u 92, u 93, u 94, u 95, u 96, u 97, u 98, u 99, u 100, u 101, u 102, u 103, u 104, u 105, u 106, u 107, u 108, u 109, u 110, u 111, u 112, u 113, u 114, u 115, u 116, u 117, u 118, u 119, u 120, u 121, u 122, u 123, u 124, u 125, u 126, u 127, u 128, u 129, u 130, u 131, u 132, u 133, u 134, u 135, u 136, u 137], defers := [] }
def FrO (al : Addr) (n c i bm br g1 g2 : Nat) (k : Value) (a : Act) : Prop := a = frO al n c i bm br g1 g2 k (fun k => a.tmps.getD k undef)
theorem roundO (Q : Exit → Act → World → Prop) (w₀ : World) (al : Addr) (n c i bm bv bw br g1 g2 : Nat) (v0 v1 v2 v3 : Value) (m r : M4) (Z : Act → World → Prop) (k : Nat) (hk : k < 160) (a : Act) (W : World) (hfr : FrO al n c i bm br g1 g2 (.int .i64 (k : Int)) a) (h : Cx w₀ bm bv bw br g1 g2 v0 v1 v2 v3 m r W)
    (next : ∀ (a' : Act) (W' : World), FrO al n c i bm br g1 g2 (.int .i64 ((k + 1 : Nat) : Int)) a' → Cx w₀ bm bv bw br g1 g2 v0 v1 v2 v3 m r W' → Z a' W') : bodyO.wp Try.prog (Exit.then Z Q) a W := by
  obtain ⟨u, hu⟩ : ∃ u : Nat → Value, a = frO al n c i bm br g1 g2 (.int .i64 (k : Int)) u := ⟨_, hfr⟩
  clear hfr
  subst hu
  have NX := Aside0.mk next
  clear next
  obtain ⟨x, hx⟩ := h.d2 k hk
  have hf := h.f2 k
  have HC := Aside0.mk h
  clear h
  have g1_ : decide ((k : Int) < 160) = true := decide_eq_true (by omega)
  have g2_ : (0 : Int) ≤ (k : Int) := by omega
  have g3_ : (k : Int) < 160 := by omega
  simp only [frO, bodyV, bodyO, loopV, loopO, sameArm, playsBody, codeSnd, codeFst, codeIn, codeYes, codeNo, Try.f8, Option.getD_some]
  go_wp2
  exact NX.out _ _ (by rfl) (HC.out.set2 k _)
theorem endO (Q : Exit → Act → World → Prop) (w₀ : World) (al : Addr) (n c i bm bv bw br g1 g2 : Nat) (v0 v1 v2 v3 : Value) (m r : M4) (Z : Act → World → Prop) (k : Nat) (hk : k = 160) (a : Act) (W : World) (hfr : FrO al n c i bm br g1 g2 (.int .i64 (k : Int)) a)
    (next : ∀ (a' : Act), FrO al n c i bm br g1 g2 (.int .i64 (k : Int)) a' → Q (.exit 5) a' W) : bodyO.wp Try.prog (Exit.then Z Q) a W := by
  obtain ⟨u, hu⟩ : ∃ u : Nat → Value, a = frO al n c i bm br g1 g2 (.int .i64 (k : Int)) u := ⟨_, hfr⟩
  clear hfr
  subst hu
  have NX := Aside0.mk next
  clear next
  have g1_ : decide ((k : Int) < 160) = false := decide_eq_false (by omega)
  simp only [frO, bodyV, bodyO, loopV, loopO, sameArm, playsBody, codeSnd, codeFst, codeIn, codeYes, codeNo, Try.f8, Option.getD_some]
  go_wp2
  exact NX.out _ (by rfl)
theorem roundsO (Q : Exit → Act → World → Prop) (w₀ : World) (al : Addr) (n c i bm bv bw br g1 g2 : Nat) (v0 v1 v2 v3 : Value) (m r : M4) (next : ∀ (a' : Act) (W' : World), FrO al n c i bm br g1 g2 (.int .i64 ((160 : Nat) : Int)) a' → Cx w₀ bm bv bw br g1 g2 v0 v1 v2 v3 m r W' → Q (.exit 5) a' W') :
    ∀ (d k : Nat) (a : Act) (W : World), k + d = 160 → FrO al n c i bm br g1 g2 (.int .i64 (k : Int)) a → Cx w₀ bm bv bw br g1 g2 v0 v1 v2 v3 m r W → Code.rounds Try.prog bodyO Q (d + 1) a W := by
  intro d
  induction d with
  | zero =>
    intro k a W hk hfr h
    rw [rounds_succ]
    have hk2 : k = 160 := by omega
    refine endO Q w₀ al n c i bm bv bw br g1 g2 v0 v1 v2 v3 m r _ k hk2 a W hfr (fun a' hf => ?_)
    subst hk2
    exact next a' W hf h
  | succ d ih =>
    intro k a W hk hfr h
    rw [rounds_succ]
    exact roundO Q w₀ al n c i bm bv bw br g1 g2 v0 v1 v2 v3 m r _ k (by omega) a W hfr h (fun a' W' hf h' => ih (k + 1) a' W' (by omega) hf h')
theorem wpO (Q : Exit → Act → World → Prop) (w₀ : World) (al : Addr) (n c i bm bv bw br g1 g2 : Nat) (v0 v1 v2 v3 : Value) (m r : M4) (a : Act) (W : World) (hfr : FrO al n c i bm br g1 g2 (.int .i64 ((0 : Nat) : Int)) a) (h : Cx w₀ bm bv bw br g1 g2 v0 v1 v2 v3 m r W) (next : ∀ (a' : Act) (W' : World), FrO al n c i bm br g1 g2 (.int .i64 ((160 : Nat) : Int)) a' → Cx w₀ bm bv bw br g1 g2 v0 v1 v2 v3 m r W' → Q (.exit 5) a' W') : (Code.loop bodyO).wp Try.prog Q a W :=
  wp_loop_rounds 161 (roundsO Q w₀ al n c i bm bv bw br g1 g2 v0 v1 v2 v3 m r next 160 0 a W (by omega) hfr h)
end Go.Proofs.Ytlfcpmiajcimfaa.P
