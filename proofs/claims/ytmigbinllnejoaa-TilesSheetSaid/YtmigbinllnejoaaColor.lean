/- Sheet.Color: the first time, and again. No condition but the hypotheses that stand in each. -/
import Derived.Test.YtmigbinllnejoaaDraw
import Derived.Laws.Cover3
namespace Go.Proofs.Ytmigbinllnejoaa.P
open Go.RowKit Go.Proofs.YtmigbinllnejoaaW.PrintWords Go.Proofs.YtmigbinllnejoaaW.PrintLast Go.Proofs.YtmigbinllnejoaaW.PrintMore
set_option linter.unusedVariables false
set_option linter.unusedSimpArgs false
set_option maxHeartbeats 4000000
set_option maxRecDepth 100000
theorem ownsRow_zero {w : World} {base : Nat} {e : TypeId} {sz : Nat} {v : Value} {n : Nat} {xs : List Value} (h : w.ownsRow base e sz v n xs) : w.ownsRow 0 e sz v n xs := by
  obtain ⟨hl, h⟩ := h
  refine ⟨hl, ?_⟩
  rcases h with h | ⟨g, cap, cur, rfl, hg, hc, h1, h2, h3, h4⟩
  · exact .inl h
  · exact .inr ⟨g, cap, cur, rfl, Nat.zero_le _, hc, h1, h2, h3, h4⟩
/-- A sheet that waits: not drawn (rows nil, done 0) or drawn. -/
def Sd (w₀ : World) (b g : Nat) (f : Nat → Int) (q : Int) (W : World) : Prop :=
  Sh w₀ b g f 0 0 q (.slice none 0 0) W ∨ ∃ rv, Sh w₀ b g f 1 0 q rv W ∧ W.ownsRow 0 24 8 rv 3072 (rowsOf f 3072) ∧ some b ≠ rv.ownBlock ∧ some g ≠ rv.ownBlock
def Drawn (w₀ : World) (b g : Nat) (f : Nat → Int) (q : Int) (W : World) : Prop :=
  ∃ rv, Sh w₀ b g f 1 0 q rv W ∧ W.ownsRow 0 24 8 rv 3072 (rowsOf f 3072) ∧ some b ≠ rv.ownBlock ∧ some g ≠ rv.ownBlock
theorem once_calls {w₀ W : World} {b g : Nat} {f : Nat → Int} {q : Int} (h : Sd w₀ b g f q W) :
    Calls Try.prog 31 #[.pointer (some ⟨b, 0, none⟩), .func (.func 32) #[.pointer (some ⟨b, 0, none⟩)] #[]] W fun e w' => e = .returned (.tuple #[]) ∧ Aside0 (Drawn w₀ b g f q w') := by
  rcases h with h | ⟨rv, h, ho, h1, h2⟩
  · refine (do_first b (fun w' => ∃ rv', Sh w₀ b g f 0 1 q rv' w' ∧ w'.ownsRow w₀.heap.size 24 8 rv' 3072 (rowsOf f 3072) ∧ some b ≠ rv'.ownBlock ∧ some g ≠ rv'.ownBlock) W h.c0 h.c1 (h.fz 1) (draw_calls w₀ _ b g f 0 1 q (h.lock 1)) ?_).mono ?_
    · rintro w' ⟨rv', s, _⟩
      exact ⟨s.c0, s.c1, s.fz 0, s.fz 1⟩
    · rintro e w' ⟨rfl, w2, ⟨rv', s, ho, h1, h2⟩, rfl⟩
      have sd : Sh w₀ b g f 0 1 q rv' w2.drew := s.below (below_drew1 (Below.refl _ _))
      refine ⟨rfl, ⟨rv', (sd.done 1).lock 0, ?_, h1, h2⟩⟩
      exact ownsRow_far (ownsRow_far (ownsRow_below (ownsRow_zero ho) (below_drew1 (Below.refl _ _))) (p := ⟨b, 0, none⟩) h1 _) (p := ⟨b, 1, none⟩) h1 _
  · refine (do_done b _ W h.c0).mono ?_
    rintro e w' ⟨rfl, rfl⟩
    exact ⟨rfl, ⟨rv, h, ho, h1, h2⟩⟩
theorem Sd.asks {w₀ W : World} {b g : Nat} {f : Nat → Int} {q : Int} (h : Sd w₀ b g f q W) (x : Int) : Sd w₀ b g f x (W.setCell ⟨b, 3, none⟩ (.int .i64 x)) := by
  rcases h with h | ⟨rv, h, ho, h1, h2⟩
  · exact .inl (h.asks x)
  · exact .inr ⟨rv, h.asks x, ownsRow_far ho (p := ⟨b, 3, none⟩) h1 _, h1, h2⟩
theorem Sd.c3 {w₀ W : World} {b g : Nat} {f : Nat → Int} {q : Int} (h : Sd w₀ b g f q W) : W.cell? ⟨b, 3, none⟩ = some (.int .i64 q) ∧ W.cell? ⟨b, 4, none⟩ = some (.slice (some ⟨g, 0, none⟩) 6144 6144) ∧ W.frozen? ⟨b, 3, none⟩ = false := by
  rcases h with h | ⟨rv, h, ho, h1, h2⟩
  · exact ⟨h.c3, h.c4, h.fz 3⟩
  · exact ⟨h.c3, h.c4, h.fz 3⟩
theorem Sh.self {w₀ W : World} {b g : Nat} {f : Nat → Int} {d l q : Int} {rv : Value} (h : Sh w₀ b g f d l q rv W) : Sh W b g f d l q rv W :=
  ⟨h.c0, h.c1, h.c3, h.c4, h.c5, h.fz, h.fg, h.bs, h.lb, h.lg, .refl _ _, h.ne⟩
theorem Drawn.self {w₀ W : World} {b g : Nat} {f : Nat → Int} {q : Int} (h : Drawn w₀ b g f q W) : Sd W b g f q W := by
  obtain ⟨rv, s, ho, h1, h2⟩ := h
  exact .inr ⟨rv, s.self, ho, h1, h2⟩
theorem Drawn.blo {w₀ W : World} {b g : Nat} {f : Nat → Int} {q : Int} (h : Drawn w₀ b g f q W) : Blo b w₀ W := by
  obtain ⟨rv, s, ho, h1, h2⟩ := h
  exact s.hB
theorem Sd.below {w₀ W W' : World} {b g : Nat} {f : Nat → Int} {q : Int} (h : Sd w₀ b g f q W) (hb : Below W.heap.size W W') : Sd W' b g f q W' := by
  rcases h with h | ⟨rv, h, ho, h1, h2⟩
  · exact .inl (h.below hb).self
  · exact .inr ⟨rv, (h.below hb).self, ownsRow_below ho hb, h1, h2⟩
theorem Drawn.row {w₀ W : World} {b g : Nat} {f : Nat → Int} {q : Int} (h : Drawn w₀ b g f q W) : ∃ r cap, W.cell? ⟨b, 5, none⟩ = some (.slice (some ⟨r, 0, none⟩) 3072 cap) ∧ ∀ k j, k < 3072 → j < 8 → W.cell? ⟨r, 8 * k + j, none⟩ = some (.int .u8 (px (f (2 * k)) (f (2 * k + 1)) (j : Int))) := by
  obtain ⟨rv, s, ho, _, _⟩ := h
  obtain ⟨hl, hor⟩ := ho
  rcases hor with ⟨_, h0⟩ | ⟨r, cap, cur, rfl, _, hc, _, _, _, hx⟩
  · omega
  · refine ⟨r, cap, s.c5, fun k j hk hj => ?_⟩
    refine (blk_cell hc _).trans ?_
    have e := rowsOf_at f k 3072 j hk hj
    rw [← hx, List.getElem?_take, if_pos (by omega)] at e
    rw [← Array.getElem?_toList]
    exact e
theorem eql34 (a : Addr) (l c : Nat) (W : World) : (binOp .eql 34 (.slice (some a) l c) (.slice none 0 0)).run Try.prog W = .ok (.bool false) W := by
  have h := run_equal_slice_nil (P := Try.prog) W 34 5 (some a) l c Try.underlying34
  simp [binOp, h, Result.andThen, Sem.run_bind, Sem.run_pure]
theorem color_in {w₀ W : World} {b g : Nat} {f : Nat → Int} {q : Int} (h : Sd w₀ b g f q W) (hq : 0 ≤ q ∧ q < 1000) (t x y : Nat) (ht : t < 384) (hx : x < 8) (hy : y < 8) :
    Calls Try.prog 25 #[.pointer (some ⟨b, 0, none⟩), .int .i64 (t : Int), .int .i64 (x : Int), .int .i64 (y : Int)] W fun e w' => e = .returned (.int .u8 (px (f (2 * (8 * t + y))) (f (2 * (8 * t + y) + 1)) (x : Int))) ∧ Aside0 (Drawn w₀ b g f (q + 1) w') := by
  obtain ⟨x3, x4, xf⟩ := h.c3
  have HS := Aside0.mk h
  clear h
  have g1 : decide ((t : Int) < 0) = false := decide_eq_false (by omega)
  have g2 : decide ((384 : Int) ≤ (t : Int)) = false := decide_eq_false (by omega)
  have g3 : decide ((x : Int) < 0) = false := decide_eq_false (by omega)
  have g4 : decide ((7 : Int) < (x : Int)) = false := decide_eq_false (by omega)
  have g5 : decide ((y : Int) < 0) = false := decide_eq_false (by omega)
  have g6 : decide ((7 : Int) < (y : Int)) = false := decide_eq_false (by omega)
  have hmf : ∀ (fn : Fn) (first cap : Array Value) (w : World), (Instr.makeFunc fn first cap).run Try.prog w = .ok (.func fn first cap) w := fun _ _ _ _ => rfl
  have heq := fun W => eql34 ⟨g, 0, none⟩ 6144 6144 W
  go_enter Try.func25, Try.ntmps25
  go_wp2_with fail
  refine (add64 ⟨b, 3, none⟩ q _ x3 xf hq).mono ?_
  rintro e w' ⟨rfl, rfl⟩
  go_wp2_with fail
  refine (once_calls (HS.out.asks (q + 1))).mono ?_
  rintro e w2 ⟨rfl, HD⟩
  obtain ⟨r, cap, c5, hc⟩ := HD.out.row
  have hcell := hc (8 * t + y) x (by omega) hx
  rw [Nat.mul_comm 8 (8 * t + y)] at hcell
  clear hc
  go_wp2
  go_ret
  exact ⟨rfl, HD⟩
theorem color_out {w₀ W : World} {b g : Nat} {f : Nat → Int} {q : Int} (h : Sd w₀ b g f q W) (hq : 0 ≤ q ∧ q < 1000) (t x y : Int) (ho : t < 0 ∨ 384 ≤ t ∨ x < 0 ∨ 7 < x ∨ y < 0 ∨ 7 < y) :
    Calls Try.prog 25 #[.pointer (some ⟨b, 0, none⟩), .int .i64 t, .int .i64 x, .int .i64 y] W fun e w' => e = .returned (.int .u8 0) ∧ Aside0 (Drawn w₀ b g f (q + 1) w') := by
  obtain ⟨x3, x4, xf⟩ := h.c3
  have HS := Aside0.mk h
  clear h
  have hmf : ∀ (fn : Fn) (first cap : Array Value) (w : World), (Instr.makeFunc fn first cap).run Try.prog w = .ok (.func fn first cap) w := fun _ _ _ _ => rfl
  have heq := fun W => eql34 ⟨g, 0, none⟩ 6144 6144 W
  have HO := Aside0.mk ho
  clear ho
  go_enter Try.func25, Try.ntmps25
  go_wp2_with fail
  refine (add64 ⟨b, 3, none⟩ q _ x3 xf hq).mono ?_
  rintro e w' ⟨rfl, rfl⟩
  go_wp2_with fail
  refine (once_calls (HS.out.asks (q + 1))).mono ?_
  rintro e w2 ⟨rfl, HD⟩
  clear x3 x4 xf heq hmf
  by_cases k0 : t < 0
  · have h0 : decide (t < 0) = true := decide_eq_true k0
    clear k0
    go_wp2
    go_ret
    exact ⟨rfl, HD⟩
  have h0 : decide (t < 0) = false := decide_eq_false k0
  have K0 := Aside0.mk k0
  clear k0
  by_cases k1 : 384 ≤ t
  · have h1 : decide (384 ≤ t) = true := decide_eq_true k1
    clear k1
    go_wp2
    go_ret
    exact ⟨rfl, HD⟩
  have h1 : decide (384 ≤ t) = false := decide_eq_false k1
  have K1 := Aside0.mk k1
  clear k1
  by_cases k2 : x < 0
  · have h2 : decide (x < 0) = true := decide_eq_true k2
    clear k2
    go_wp2
    go_ret
    exact ⟨rfl, HD⟩
  have h2 : decide (x < 0) = false := decide_eq_false k2
  have K2 := Aside0.mk k2
  clear k2
  by_cases k3 : 7 < x
  · have h3 : decide (7 < x) = true := decide_eq_true k3
    clear k3
    go_wp2
    go_ret
    exact ⟨rfl, HD⟩
  have h3 : decide (7 < x) = false := decide_eq_false k3
  have K3 := Aside0.mk k3
  clear k3
  by_cases k4 : y < 0
  · have h4 : decide (y < 0) = true := decide_eq_true k4
    clear k4
    go_wp2
    go_ret
    exact ⟨rfl, HD⟩
  have h4 : decide (y < 0) = false := decide_eq_false k4
  have K4 := Aside0.mk k4
  clear k4
  by_cases k5 : 7 < y
  · have h5 : decide (7 < y) = true := decide_eq_true k5
    clear k5
    go_wp2
    go_ret
    exact ⟨rfl, HD⟩
  have h5 : decide (7 < y) = false := decide_eq_false k5
  have K5 := Aside0.mk k5
  clear k5
  exfalso
  rcases HO.out with k | k | k | k | k | k
  · exact K0.out k
  · exact K1.out k
  · exact K2.out k
  · exact K3.out k
  · exact K4.out k
  · exact K5.out k
/-- A sheet that nobody made. -/
theorem color_nil (t x y : Int) (W : World) : Calls Try.prog 25 #[.pointer none, .int .i64 t, .int .i64 x, .int .i64 y] W fun e w' => e = .returned (.int .u8 0) ∧ w' = W := by
  go_enter Try.func25, Try.ntmps25
  go_wp2
  go_ret
  exact ⟨rfl, rfl⟩
theorem nil34 (W : World) : (binOp .eql 34 (.slice none 0 0) (.slice none 0 0)).run Try.prog W = .ok (.bool true) W := by
  have h := run_equal_slice_nil (P := Try.prog) W 34 5 none 0 0 Try.underlying34
  simp [binOp, h, Result.andThen, Sem.run_bind, Sem.run_pure]
theorem color_zero (b : Nat) (t x y : Int) (W : World) (h4 : W.cell? ⟨b, 4, none⟩ = some (.slice none 0 0)) : Calls Try.prog 25 #[.pointer (some ⟨b, 0, none⟩), .int .i64 t, .int .i64 x, .int .i64 y] W fun e w' => e = .returned (.int .u8 0) ∧ w' = W := by
  have heq := fun W => nil34 W
  go_enter Try.func25, Try.ntmps25
  go_wp2
  go_ret
  exact ⟨rfl, rfl⟩
end Go.Proofs.Ytmigbinllnejoaa.P
