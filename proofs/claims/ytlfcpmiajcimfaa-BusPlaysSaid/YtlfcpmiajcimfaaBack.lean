/- The walk of whirligiglaw20.BusBack, with the answers of its calls as letters. No condition but the equations that stand in it. -/
import Derived.Test.YtlfcpmiajcimfaaPx9
namespace Go.Proofs.Ytlfcpmiajcimfaa.P
open Go.RowKit Go.Proofs.YtlfcpmiajcimfaaW.PrintWords Go.Proofs.YtlfcpmiajcimfaaW.PrintLast Go.Proofs.YtlfcpmiajcimfaaW.PrintMore
set_option linter.unusedVariables false
set_option linter.unusedSimpArgs false
/-- The memories and what lay before, in one. -/
structure Pk (bm bv bw : Nat) (m : M4) (w₀ W : World) : Prop where
  M : MemAt W bm bv bw m
  hB : Below w₀.heap.size w₀ W
  k1 : w₀.heap.size ≤ bm
  k2 : w₀.heap.size ≤ bv
  k3 : w₀.heap.size ≤ bw
theorem Pk.below {bm bv bw : Nat} {m : M4} {w₀ W W' : World} (h : Pk bm bv bw m w₀ W) (hb : Below W.heap.size W W') : Pk bm bv bw m w₀ W' := ⟨h.M.below hb, below_step h.hB hb, h.k1, h.k2, h.k3⟩
theorem get_pk {bm bv bw : Nat} {m : M4} {w₀ W : World} (h : Aside0 (Pk bm bv bw m w₀ W)) (a : Nat) (ha : a < 65536) (x : Int) (hx : m.get a = x) :
    Calls Try.prog 19 #[.pointer (some ⟨bm, 0, none⟩), .int .u16 (a : Int)] W fun e w' => e = .returned (.int .u8 x) ∧ Aside0 (Pk bm bv bw m w₀ w') := by
  subst hx
  refine (get_mem h.out.M a ha).mono ?_
  rintro e w' ⟨rfl, hb⟩
  exact ⟨rfl, ⟨h.out.below hb⟩⟩
theorem put_pk {bm bv bw : Nat} {m m' : M4} {w₀ W : World} (h : Aside0 (Pk bm bv bw m w₀ W)) (a : Nat) (ha : a < 65536) (x : Int) (hm : m.put a x = m') :
    Calls Try.prog 18 #[.pointer (some ⟨bm, 0, none⟩), .int .u16 (a : Int), .int .u8 x] W fun e w' => e = .returned (.tuple #[]) ∧ Aside0 (Pk bm bv bw m' w₀ w') := by
  subst hm
  refine (put_mem h.out.M a ha x w₀.heap.size w₀ h.out.hB h.out.k1 h.out.k2 h.out.k3 (Nat.le_refl _)).mono ?_
  rintro e w' ⟨rfl, M, hb⟩
  exact ⟨rfl, ⟨M, hb, h.out.k1, h.out.k2, h.out.k3⟩⟩
theorem region_pk {bm bv bw : Nat} {m : M4} {w₀ W : World} (h : Aside0 (Pk bm bv bw m w₀ W)) (a F R A : Int) (hFR : bestOf a findTab (0, 0) = (F, R)) (hA : wrap64 (IntKind.u16.wrap (a - F)) = A) :
    Calls Try.prog 11 #[.int .u16 a] W fun e w' => e = .returned (.tuple #[.int .i64 R, .int .i64 A]) ∧ Aside0 (Pk bm bv bw m w₀ w') := by
  refine (region_walk a F R A W hFR hA).mono ?_
  rintro e w' ⟨rfl, hb⟩
  exact ⟨rfl, ⟨h.out.below hb⟩⟩
theorem new_pk {w₀ W : World} (hB : Below w₀.heap.size w₀ W) :
    Calls Try.prog 17 #[] W fun e w' => ∃ bm bv bw : Nat, e = .returned (.pointer (some ⟨bm, 0, none⟩)) ∧ Aside0 (Pk bm bv bw M4.zero w₀ w') := by
  refine (new_calls W).mono ?_
  rintro e w' ⟨bm, bv, bw, rfl, g1, g2, g3, M, hb⟩
  have hs := hB.size
  exact ⟨bm, bv, bw, rfl, ⟨M, below_step hB hb, by omega, by omega, by omega⟩⟩
set_option maxHeartbeats 8000000 in
set_option maxRecDepth 100000 in
theorem back_walk (a o : Nat) (ha : a < 65536) (ho : o < 65536) (v u F R A G S B x y z c d : Int) (w : World)
    (hF : bestOf (a : Int) findTab (0, 0) = (F, R)) (hA : wrap64 (IntKind.u16.wrap ((a : Int) - F)) = A) (hG : bestOf (o : Int) findTab (0, 0) = (G, S)) (hB : wrap64 (IntKind.u16.wrap ((o : Int) - G)) = B)
    (m1 m2 : M4) (h1 : M4.zero.put o u = m1) (h2 : m1.put a v = m2) (hz : m1.get o = z) (hx : m2.get a = x) (hy : m2.get o = y)
    (f1 : R = 1 ∨ R = 3 ∨ R = 4 ∨ R = 7 → x = v) (f2 : ¬ (R = 1 ∨ R = 3 ∨ R = 4 ∨ R = 7) → x = 255) (f3 : R ≠ S ∨ A ≠ B → y = z) (f4 : R = S ∧ A = B → y = x)
    (p q : Nat) (hp : p < 65536) (hq : q < 65536) (hc : m2.get p = c) (hd : m2.get q = d) (f5 : R = 3 → A < 7680 → c = v ∧ d = v)
    (ep : IntKind.u16.wrap (49152 + IntKind.u16.wrap A) = (p : Int)) (eq : IntKind.u16.wrap (57344 + IntKind.u16.wrap A) = (q : Int)) :
    Calls Try.prog 5 #[.int .u16 (a : Int), .int .u8 v, .int .u16 (o : Int), .int .u8 u] w fun e w' => e = .returned (.bool true) ∧ Below w.heap.size w w' := by
  have X := Aside0.mk (And.intro f1 (And.intro f2 (And.intro f3 (And.intro f4 f5))))
  clear f1 f2 f3 f4 f5
  have E := Aside0.mk (And.intro hF (And.intro hA (And.intro hG (And.intro hB (And.intro h1 (And.intro h2 (And.intro hz (And.intro hx (And.intro hy (And.intro hc hd))))))))))
  clear hF hA hG hB h1 h2 hz hx hy hc hd
  have epB : A = B → IntKind.u16.wrap (49152 + IntKind.u16.wrap B) = (p : Int) := fun h => h ▸ ep
  have eqB : A = B → IntKind.u16.wrap (57344 + IntKind.u16.wrap B) = (q : Int) := fun h => h ▸ eq
  go_enter Try.func5, Try.ntmps5
  go_wp2_with fail
  refine (whirligiglaw20_shown.calls true _ rfl).mono ?_
  rintro e w1 ⟨rfl, b1⟩
  go_wp2_with fail
  refine (new_pk b1).mono ?_
  clear b1
  rintro e w2 ⟨bm, bv, bw, rfl, P2⟩
  go_wp2_with fail
  refine (put_pk P2 o ho u E.out.2.2.2.2.1).mono ?_
  clear P2
  rintro e w3 ⟨rfl, P3⟩
  go_wp2_with fail
  refine (get_pk P3 o ho z E.out.2.2.2.2.2.2.1).mono ?_
  clear P3
  rintro e w4 ⟨rfl, P4⟩
  go_wp2_with fail
  refine (put_pk P4 a ha v E.out.2.2.2.2.2.1).mono ?_
  clear P4
  rintro e w5 ⟨rfl, P5⟩
  go_wp2_with fail
  refine (region_pk P5 a F R A E.out.1 E.out.2.1).mono ?_
  clear P5
  rintro e w6 ⟨rfl, P6⟩
  go_wp2_with fail
  refine (region_pk P6 o G S B E.out.2.2.1 E.out.2.2.2.1).mono ?_
  clear P6
  rintro e w7 ⟨rfl, P7⟩
  go_wp2_with (first | (go_at_call 19; (with_reducible refine (get_pk (by assumption) a ha x E.out.2.2.2.2.2.2.2.1).mono ?_); rintro e w' ⟨rfl, hp'⟩) | (go_at_call 19; (with_reducible refine (get_pk (by assumption) o ho y E.out.2.2.2.2.2.2.2.2.1).mono ?_); rintro e w' ⟨rfl, hp'⟩) | (go_at_call 19; (with_reducible refine (get_pk (by assumption) p hp c E.out.2.2.2.2.2.2.2.2.2.1).mono ?_); rintro e w' ⟨rfl, hp'⟩) | (go_at_call 19; (with_reducible refine (get_pk (by assumption) q hq d E.out.2.2.2.2.2.2.2.2.2.2).mono ?_); rintro e w' ⟨rfl, hp'⟩))
  all_goals obtain ⟨f1, f2, f3, f4, f5⟩ := X.out
  all_goals clear X E ep eq epB eqB
  all_goals (go_ret; refine ⟨?_, Pk.hB (Aside0.out (by assumption))⟩; (try simp only [bne_iff_ne, ne_eq, bne_eq_false_iff_eq, beq_iff_eq, beq_eq_false_iff_ne, decide_eq_true_eq, decide_eq_false_iff_not, Bool.not_eq_true, Bool.and_eq_true] at *); first | rfl | (exfalso; omega) | (have hdv : d = v := (by omega); simp [hdv]))
end Go.Proofs.Ytlfcpmiajcimfaa.P
