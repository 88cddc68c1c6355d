/- TilesBack, the plain part: eight pixels make up the two bytes again, and the call joined. No condition but the bounds that stand in each. -/
import Derived.Test.YtmigbinllnejoaaBack
import Derived.Test.YtmigbinllnejoaaPureTilesPixels
namespace Go.Proofs.Ytmigbinllnejoaa.Pure
open Go.RowKit Go.Proofs.Ytmigbinllnejoaa.P Go.Proofs.Ytmigbinllnejoaa.Plain Go.Proofs.YtmigbinllnejoaaW.PrintWords
set_option maxRecDepth 100000

theorem half (v s : Nat) : 2 * (v / 2 ^ (s + 1)) + bt v s = v / 2 ^ s := by
  have e : v / 2 ^ (s + 1) = v / 2 ^ s / 2 := by rw [Nat.pow_succ, Nat.div_div_eq_div_mul]
  unfold bt
  omega
theorem le_byte (v s : Nat) (h : v < 256) : v / 2 ^ s < 256 := Nat.lt_of_le_of_lt (Nat.div_le_self _ _) h
theorem modp (x y : Nat) (hy : y < 2) : Int.tmod (2 * (x : Int) + (y : Int)) 2 = (y : Int) := by
  rw [Int.tmod_eq_emod_of_nonneg (by omega)]
  omega
theorem divp (x y : Nat) (hx : x < 2) (hy : y < 2) : Int.tdiv (2 * (x : Int) + (y : Int)) 2 % 256 = (x : Int) := by
  rw [Int.tdiv_eq_ediv_of_nonneg (by omega)]
  omega
theorem stepA (v x s : Nat) (hv : v < 256) : wrap64 (wrap64 (2 * ((v / 2 ^ (s + 1) : Nat) : Int)) + wrap64 (Int.tmod (2 * (x : Int) + ((bt v s : Nat) : Int)) 2)) = ((v / 2 ^ s : Nat) : Int) := by
  have h := half v s
  have h1 := le_byte v s hv
  have h2 := bt2 v s
  rw [modp _ _ h2, w64 (x := 2 * ((v / 2 ^ (s + 1) : Nat) : Int)) (by omega) (by omega), w64 (x := ((bt v s : Nat) : Int)) (by omega) (by omega), w64 (by omega) (by omega)]
  omega
theorem stepB (v y s : Nat) (hy : y < 2) : 2 * ((v / 2 ^ (s + 1) : Nat) : Int) + Int.tdiv (2 * ((bt v s : Nat) : Int) + (y : Int)) 2 % 256 = ((v / 2 ^ s : Nat) : Int) := by
  have h := half v s
  rw [divp _ _ (bt2 v s) hy]
  omega
theorem px_pv (lo hi n : Nat) (hl : lo < 256) (hh : hi < 256) (hn : n < 8) : px (lo : Int) (hi : Int) (n : Int) = 2 * ((bt hi (7 - n) : Nat) : Int) + ((bt lo (7 - n) : Nat) : Int) := by
  unfold px
  rw [pix_prog lo hi n hl hh hn]
  rfl
theorem px3 (lo hi n : Nat) (hl : lo < 256) (hh : hi < 256) (hn : n < 8) : decide (3 < px (lo : Int) (hi : Int) (n : Int)) = false := by
  have h1 := bt2 hi (7 - n)
  have h2 := bt2 lo (7 - n)
  rw [px_pv lo hi n hl hh hn]
  exact decide_eq_false (by omega)
theorem TilesBack_calls (a0 a1 : Int) (w : World) (e0 : (Lit.int .u8 a0).wf = true) (e1 : (Lit.int .u8 a1).wf = true) :
    Calls Try.prog 5 #[.int .u8 a0, .int .u8 a1] w fun e w' => e = .returned (.bool true) ∧ Below w.heap.size w w' := by
  obtain ⟨a, ha, rfl⟩ := u8_nat e0
  obtain ⟨b, hb, rfl⟩ := u8_nat e1
  clear e0 e1
  have sA (n : Nat) (hn : n < 8) : wrap64 (wrap64 (2 * ((a / 2 ^ (7 - n + 1) : Nat) : Int)) + wrap64 (Int.tmod (px (a : Int) (b : Int) (n : Int)) 2)) = ((a / 2 ^ (7 - n) : Nat) : Int) := by
    rw [px_pv a b n ha hb hn]
    exact stepA a _ _ ha
  have sB (n : Nat) (hn : n < 8) : 2 * ((b / 2 ^ (7 - n + 1) : Nat) : Int) + Int.tdiv (px (a : Int) (b : Int) (n : Int)) 2 % 256 = ((b / 2 ^ (7 - n) : Nat) : Int) := by
    rw [px_pv a b n ha hb hn]
    exact stepB b _ _ (bt2 _ _)
  have z0 : ((a / 2 ^ 8 : Nat) : Int) = 0 := by omega
  have z1 : ((b / 2 ^ 8 : Nat) : Int) = 0 := by omega
  have fA := sA 0 (by decide)
  have fB := sB 0 (by decide)
  have q0 : wrap64 (2 * (0 : Int)) = 0 := w64 (by decide) (by decide)
  have fA0 : wrap64 (wrap64 (Int.tmod (px (a : Int) (b : Int) 0) 2)) = ((a / 2 ^ 7 : Nat) : Int) := by
    have h : wrap64 (wrap64 (2 * ((a / 2 ^ 8 : Nat) : Int)) + wrap64 (Int.tmod (px (a : Int) (b : Int) 0) 2)) = ((a / 2 ^ 7 : Nat) : Int) := fA
    rw [z0, q0, Int.zero_add] at h
    exact h
  have fB0 : Int.tdiv (px (a : Int) (b : Int) 0) 2 % 256 = ((b / 2 ^ 7 : Nat) : Int) := by
    have h : 2 * ((b / 2 ^ 8 : Nat) : Int) + Int.tdiv (px (a : Int) (b : Int) 0) 2 % 256 = ((b / 2 ^ 7 : Nat) : Int) := fB
    rw [z1, Int.mul_zero, Int.zero_add] at h
    exact h
  have eq1 (v : Nat) (h : v < 256) : (((v / 2 ^ 0 : Nat) : Int) == wrap64 (v : Int)) = true := by
    rw [w64 (by omega) (by omega), Nat.pow_zero, Nat.div_one]
    exact beq_self_eq_true _
  exact back_walk (a : Int) (b : Int) w rfl
    (px3 a b 0 ha hb (by decide)) ((a / 2 ^ 7 : Nat) : Int) ((b / 2 ^ 7 : Nat) : Int) fB0 fA0
    (px3 a b 1 ha hb (by decide)) ((a / 2 ^ 6 : Nat) : Int) ((b / 2 ^ 6 : Nat) : Int) (sB 1 (by decide)) (sA 1 (by decide))
    (px3 a b 2 ha hb (by decide)) ((a / 2 ^ 5 : Nat) : Int) ((b / 2 ^ 5 : Nat) : Int) (sB 2 (by decide)) (sA 2 (by decide))
    (px3 a b 3 ha hb (by decide)) ((a / 2 ^ 4 : Nat) : Int) ((b / 2 ^ 4 : Nat) : Int) (sB 3 (by decide)) (sA 3 (by decide))
    (px3 a b 4 ha hb (by decide)) ((a / 2 ^ 3 : Nat) : Int) ((b / 2 ^ 3 : Nat) : Int) (sB 4 (by decide)) (sA 4 (by decide))
    (px3 a b 5 ha hb (by decide)) ((a / 2 ^ 2 : Nat) : Int) ((b / 2 ^ 2 : Nat) : Int) (sB 5 (by decide)) (sA 5 (by decide))
    (px3 a b 6 ha hb (by decide)) ((a / 2 ^ 1 : Nat) : Int) ((b / 2 ^ 1 : Nat) : Int) (sB 6 (by decide)) (sA 6 (by decide))
    (px3 a b 7 ha hb (by decide)) ((a / 2 ^ 0 : Nat) : Int) ((b / 2 ^ 0 : Nat) : Int) (sB 7 (by decide)) (sA 7 (by decide))
    (eq1 a ha) (eq1 b hb)
end Go.Proofs.Ytmigbinllnejoaa.Pure
