/- TilesApart, the plain part: the places' and cells' numbers, and the call joined. No condition but the bounds that stand in each. -/
import Derived.Test.YtmigbinllnejoaaApart
import Derived.Test.YtmigbinllnejoaaPlain
namespace Go.Proofs.Ytmigbinllnejoaa.Pure
open Go.RowKit Go.Proofs.Ytmigbinllnejoaa.P Go.Proofs.Ytmigbinllnejoaa.Plain
set_option maxRecDepth 100000

theorem pl_low : ∀ t : Nat, t < 256 → ∀ m : Nat, m < 8 → tiles_Place.f (t : Int) false (m : Int) = some (16 * (t : Int) + 2 * (m : Int)) := by decide +kernel
theorem pl_high : ∀ t : Nat, t < 256 → ∀ m : Nat, m < 8 → tiles_Place.f (t : Int) true (m : Int) = some (if t < 128 then 4096 + 16 * (t : Int) + 2 * (m : Int) else 16 * (t : Int) + 2 * (m : Int)) := by decide +kernel
theorem ce_32 : ∀ x : Nat, x < 32 → ∀ y : Nat, y < 32 → ∀ b : Bool, tiles_Cell.f b ((8 * x : Nat) : Int) ((8 * y : Nat) : Int) = some ((if b = true then 7168 else 6144) + 32 * (y : Int) + (x : Int)) := by decide +kernel
theorem ce (x y : Nat) (hx : x < 256) (hy : y < 256) (b : Bool) : tiles_Cell.f b (x : Int) (y : Int) = some ((if b = true then 7168 else 6144) + 32 * ((y / 8 : Nat) : Int) + ((x / 8 : Nat) : Int)) := by
  have h1 := ce_32 (x / 8) (by omega) (y / 8) (by omega) b
  have ex : ((8 * (x / 8) : Nat) : Int) / 8 = (x : Int) / 8 := by omega
  have ey : ((8 * (y / 8) : Nat) : Int) / 8 = (y : Int) / 8 := by omega
  unfold tiles_Cell.f at h1 ⊢
  rw [ex, ey] at h1
  exact h1

def lo16 (a m : Nat) : Int := 16 * (a : Int) + 2 * (m : Int)
def hi16 (a m : Nat) : Int := if a < 128 then 4096 + 16 * (a : Int) + 2 * (m : Int) else 16 * (a : Int) + 2 * (m : Int)
theorem iff2 (u v : Bool) (h : u = true ↔ v = true) : (u == v) = true := by cases u <;> cases v <;> simp_all
theorem tm2 (z : Int) (h0 : 0 ≤ z) (h1 : z % 2 = 0) : (Int.tmod z 2 == 0) = true := by
  rw [Int.tmod_eq_emod_of_nonneg h0, h1]
  rfl
theorem hi_of (a m : Nat) : (a < 128 ∧ hi16 a m = 4096 + 16 * (a : Int) + 2 * (m : Int)) ∨ (¬ a < 128 ∧ hi16 a m = 16 * (a : Int) + 2 * (m : Int)) := by
  unfold hi16
  by_cases h : a < 128
  · rw [if_pos h]
    exact .inl ⟨h, rfl⟩
  · rw [if_neg h]
    exact .inr ⟨h, rfl⟩
theorem f1 (a m : Nat) (ha : a < 256) (hm : m < 8) : decide (0 ≤ lo16 a m) = true ∧ decide (lo16 a m < 4096) = true ∧ decide (2048 ≤ hi16 a m) = true ∧ decide (hi16 a m < 6144) = true ∧ (Int.tmod (lo16 a m) 2 == 0) = true ∧ (Int.tmod (hi16 a m) 2 == 0) = true ∧ ((lo16 a m == hi16 a m) == decide (127 < (a : Int))) = true := by
  have hl : lo16 a m = 16 * (a : Int) + 2 * (m : Int) := rfl
  have hh := hi_of a m
  generalize lo16 a m = l at hl ⊢
  generalize hi16 a m = h at hh ⊢
  refine ⟨decide_eq_true (by omega), decide_eq_true (by omega), decide_eq_true (by omega), decide_eq_true (by omega), tm2 l (by omega) (by omega), tm2 h (by omega) (by omega), iff2 _ _ ?_⟩
  rw [beq_iff_eq, decide_eq_true_eq]
  omega
theorem f2 (a m n : Nat) : ((lo16 a m == lo16 a n) == ((m : Int) == (n : Int))) = true ∧ ((hi16 a m == hi16 a n) == ((m : Int) == (n : Int))) = true := by
  have hl : lo16 a m = 16 * (a : Int) + 2 * (m : Int) := rfl
  have hl' : lo16 a n = 16 * (a : Int) + 2 * (n : Int) := rfl
  have hh := hi_of a m
  have hh' := hi_of a n
  refine ⟨iff2 _ _ ?_, iff2 _ _ ?_⟩
  · rw [beq_iff_eq, beq_iff_eq]
    omega
  · rw [beq_iff_eq, beq_iff_eq]
    omega
theorem f3 (a b m n : Nat) (hab : a ≠ b) (ha : a < 256) (hb : b < 256) (hm : m < 8) (hn : n < 8) : ((lo16 a m == lo16 b n) == false) = true ∧ ((hi16 a m == hi16 b n) == false) = true := by
  have hl : lo16 a m = 16 * (a : Int) + 2 * (m : Int) := rfl
  have hl' : lo16 b n = 16 * (b : Int) + 2 * (n : Int) := rfl
  have hh := hi_of a m
  have hh' := hi_of b n
  have n1 : ¬ lo16 a m = lo16 b n := by omega
  have n2 : ¬ hi16 a m = hi16 b n := by omega
  refine ⟨?_, ?_⟩
  · rw [beq_eq_false_iff_ne.mpr n1]
    rfl
  · rw [beq_eq_false_iff_ne.mpr n2]
    rfl
def cel (b : Bool) (x y : Nat) : Int := (if b = true then 7168 else 6144) + 32 * ((y / 8 : Nat) : Int) + ((x / 8 : Nat) : Int)
theorem f4 (x y : Nat) (hx : x < 256) (hy : y < 256) : decide (6144 ≤ cel false x y) = true ∧ decide (cel false x y < 7168) = true ∧ (wrap64 (cel true x y - cel false x y) == 1024) = true := by
  have h0 : cel false x y = 6144 + 32 * ((y / 8 : Nat) : Int) + ((x / 8 : Nat) : Int) := rfl
  have h1 : cel true x y = 7168 + 32 * ((y / 8 : Nat) : Int) + ((x / 8 : Nat) : Int) := rfl
  have hd : cel true x y - cel false x y = 1024 := by omega
  refine ⟨decide_eq_true (by omega), decide_eq_true (by omega), ?_⟩
  rw [hd, w64 (by decide) (by decide)]
  rfl
theorem rem8 (r : Nat) : Int.tmod (r : Int) 8 = ((r % 8 : Nat) : Int) := by
  rw [Int.tmod_eq_emod_of_nonneg (Int.natCast_nonneg _)]
  omega
theorem quo8 (r : Nat) : Int.tdiv (r : Int) 8 % 8 = ((r / 8 % 8 : Nat) : Int) := by
  rw [Int.tdiv_eq_ediv_of_nonneg (Int.natCast_nonneg _)]
  omega
theorem wrem8 (r : Nat) : wrap64 (Int.tmod (r : Int) 8) = ((r % 8 : Nat) : Int) := by
  rw [rem8]
  have h : r % 8 < 8 := by omega
  exact w64 (by omega) (by omega)

theorem TilesApart_calls (a0 a1 a2 a3 a4 : Int) (w : World) (e0 : (Lit.int .u8 a0).wf = true) (e1 : (Lit.int .u8 a1).wf = true) (e2 : (Lit.int .u8 a2).wf = true) (e3 : (Lit.int .u8 a3).wf = true) (e4 : (Lit.int .u8 a4).wf = true) :
    Calls Try.prog 6 #[.int .u8 a0, .int .u8 a1, .int .u8 a2, .int .u8 a3, .int .u8 a4] w fun e w' => e = .returned (.bool true) ∧ Below w.heap.size w w' := by
  obtain ⟨a, ha, rfl⟩ := u8_nat e0
  obtain ⟨b, hb, rfl⟩ := u8_nat e1
  obtain ⟨r, hr, rfl⟩ := u8_nat e2
  obtain ⟨x, hx, rfl⟩ := u8_nat e3
  obtain ⟨y, hy, rfl⟩ := u8_nat e4
  clear e0 e1 e2 e3 e4
  have hm : r % 8 < 8 := Nat.mod_lt _ (by decide)
  have hn : r / 8 % 8 < 8 := Nat.mod_lt _ (by decide)
  have hs : whirligiglaw17_shown.f = some true := rfl
  have hp : tiles_Place.f (a : Int) false (wrap64 (Int.tmod (r : Int) 8)) = some (lo16 a (r % 8)) := by rw [wrem8]; exact pl_low a ha (r % 8) hm
  have hq : tiles_Place.f (b : Int) false (Int.tdiv (r : Int) 8 % 8) = some (lo16 b (r / 8 % 8)) := by rw [quo8]; exact pl_low b hb (r / 8 % 8) hn
  have ht : tiles_Place.f (a : Int) true (wrap64 (Int.tmod (r : Int) 8)) = some (hi16 a (r % 8)) := by rw [wrem8]; exact pl_high a ha (r % 8) hm
  have hu : tiles_Place.f (b : Int) true (Int.tdiv (r : Int) 8 % 8) = some (hi16 b (r / 8 % 8)) := by rw [quo8]; exact pl_high b hb (r / 8 % 8) hn
  have hc : tiles_Cell.f false (x : Int) (y : Int) = some (cel false x y) := ce x y hx hy false
  have hd : tiles_Cell.f true (x : Int) (y : Int) = some (cel true x y) := ce x y hx hy true
  obtain ⟨c1, c2, c3, c4, c5, c6, c9⟩ := f1 a (r % 8) ha hm
  obtain ⟨c10, c11, c12⟩ := f4 x y hx hy
  by_cases hab : a = b
  · subst hab
    obtain ⟨c7, c8⟩ := f2 a (r % 8) (r / 8 % 8)
    rw [← rem8, ← quo8] at c7 c8
    exact apart_same _ _ _ _ _ _ _ _ _ _ _ w hs hp hq ht hu hc hd (beq_self_eq_true _) c1 c2 c3 c4 c5 c6 c7 c8 c9 c10 c11 c12
  · have habb : ((a : Int) == (b : Int)) = false := beq_eq_false_iff_ne.mpr (fun h => hab (Int.ofNat.inj h))
    obtain ⟨c7, c8⟩ := f3 a b (r % 8) (r / 8 % 8) hab ha hb hm hn
    exact apart_other _ _ _ _ _ _ _ _ _ _ _ w hs hp hq ht hu hc hd habb c1 c2 c3 c4 c5 c6 c7 c8 c9 c10 c11 c12
end Go.Proofs.Ytmigbinllnejoaa.Pure
