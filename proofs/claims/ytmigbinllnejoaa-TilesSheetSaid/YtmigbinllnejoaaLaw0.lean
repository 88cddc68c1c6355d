/- TilesSheet: what both sides answer at any pixel; the sheet beside the bytes that it was made of. No condition but the hypotheses that stand in each. -/
import Derived.Test.YtmigbinllnejoaaSheetPlain
import Derived.Test.YtmigbinllnejoaaPureTilesPixels
namespace Go.Proofs.Ytmigbinllnejoaa.P
open Go.RowKit Go.Proofs.YtmigbinllnejoaaW.PrintWords Go.Proofs.YtmigbinllnejoaaW.PrintLast Go.Proofs.YtmigbinllnejoaaW.PrintMore Go.Proofs.Ytmigbinllnejoaa.Plain Go.Proofs.Ytmigbinllnejoaa.Pure
set_option linter.unusedVariables false
set_option linter.unusedSimpArgs false
set_option maxHeartbeats 4000000
set_option maxRecDepth 100000
def Inside (t x y : Int) : Prop := 0 ≤ t ∧ t < 384 ∧ 0 ≤ x ∧ x < 8 ∧ 0 ≤ y ∧ y < 8
instance (t x y : Int) : Decidable (Inside t x y) := by unfold Inside; infer_instance
/-- A pixel of a memory's tiles. -/
def colorOf (f : Nat → Int) (t x y : Int) : Int := if Inside t x y then px (f (2 * (8 * t.toNat + y.toNat))) (f (2 * (8 * t.toNat + y.toNat) + 1)) x else 0
theorem color_any {w₀ W : World} {b g : Nat} {f : Nat → Int} {q : Int} (h : Sd w₀ b g f q W) (hq : 0 ≤ q ∧ q < 1000) (t x y : Int) :
    Calls Try.prog 25 #[.pointer (some ⟨b, 0, none⟩), .int .i64 t, .int .i64 x, .int .i64 y] W fun e w' => e = .returned (.int .u8 (colorOf f t x y)) ∧ Aside0 (Drawn w₀ b g f (q + 1) w') := by
  by_cases hi : Inside t x y
  · have e : colorOf f t x y = px (f (2 * (8 * t.toNat + y.toNat))) (f (2 * (8 * t.toNat + y.toNat) + 1)) x := by unfold colorOf; rw [if_pos hi]
    rw [e]
    obtain ⟨h1, h2, h3, h4, h5, h6⟩ := hi
    obtain ⟨t, rfl⟩ := Int.eq_ofNat_of_zero_le h1
    obtain ⟨x, rfl⟩ := Int.eq_ofNat_of_zero_le h3
    obtain ⟨y, rfl⟩ := Int.eq_ofNat_of_zero_le h5
    rw [Int.toNat_natCast, Int.toNat_natCast]
    exact color_in h hq t x y (by omega) (by omega) (by omega)
  · have e : colorOf f t x y = 0 := by unfold colorOf; rw [if_neg hi]
    rw [e]
    exact color_out h hq t x y (by unfold Inside at hi; omega)
theorem byteOf_lt {l : List Int} (hl : ∀ x ∈ l, 0 ≤ x ∧ x < 256) (i : Nat) : ∃ n : Nat, n < 256 ∧ byteOf l i = (n : Int) := by
  unfold byteOf
  by_cases h : i < l.length
  · rw [if_pos h]
    have e : rd l (i : Int) = l[i] := by simp [rd, rdOf, List.getD, h]
    have := hl l[i] (List.getElem_mem h)
    exact ⟨l[i].toNat, by omega, by rw [e]; omega⟩
  · rw [if_neg h]
    exact ⟨255, by omega, rfl⟩
theorem ref_any {l : List Int} (hl : ∀ x ∈ l, 0 ≤ x ∧ x < 256) (t x y : Int) : whirligigref17_Color.f 22 l t x y = some (colorOf (byteOf l) t x y) := by
  by_cases hi : Inside t x y
  · have e : colorOf (byteOf l) t x y = px (byteOf l (2 * (8 * t.toNat + y.toNat))) (byteOf l (2 * (8 * t.toNat + y.toNat) + 1)) x := by unfold colorOf; rw [if_pos hi]
    rw [e]
    obtain ⟨h1, h2, h3, h4, h5, h6⟩ := hi
    obtain ⟨t, rfl⟩ := Int.eq_ofNat_of_zero_le h1
    obtain ⟨x, rfl⟩ := Int.eq_ofNat_of_zero_le h3
    obtain ⟨y, rfl⟩ := Int.eq_ofNat_of_zero_le h5
    rw [Int.toNat_natCast, Int.toNat_natCast]
    refine ref_in 21 l t x y (by omega) (by omega) (by omega) _ ?_
    obtain ⟨lo, hlo, elo⟩ := byteOf_lt hl (2 * (8 * t + y))
    obtain ⟨hi, hhi, ehi⟩ := byteOf_lt hl (2 * (8 * t + y) + 1)
    rw [elo, ehi]
    unfold px
    rw [pix_prog lo hi x hlo hhi (by omega), pix_ref lo hi x hlo hhi (by omega)]
    rfl
  · have e : colorOf (byteOf l) t x y = 0 := by unfold colorOf; rw [if_neg hi]
    rw [e]
    exact ref_out 21 l t x y (by unfold Inside at hi; omega)
theorem empty_three : colorOf (byteOf []) 383 7 7 = 3 := by
  have e : ∀ i, byteOf [] i = 255 := fun i => by unfold byteOf; rw [if_neg (by simp)]
  unfold colorOf
  rw [if_pos (by unfold Inside; omega), e, e]
  unfold px
  have := pix_prog 255 255 7 (by omega) (by omega) (by omega)
  have e2 : tiles_Pixel.f 255 255 7 = some (pv 255 255 7) := this
  rw [e2]
  decide
section
variable {w₀ w1 W W' : World} {b g : Nat} {f : Nat → Int} {d z q : Int} {rv : Value}
theorem Sh.rebase (h : Sh w1 b g f d z q rv W) (hb : Below w₀.heap.size w₀ w1) : Sh w₀ b g f d z q rv W :=
  ⟨h.c0, h.c1, h.c3, h.c4, h.c5, h.fz, h.fg, h.bs, h.lb, h.lg, .trans (c := 0) hb h.hB, h.ne⟩
theorem Sh.far (h : Sh w₀ b g f d z q rv W) {o i : Nat} (h1 : o ≠ b) (h2 : o ≠ g) (h3 : w₀.heap.size ≤ o) (u : Value) : Sh w₀ b g f d z q rv (W.setCell ⟨o, i, none⟩ u) where
  c0 := by rw [sh_at h.c0, if_neg (by omega)]
  c1 := by rw [sh_at h.c1, if_neg (by omega)]
  c3 := by rw [sh_at h.c3, if_neg (by omega)]
  c4 := by rw [sh_at h.c4, if_neg (by omega)]
  c5 := by rw [sh_at h.c5, if_neg (by omega)]
  fz := fun i => by rw [World.frozen?_setCell]; exact h.fz i
  fg := fun i => by rw [World.frozen?_setCell]; exact h.fg i
  bs := fun i hi => by rw [sh_at (h.bs i hi), if_neg (by omega)]
  lb := by simp [World.setCell]; exact h.lb
  lg := by simp [World.setCell]; exact h.lg
  hB := h.hB.set ⟨o, i, none⟩ (.inr h3) u
  ne := h.ne
/-- The bytes that the sheet was made of: they may be written, and lie beside it. -/
def Ow (w₀ W : World) (b g : Nat) (A : Option Addr) (n : Nat) : Prop :=
  ∀ i, i < n → ∃ o, A = some ⟨o, 0, none⟩ ∧ w₀.heap.size ≤ o ∧ o ≠ b ∧ o ≠ g ∧ (∃ x, W.cell? ⟨o, i, none⟩ = some (.int .u8 x)) ∧ W.frozen? ⟨o, i, none⟩ = false
theorem Ow.set {A : Option Addr} {n : Nat} (h : Ow w₀ W b g A n) (o j : Nat) (y : Int) : Ow w₀ (W.setCell ⟨o, j, none⟩ (.int .u8 y)) b g A n := by
  intro i hi
  obtain ⟨o2, e, h1, h2, h3, ⟨x, hx⟩, h4⟩ := h i hi
  refine ⟨o2, e, h1, h2, h3, ?_, by rw [World.frozen?_setCell]; exact h4⟩
  by_cases hc : o2 = o ∧ i = j
  · exact ⟨y, by rw [sh_at hx, if_pos hc]⟩
  · exact ⟨x, by rw [sh_at hx, if_neg hc]⟩
end
end Go.Proofs.Ytmigbinllnejoaa.P
