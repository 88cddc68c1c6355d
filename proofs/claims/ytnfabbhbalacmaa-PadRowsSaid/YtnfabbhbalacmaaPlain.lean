/- Plain facts about the printed functions of layer 13 (pad): no program in sight but the printed Lean functions. -/
import Derived.Test.YtnfabbhbalacmaaPx
namespace Go.Proofs.Ytnfabbhbalacmaa.Plain
open Go.RowKit Go.Proofs.Ytnfabbhbalacmaa.P
set_option maxRecDepth 100000

theorem u8_nat {a : Int} (h : (Lit.int .u8 a).wf = true) : ∃ n : Nat, n < 256 ∧ a = (n : Int) := by
  have hmin : IntKind.u8.min = 0 := rfl
  have hmax : IntKind.u8.max = 255 := rfl
  simp only [Lit.wf, Bool.and_eq_true, decide_eq_true_eq] at h
  exact ⟨a.toNat, by omega, by omega⟩

/-- The rows that are asked, alone. -/
def rws (s : Nat) : Nat := 16 * (s / 16 % 4)

theorem bit4 : ∀ k : Nat, k < 14 → ∀ s : Nat, s < 256 → whirligigref01_Bit.f k (s : Int) 4 = whirligigref01_Bit.f k (rws s : Int) 4 := by decide +kernel
theorem bit5 : ∀ k : Nat, k < 14 → ∀ s : Nat, s < 256 → whirligigref01_Bit.f k (s : Int) 5 = whirligigref01_Bit.f k (rws s : Int) 5 := by decide +kernel
theorem row4 : ∀ s : Nat, s < 256 → (Go.bits .and .u8 (s : Int) 16 != 0) = (Go.bits .and .u8 (rws s : Int) 16 != 0) := by decide +kernel
theorem row5 : ∀ s : Nat, s < 256 → (Go.bits .and .u8 (s : Int) 32 != 0) = (Go.bits .and .u8 (rws s : Int) 32 != 0) := by decide +kernel

theorem low_same (k : Nat) (hk : k < 14) (s : Nat) (hs : s < 256) (l a n : Int) : whirligigref13_low.f k s l a n = whirligigref13_low.f k (rws s : Int) 0 a n := by
  unfold whirligigref13_low.f
  rw [bit4 k hk s hs, bit5 k hk s hs]

theorem l0_same (s : Nat) (hs : s < 256) (l : Int) : ∀ k : Nat, k < 15 → ∀ x1 x5 x6 : Int, whirligigref13_Lines.l0 k x1 x5 x6 s l = whirligigref13_Lines.l0 k x1 x5 x6 (rws s : Int) 0
  | 0, _, _, _, _ => by simp only [whirligigref13_Lines.l0]
  | k + 1, hk, x1, x5, x6 => by
    simp only [whirligigref13_Lines.l0]
    rw [low_same k (by omega) s hs l x1 x6]
    simp only [l0_same s hs l k (by omega)]

theorem ref_same (s : Nat) (hs : s < 256) (l a : Int) : whirligigref13_Lines.f 12 s l a = whirligigref13_Lines.f 12 (rws s : Int) 0 a := by
  unfold whirligigref13_Lines.f
  exact l0_same s hs l 12 (by omega) a 0 0

theorem pad_same (s : Nat) (hs : s < 256) (l a : Int) : pad_Lines.f s l a = pad_Lines.f (rws s : Int) 0 a := by
  unfold pad_Lines.f pad_Lines.row
  rw [row4 s hs, row5 s hs]

theorem both0 : ∀ q : Nat, q < 4 → ∀ a : Nat, a < 256 → ∃ t : Nat, t < 16 ∧ pad_Lines.f ((16 * q : Nat) : Int) 0 (a : Int) = some (t : Int) ∧ whirligigref13_Lines.f 12 ((16 * q : Nat) : Int) 0 (a : Int) = some (t : Int) := by decide +kernel

/-- Both answers are one number below 16. -/
theorem both (s a : Nat) (hs : s < 256) (ha : a < 256) (l l' : Int) : ∃ t : Nat, t < 16 ∧ pad_Lines.f s l a = some (t : Int) ∧ whirligigref13_Lines.f 12 s l' a = some (t : Int) := by
  rw [pad_same s hs, ref_same s hs]
  exact both0 (s / 16 % 4) (by omega) a ha

theorem free0 : ∀ q : Nat, q < 4 → pad_Lines.f ((16 * q : Nat) : Int) 0 0 = some 15 := by decide +kernel
theorem free (s : Nat) (hs : s < 256) (l : Int) : pad_Lines.f s l 0 = some 15 := by
  rw [pad_same s hs]
  exact free0 (s / 16 % 4) (by omega)

theorem shown : whirligiglaw13_shown.f = some true := by decide +kernel

/-- Has a line fallen? -/
def fell (l t : Int) : Bool := Go.bits .and .u8 (Go.bits .andNot .u8 l t) 15 != 0

theorem step (s a : Nat) (l t : Int) (h : pad_Lines.f s l a = some t) : pad_Step.f s l a = some ((s : Int), t, fell l t) := by
  unfold pad_Step.f
  rw [h]
  rfl

theorem ref_sel (x6 : Int) (s l : Int) : ∀ (k : Nat) (b : Bool) (n : Int), whirligigref13_Step.l0 k x6 b n s l = (whirligigref13_Step.l0 k x6 b n 0 l).map fun r => (s, r.2)
  | 0, _, _ => by simp only [whirligigref13_Step.l0, Option.map_none]
  | k + 1, b, n => by
    simp only [whirligigref13_Step.l0]
    simp only [ref_sel x6 s l k]
    by_cases c : n < 4
    · rw [if_pos c, if_pos c]
      cases whirligigref01_Bit.f k l n with
      | none => simp only [Option.bind_none, Option.map_none]
      | some u =>
        simp only [Option.bind_some]
        cases whirligigref01_Bit.f k x6 n with
        | none => simp only [Option.bind_none, Option.map_none]
        | some v =>
          simp only [Option.bind_some]
          cases b <;> cases u <;> cases v <;> simp
    · rw [if_neg c, if_neg c]
      rfl

theorem falls : ∀ t : Nat, t < 16 → ∀ l : Nat, l < 256 → whirligigref13_Step.l0 12 (t : Int) false 0 0 (l : Int) = some (0, (t : Int), fell l t) := by decide +kernel

theorem ref_step (s a l t : Nat) (ht : t < 16) (hl : l < 256) (h : whirligigref13_Lines.f 12 s l a = some (t : Int)) : whirligigref13_Step.f 12 s l a = some ((s : Int), (t : Int), fell l t) := by
  unfold whirligigref13_Step.f
  rw [h, Option.bind_some, ref_sel, falls t ht l hl]
  rfl

theorem reads : ∀ s : Nat, s < 256 → ∀ t : Nat, t < 16 → Go.bits .or .u8 (Go.bits .or .u8 192 (Go.bits .and .u8 (s : Int) 48)) (t : Int) = (IntKind.u8.wrap (IntKind.u8.wrap (192 + IntKind.u8.wrap ((IntKind.u8.wrap ((s : Int).tdiv 16)).tmod 4 * 16)) + (t : Int))) := by decide +kernel
theorem writes : ∀ v : Nat, v < 256 → Go.bits .and .u8 (v : Int) 48 = ((Int.tdiv (v : Int) 16) % 4) * 16 := by decide +kernel

theorem fell_self : ∀ t : Nat, t < 16 → fell t t = false := by decide +kernel
theorem fell_free : ∀ t : Nat, t < 16 → fell t 15 = false := by decide +kernel
theorem fell_more : ∀ t : Nat, t < 16 → fell 15 t = ((t : Int) != 15) := by decide +kernel
theorem fell_low : ∀ t : Nat, t < 16 → ∀ l : Nat, l < 256 → fell l t = true → ((t : Int) != 15) = true := by decide +kernel
end Go.Proofs.Ytnfabbhbalacmaa.Plain
