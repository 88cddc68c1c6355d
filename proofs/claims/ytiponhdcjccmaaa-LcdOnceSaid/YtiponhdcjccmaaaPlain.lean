/- Plain facts about the printed functions of layer 15 (lcd): the program's own functions, by cases. No program in sight but the Lean functions; no condition but the bounds that stand in each. -/
import Derived.Test.YtiponhdcjccmaaaPx8
namespace Go.Proofs.Ytiponhdcjccmaaa.Plain
open Go.RowKit Go.Proofs.Ytiponhdcjccmaaa.P Go.Proofs.YtiponhdcjccmaaaW.PrintWords
set_option maxRecDepth 100000

theorem u8_nat {a : Int} (h : (Lit.int .u8 a).wf = true) : ∃ n : Nat, n < 256 ∧ a = (n : Int) := by
  have hmin : IntKind.u8.min = 0 := rfl
  have hmax : IntKind.u8.max = 255 := rfl
  simp only [Lit.wf, Bool.and_eq_true, decide_eq_true_eq] at h
  exact ⟨a.toNat, by omega, by omega⟩

theorem u16_nat {a : Int} (h : (Lit.int .u16 a).wf = true) : ∃ n : Nat, n < 65536 ∧ a = (n : Int) := by
  have hmin : IntKind.u16.min = 0 := rfl
  have hmax : IntKind.u16.max = 65535 := rfl
  simp only [Lit.wf, Bool.and_eq_true, decide_eq_true_eq] at h
  exact ⟨a.toNat, by omega, by omega⟩

theorem up {α : Type} {f : Nat → Option α} (m : ∀ k, LeO (f k) (f (k + 1))) {k0 : Nat} {r : α} (h : f k0 = some r) (d : Nat) : f (k0 + d) = some r := by
  induction d with
  | zero => exact h
  | succ d ih => exact m (k0 + d) r ih

theorem up_le {α : Type} {f : Nat → Option α} (m : ∀ k, LeO (f k) (f (k + 1))) {k0 k : Nat} {r : α} (h : f k0 = some r) (hk : k0 ≤ k) : f k = some r := by
  obtain ⟨d, rfl⟩ : ∃ d, k = k0 + d := ⟨k - k0, by omega⟩
  exact up m h d

theorem and8 : ∀ v : Nat, v < 256 → (Go.bits .and .u8 (v : Int) 8 != 0) = v.testBit 3 := by decide +kernel

theorem and16 : ∀ v : Nat, v < 256 → (Go.bits .and .u8 (v : Int) 16 != 0) = v.testBit 4 := by decide +kernel

theorem and32 : ∀ v : Nat, v < 256 → (Go.bits .and .u8 (v : Int) 32 != 0) = v.testBit 5 := by decide +kernel

theorem and64 : ∀ v : Nat, v < 256 → (Go.bits .and .u8 (v : Int) 64 != 0) = v.testBit 6 := by decide +kernel

theorem sel120 : ∀ v : Nat, v < 256 → Go.bits .and .u8 (v : Int) 120 = ((v : Int).tdiv 8 % 16 * 8) := by decide +kernel

/-- The mode. -/
def md (on : Bool) (line dot ex : Int) : Int := if on = true then (if line ≥ 144 then 1 else (if dot < 80 then 2 else (if (wrap64 dot) < (wrap64 (252 + (wrap64 ex))) then 3 else 0))) else 0

theorem mode_eq (on : Bool) (line dot lyc sel : Int) (high : Bool) (ex : Int) : lcd_Mode.f on line dot lyc sel high ex = some (md on line dot ex) := by
  unfold lcd_Mode.f md
  repeat' split
  all_goals rfl

theorem md_cases (on : Bool) (line dot ex : Int) : md on line dot ex = 0 ∨ md on line dot ex = 1 ∨ md on line dot ex = 2 ∨ md on line dot ex = 3 := by
  unfold md
  repeat' split
  all_goals simp

/-- The line of all sources. -/
def src (on : Bool) (line dot lyc : Int) (sel : Nat) (ex : Int) : Bool :=
  on && ((decide (line = lyc) && sel.testBit 6) || ((decide (md on line dot ex = 0) && sel.testBit 3) || ((decide (md on line dot ex = 1) && sel.testBit 4) || (decide (md on line dot ex = 2) && sel.testBit 5))))

theorem source_eq (k : Nat) (hk : 1 ≤ k) (on : Bool) (line dot lyc : Int) (sel : Nat) (hs : sel < 256) (high : Bool) (ex : Int) : lcd_Source.f k on line dot lyc sel high ex = some (src on line dot lyc sel ex) := by
  obtain ⟨k, rfl⟩ : ∃ m, k = m + 1 := ⟨k - 1, by omega⟩
  unfold lcd_Source.f src
  cases on with
  | false => simp
  | true =>
    simp only [lcd_Source.j0, mode_eq, Option.bind_some, and8 sel hs, and16 sel hs, and32 sel hs, and64 sel hs, if_true, Bool.true_and]
    rcases md_cases true line dot ex with h | h | h | h <;> rw [h] <;> by_cases e : line = lyc <;> simp [e] <;> cases sel.testBit 6 <;> simp

/-- The line of all sources is set; has it risen? -/
def hrd (on : Bool) (line dot lyc : Int) (sel : Nat) (high : Bool) (ex : Int) : Bool × Int × Int × Int × Int × Bool × Int × Bool :=
  (on, line, dot, lyc, (sel : Int), src on line dot lyc sel ex, ex, src on line dot lyc sel ex && !high)

theorem heard_eq (k : Nat) (hk : 1 ≤ k) (on : Bool) (line dot lyc : Int) (sel : Nat) (hs : sel < 256) (high : Bool) (ex : Int) : lcd_heard.f k on line dot lyc sel high ex = some (hrd on line dot lyc sel high ex) := by
  unfold lcd_heard.f hrd
  rw [source_eq k hk on line dot lyc sel hs high ex]
  cases src on line dot lyc sel ex <;> simp

/-- A dot's end. -/
def tl (line dot lyc : Int) (sel : Nat) (high : Bool) (ex : Int) (fr dr : Bool) : Bool × Int × Int × Int × Int × Bool × Int × Bool × Bool × Bool :=
  (true, line, dot, lyc, (sel : Int), src true line dot lyc sel ex, ex, fr, src true line dot lyc sel ex && !high, dr)

theorem tail_eq (k : Nat) (hk : 1 ≤ k) (line dot lyc : Int) (sel : Nat) (hs : sel < 256) (high : Bool) (ex : Int) (fr dr : Bool) : lcd_Step.tail k line dot lyc sel high ex fr dr = some (tl line dot lyc sel high ex fr dr) := by
  unfold lcd_Step.tail tl
  rw [heard_eq k hk true line dot lyc sel hs high ex]
  rfl

/-- A dot of a picture that is on. -/
def dotOn (line dot : Nat) (lyc : Int) (sel : Nat) (high : Bool) (ex extra : Int) : Bool × Int × Int × Int × Int × Bool × Int × Bool × Bool × Bool :=
  if dot < 455 then
    (if line < 144 then (if dot + 1 = 80 then tl line ((dot : Int) + 1) lyc sel high (if 200 < extra then 200 else extra) false true else tl line ((dot : Int) + 1) lyc sel high ex false false)
     else tl line ((dot : Int) + 1) lyc sel high ex false false)
  else (if line < 153 then (if line + 1 = 144 then tl ((line : Int) + 1) 0 lyc sel high ex true false else tl ((line : Int) + 1) 0 lyc sel high ex false false)
    else tl 0 0 lyc sel high ex false false)

theorem w16 (dot : Nat) (h : dot < 455) : IntKind.u16.wrap ((dot : Int) + 1) = (dot : Int) + 1 := by
  have : IntKind.u16.wrap ((dot : Int) + 1) = ((dot : Int) + 1) % 65536 := by simp [IntKind.wrap, IntKind.bits, IntKind.signed]
  rw [this]
  omega

theorem on_eq (k : Nat) (hk : 1 ≤ k) (line dot : Nat) (lyc : Int) (sel : Nat) (hs : sel < 256) (high : Bool) (ex extra : Int) : lcd_Step.f k true line dot lyc sel high ex extra = some (dotOn line dot lyc sel high ex extra) := by
  unfold lcd_Step.f dotOn
  rw [if_pos rfl]
  simp only [tail_eq k hk _ _ lyc sel hs high]
  by_cases c1 : dot < 455
  · have c1' : (dot : Int) < 455 := by omega
    rw [if_pos c1', if_pos c1, w16 dot c1]
    have z : ((dot : Int) + 1 == 0) = false := beq_eq_false_iff_ne.mpr (by omega)
    by_cases c2 : line < 144
    · have c2' : (line : Int) < 144 := by omega
      rw [if_pos c2', if_pos c2]
      by_cases c3 : dot + 1 = 80
      · have c3' : ((dot : Int) + 1 == 80) = true := beq_iff_eq.mpr (by omega)
        rw [if_pos c3', if_pos c3]
        by_cases c4 : 200 < extra <;> simp [c4]
      · have c3' : ¬ ((dot : Int) + 1 == 80) = true := by simp; omega
        rw [if_neg c3', if_neg c3]
    · have c2' : ¬ (line : Int) < 144 := by omega
      rw [if_neg c2', if_neg c2, z]
      split <;> rfl
  · have c1' : ¬ (dot : Int) < 455 := by omega
    rw [if_neg c1', if_neg c1]
    by_cases c5 : line < 153
    · have c5' : (line : Int) < 153 := by omega
      have e : ((line : Int) + 1) % 256 = (line : Int) + 1 := by omega
      rw [if_pos c5', if_pos c5, e]
      by_cases c2 : line + 1 = 144
      · have c2' : ¬ (line : Int) + 1 < 144 := by omega
        have c3' : ((line : Int) + 1 == 144) = true := beq_iff_eq.mpr (by omega)
        rw [if_neg c2', if_pos c3', if_pos c2]
      · have c3' : ¬ ((line : Int) + 1 == 144) = true := by simp; omega
        rw [if_neg c2, if_neg c3']
        split <;> rfl
    · have c5' : ¬ (line : Int) < 153 := by omega
      rw [if_neg c5', if_neg c5]

theorem shown2 : whirligiglaw15_shown.f 2 = some true := by decide +kernel

theorem shown (k : Nat) (h : 2 ≤ k) : whirligiglaw15_shown.f k = some true := by
  have e : ∀ k, 1 ≤ k → whirligiglaw15_shown.f k = whirligiglaw15_shown.f 2 := by
    intro k hk
    unfold whirligiglaw15_shown.f
    have a := on_eq k hk 3 79 0 0 (by omega) false 0 7
    have b := on_eq k hk 143 455 0 0 (by omega) false 0 0
    have c := on_eq 2 (by omega) 3 79 0 0 (by omega) false 0 7
    have d := on_eq 2 (by omega) 143 455 0 0 (by omega) false 0 0
    have q : lcd_Step.f k true 3 79 0 0 false 0 7 = lcd_Step.f 2 true 3 79 0 0 false 0 7 := a.trans c.symm
    have r : lcd_Step.f k true 143 455 0 0 false 0 0 = lcd_Step.f 2 true 143 455 0 0 false 0 0 := b.trans d.symm
    rw [q, r]
  rw [e k (by omega)]
  exact shown2

end Go.Proofs.Ytiponhdcjccmaaa.Plain
