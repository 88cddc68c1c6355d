/- LcdLines, the plain part: a line's dots, modes, counts and turns. No condition but the bounds that stand in each. -/
import Derived.Test.YtiponhdcjccmaaaPx8
import Derived.Test.YtiponhdcjccmaaaPlain
namespace Go.Proofs.Ytiponhdcjccmaaa.Lines
open Go.RowKit Go.Proofs.Ytiponhdcjccmaaa.P Go.Proofs.Ytiponhdcjccmaaa.Plain
set_option maxHeartbeats 1000000
/-- Line, dot and extra dots behind k dots. -/
def ln (L0 k : Nat) : Nat := if k = 0 then L0 else L0 + 1
def dt (k : Nat) : Nat := if k = 0 then 455 else k - 1
def xx (L0 E k : Nat) : Nat := if 81 ≤ k ∧ L0 + 1 < 144 then E else 0
/-- The mode at dot k of the line. -/
def mo (L0 E k : Nat) : Nat := if 144 ≤ L0 + 1 then 1 else if k < 80 then 2 else if k < 252 + E then 3 else 0
def cnt (L0 E : Nat) : Nat → Nat → Nat
  | 0, _ => 0
  | k + 1, j => cnt L0 E k j + (if mo L0 E k = j then 1 else 0)
def lst (L0 E : Nat) : Nat → Int
  | 0 => -1
  | k + 1 => (mo L0 E k : Int)
def trn (L0 E : Nat) : Nat → Nat
  | 0 => 0
  | k + 1 => trn L0 E k + (if (mo L0 E k : Int) = lst L0 E k then 0 else 1)
theorem cnt_succ (L0 E k j : Nat) : cnt L0 E (k + 1) j = cnt L0 E k j + (if mo L0 E k = j then 1 else 0) := rfl
theorem trn_succ (L0 E k : Nat) : trn L0 E (k + 1) = trn L0 E k + (if (mo L0 E k : Int) = lst L0 E k then 0 else 1) := rfl
theorem lst_succ (L0 E k : Nat) : lst L0 E (k + 1) = (mo L0 E k : Int) := rfl
theorem mo_lt (L0 E k : Nat) : mo L0 E k < 4 := by unfold mo; split <;> try omega
                                                   split <;> try omega
                                                   split <;> omega
theorem cnt_le (L0 E : Nat) : ∀ k j, cnt L0 E k j ≤ k
  | 0, _ => Nat.le_refl 0
  | k + 1, j => by
    have := cnt_le L0 E k j
    unfold cnt
    split <;> omega
theorem trn_le (L0 E : Nat) : ∀ k, trn L0 E k ≤ k
  | 0 => Nat.le_refl 0
  | k + 1 => by
    have := trn_le L0 E k
    unfold trn
    split <;> omega
theorem src0 (on : Bool) (line dot lyc ex : Int) : src on line dot lyc 0 ex = false := by
  unfold src
  simp
theorem step_st (L0 extra E k : Nat) (hL : L0 < 153) (hk : k < 456) (hE : E = if 200 < extra then 200 else extra) :
    ∃ fr dr, lcd_Step.f 1 true (ln L0 k : Int) (dt k : Int) 0 0 false (xx L0 E k : Int) (extra : Int) = some (true, (ln L0 (k + 1) : Int), (dt (k + 1) : Int), 0, 0, false, (xx L0 E (k + 1) : Int), fr, false, dr) := by
  have h := on_eq 1 (by omega) (ln L0 k) (dt k) 0 0 (by omega) false (xx L0 E k : Int) (extra : Int)
  rw [show ((0 : Nat) : Int) = 0 from rfl] at h
  rw [h]
  unfold dotOn tl
  simp only [src0, Bool.false_and]
  by_cases k0 : k = 0
  · subst k0
    have e1 : ln L0 0 = L0 := rfl
    have e2 : dt 0 = 455 := rfl
    have e3 : xx L0 E 0 = 0 := by unfold xx; rw [if_neg (by omega)]
    have e4 : ln L0 1 = L0 + 1 := rfl
    have e5 : dt 1 = 0 := rfl
    have e6 : xx L0 E 1 = 0 := by unfold xx; rw [if_neg (by omega)]
    rw [e1, e2, e3, e4, e5, e6, if_neg (by omega), if_pos hL]
    by_cases h4 : L0 + 1 = 144
    · rw [if_pos h4]; exact ⟨true, false, rfl⟩
    · rw [if_neg h4]; exact ⟨false, false, rfl⟩
  · have e1 : ln L0 k = L0 + 1 := by unfold ln; rw [if_neg k0]
    have e2 : dt k = k - 1 := by unfold dt; rw [if_neg k0]
    have e4 : ln L0 (k + 1) = L0 + 1 := by unfold ln; rw [if_neg (by omega)]
    have e5 : dt (k + 1) = k := by unfold dt; rw [if_neg (by omega)]; omega
    have e7 : ((k - 1 : Nat) : Int) + 1 = (k : Int) := by omega
    rw [e1, e2, e4, e5, if_pos (by omega), e7]
    by_cases h4 : L0 + 1 < 144
    · rw [if_pos h4]
      by_cases h8 : k - 1 + 1 = 80
      · rw [if_pos h8]
        have e6 : xx L0 E (k + 1) = E := by unfold xx; rw [if_pos (by omega)]
        rw [e6]
        refine ⟨false, true, ?_⟩
        have : (if 200 < (extra : Int) then (200 : Int) else (extra : Int)) = (E : Int) := by
          subst hE
          by_cases h : 200 < extra
          · rw [if_pos (by omega), if_pos h]; rfl
          · rw [if_neg (by omega), if_neg h]
        rw [this]
        rfl
      · rw [if_neg h8]
        have e6 : xx L0 E (k + 1) = xx L0 E k := by
          unfold xx
          by_cases h : 81 ≤ k
          · rw [if_pos (by omega), if_pos (by omega)]
          · rw [if_neg (by omega), if_neg (by omega)]
        rw [e6]
        exact ⟨false, false, rfl⟩
    · rw [if_neg h4]
      have e6 : xx L0 E (k + 1) = xx L0 E k := by
        unfold xx
        rw [if_neg (by omega), if_neg (by omega)]
      rw [e6]
      exact ⟨false, false, rfl⟩
theorem mode_st (L0 E k : Nat) (hE : E ≤ 200) (hk : k < 456) : lcd_Mode.f true (ln L0 (k + 1) : Int) (dt (k + 1) : Int) 0 0 false (xx L0 E (k + 1) : Int) = some (mo L0 E k : Int) := by
  rw [mode_eq]
  have e4 : ln L0 (k + 1) = L0 + 1 := by unfold ln; rw [if_neg (by omega)]
  have e5 : dt (k + 1) = k := by unfold dt; rw [if_neg (by omega)]; omega
  rw [e4, e5]
  unfold md mo
  rw [if_pos rfl]
  by_cases h1 : 144 ≤ L0 + 1
  · rw [if_pos (by omega), if_pos h1]; rfl
  · rw [if_neg (by omega), if_neg h1]
    by_cases h2 : k < 80
    · rw [if_pos (by omega), if_pos h2]; rfl
    · rw [if_neg (by omega), if_neg h2]
      have e6 : xx L0 E (k + 1) = E := by unfold xx; rw [if_pos (by omega)]
      have w1 : wrap64 (k : Int) = (k : Int) := by unfold wrap64; omega
      have w2 : wrap64 (E : Int) = (E : Int) := by unfold wrap64; omega
      have w3 : wrap64 (252 + (E : Int)) = 252 + (E : Int) := by unfold wrap64; omega
      rw [e6, w1, w2, w3]
      by_cases h3 : k < 252 + E
      · rw [if_pos (by omega), if_pos h3]; rfl
      · rw [if_neg (by omega), if_neg h3]; rfl
theorem cnt_low (L0 E : Nat) (h : 144 ≤ L0 + 1) : ∀ k, cnt L0 E k 1 = k
  | 0 => rfl
  | k + 1 => by unfold cnt mo; rw [cnt_low L0 E h k, if_pos h]; rfl
theorem cnt_high (L0 E : Nat) (h : ¬ 144 ≤ L0 + 1) : ∀ k, cnt L0 E k 1 = 0 ∧ cnt L0 E k 2 = min k 80 ∧ cnt L0 E k 3 = min k (252 + E) - min k 80 ∧ cnt L0 E k 0 = k - min k (252 + E) ∧
    trn L0 E k = (if 1 ≤ k then 1 else 0) + (if 81 ≤ k then 1 else 0) + (if 253 + E ≤ k then 1 else 0) ∧ lst L0 E k = (if k = 0 then -1 else if k ≤ 80 then 2 else if k ≤ 252 + E then 3 else 0)
  | 0 => by
    refine ⟨rfl, rfl, by simp [cnt], rfl, ?_, rfl⟩
    unfold trn
    rw [if_neg (by omega), if_neg (by omega), if_neg (by omega)]
  | k + 1 => by
    obtain ⟨h1, h2, h3, h4, h5, h6⟩ := cnt_high L0 E h k
    simp only [cnt_succ, trn_succ, lst_succ]
    rw [h1, h2, h3, h4, h5, h6]
    unfold mo
    rw [if_neg h]
    by_cases k8 : k < 80
    · rw [if_pos k8]
      by_cases k0 : k = 0
      · subst k0; simp; omega
      · simp only [if_neg k0]
        rw [if_pos (show k ≤ 80 by omega)]
        refine ⟨by simp, by simp; omega, by simp; omega, by simp; omega, ?_, ?_⟩
        · rw [if_pos (show 1 ≤ k by omega), if_pos (show 1 ≤ k + 1 by omega), if_neg (show ¬ 81 ≤ k by omega), if_neg (show ¬ 81 ≤ k + 1 by omega), if_neg (show ¬ 253 + E ≤ k by omega), if_neg (show ¬ 253 + E ≤ k + 1 by omega)]; rfl
        · rw [if_neg (by omega), if_pos (by omega)]; rfl
    · rw [if_neg k8]
      by_cases kE : k < 252 + E
      · rw [if_pos kE, if_neg (show ¬ k = 0 by omega)]
        refine ⟨by simp, by simp; omega, by simp; omega, by simp; omega, ?_, ?_⟩
        · rw [if_pos (show 1 ≤ k by omega), if_pos (show 1 ≤ k + 1 by omega), if_pos (show 81 ≤ k + 1 by omega), if_neg (show ¬ 253 + E ≤ k by omega), if_neg (show ¬ 253 + E ≤ k + 1 by omega)]
          by_cases k80 : k ≤ 80
          · rw [if_pos k80, if_neg (show ¬ 81 ≤ k by omega)]; rfl
          · rw [if_neg k80, if_pos (show 81 ≤ k by omega), if_pos (show k ≤ 252 + E by omega)]; rfl
        · rw [if_neg (by omega), if_neg (by omega), if_pos (by omega)]; rfl
      · rw [if_neg kE, if_neg (show ¬ k = 0 by omega), if_neg (show ¬ k ≤ 80 by omega)]
        refine ⟨by simp, by simp; omega, by simp; omega, by simp; omega, ?_, ?_⟩
        · rw [if_pos (show 1 ≤ k by omega), if_pos (show 1 ≤ k + 1 by omega), if_pos (show 81 ≤ k by omega), if_pos (show 81 ≤ k + 1 by omega), if_pos (show 253 + E ≤ k + 1 by omega)]
          by_cases kE2 : k ≤ 252 + E
          · rw [if_pos kE2, if_neg (show ¬ 253 + E ≤ k by omega)]; rfl
          · rw [if_neg kE2, if_pos (show 253 + E ≤ k by omega)]; rfl
        · rw [if_neg (by omega), if_neg (by omega), if_neg (by omega)]; rfl
end Go.Proofs.Ytiponhdcjccmaaa.Lines
