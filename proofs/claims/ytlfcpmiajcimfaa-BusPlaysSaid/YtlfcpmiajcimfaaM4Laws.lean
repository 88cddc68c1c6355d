/- What the four functions of the memories answer behind a put. No condition but the bounds that stand in each. -/
import Derived.Test.YtlfcpmiajcimfaaM4
namespace Go.Proofs.Ytlfcpmiajcimfaa.P
set_option maxHeartbeats 2000000
/-- A region's byte at a place within; 255 where the region keeps none. -/
def M4.at (m : M4) (R k : Nat) : Int := if R = 1 then m.v k else if R = 3 then m.q k else if R = 4 then m.o k else if R = 7 then m.h k else 255
def M4.putAt (m : M4) (R k : Nat) (x : Int) : M4 := if R = 1 then { m with v := upd m.v k x } else if R = 3 then { m with q := upd m.q k x } else if R = 4 then { m with o := upd m.o k x } else if R = 7 then { m with h := upd m.h k x } else m
def keeps (R : Nat) : Prop := R = 1 ∨ R = 3 ∨ R = 4 ∨ R = 7
theorem at_putAt (m : M4) (R k : Nat) (x : Int) (h : keeps R) : (m.putAt R k x).at R k = x := by
  unfold M4.at M4.putAt upd
  rcases h with rfl | rfl | rfl | rfl <;> simp
theorem at_none (m : M4) (R k : Nat) (h : ¬ keeps R) : m.at R k = 255 := by
  unfold keeps at h
  unfold M4.at
  rw [if_neg (by omega), if_neg (by omega), if_neg (by omega), if_neg (by omega)]
theorem at_other (m : M4) (R k S j : Nat) (x : Int) (h : R ≠ S ∨ k ≠ j) : (m.putAt R k x).at S j = m.at S j := by
  unfold M4.at M4.putAt upd
  by_cases e1 : R = 1
  · subst e1; rw [if_pos rfl]
    by_cases s1 : S = 1
    · subst s1; simp; omega
    · rw [if_neg s1, if_neg s1]
  rw [if_neg e1]
  by_cases e3 : R = 3
  · subst e3; rw [if_pos rfl]
    by_cases s1 : S = 1
    · rw [if_pos s1, if_pos s1]
    rw [if_neg s1, if_neg s1]
    by_cases s3 : S = 3
    · subst s3; simp; omega
    · rw [if_neg s3, if_neg s3]
  rw [if_neg e3]
  by_cases e4 : R = 4
  · subst e4; rw [if_pos rfl]
    by_cases s1 : S = 1
    · rw [if_pos s1, if_pos s1]
    rw [if_neg s1, if_neg s1]
    by_cases s3 : S = 3
    · rw [if_pos s3, if_pos s3]
    rw [if_neg s3, if_neg s3]
    by_cases s4 : S = 4
    · subst s4; simp; omega
    · rw [if_neg s4, if_neg s4]
  rw [if_neg e4]
  by_cases e7 : R = 7
  · subst e7; rw [if_pos rfl]
    by_cases s1 : S = 1
    · rw [if_pos s1, if_pos s1]
    rw [if_neg s1, if_neg s1]
    by_cases s3 : S = 3
    · rw [if_pos s3, if_pos s3]
    rw [if_neg s3, if_neg s3]
    by_cases s4 : S = 4
    · rw [if_pos s4, if_pos s4]
    rw [if_neg s4, if_neg s4]
    by_cases s7 : S = 7
    · subst s7; simp; omega
    · rw [if_neg s7, if_neg s7]
  rw [if_neg e7]
def Rows (a F R : Nat) : Prop := (a < 32768 ∧ F = 0 ∧ R = 0) ∨ (32768 ≤ a ∧ a < 40960 ∧ F = 32768 ∧ R = 1) ∨ (40960 ≤ a ∧ a < 49152 ∧ F = 40960 ∧ R = 2) ∨ (49152 ≤ a ∧ a < 57344 ∧ F = 49152 ∧ R = 3) ∨ (57344 ≤ a ∧ a < 65024 ∧ F = 57344 ∧ R = 3) ∨
     (65024 ≤ a ∧ a < 65184 ∧ F = 65024 ∧ R = 4) ∨ (65184 ≤ a ∧ a < 65280 ∧ F = 65184 ∧ R = 5) ∨ (65280 ≤ a ∧ a < 65408 ∧ F = 65280 ∧ R = 6) ∨ (65408 ≤ a ∧ a < 65535 ∧ F = 65408 ∧ R = 7) ∨ (a = 65535 ∧ F = 65535 ∧ R = 8)
theorem get_at (m : M4) {a F R : Nat} (hc : Rows a F R) : m.get a = m.at R (a - F) := by
  unfold Rows at hc
  unfold M4.get M4.at
  rcases hc with ⟨c1, rfl, rfl⟩ | ⟨c1, c2, rfl, rfl⟩ | ⟨c1, c2, rfl, rfl⟩ | ⟨c1, c2, rfl, rfl⟩ | ⟨c1, c2, rfl, rfl⟩ | ⟨c1, c2, rfl, rfl⟩ | ⟨c1, c2, rfl, rfl⟩ | ⟨c1, c2, rfl, rfl⟩ | ⟨c1, c2, rfl, rfl⟩ | ⟨c1, rfl, rfl⟩
  · rw [if_pos c1]; rfl
  · rw [if_neg (by omega), if_pos c2]; rfl
  · rw [if_neg (by omega), if_neg (by omega), if_pos c2]; rfl
  · rw [if_neg (by omega), if_neg (by omega), if_neg (by omega), if_pos c2]; rfl
  · rw [if_neg (by omega), if_neg (by omega), if_neg (by omega), if_neg (by omega), if_pos c2]; rfl
  · rw [if_neg (by omega), if_neg (by omega), if_neg (by omega), if_neg (by omega), if_neg (by omega), if_pos c2]; rfl
  · rw [if_neg (by omega), if_neg (by omega), if_neg (by omega), if_neg (by omega), if_neg (by omega), if_neg (by omega), if_pos (by omega)]; rfl
  · rw [if_neg (by omega), if_neg (by omega), if_neg (by omega), if_neg (by omega), if_neg (by omega), if_neg (by omega), if_pos (by omega)]; rfl
  · rw [if_neg (by omega), if_neg (by omega), if_neg (by omega), if_neg (by omega), if_neg (by omega), if_neg (by omega), if_neg (by omega), if_pos c2]; rfl
  · rw [if_neg (by omega), if_neg (by omega), if_neg (by omega), if_neg (by omega), if_neg (by omega), if_neg (by omega), if_neg (by omega), if_neg (by omega)]; rfl
theorem put_at (m : M4) (x : Int) {a F R : Nat} (hc : Rows a F R) : m.put a x = m.putAt R (a - F) x := by
  unfold Rows at hc
  unfold M4.put M4.putAt
  rcases hc with ⟨c1, rfl, rfl⟩ | ⟨c1, c2, rfl, rfl⟩ | ⟨c1, c2, rfl, rfl⟩ | ⟨c1, c2, rfl, rfl⟩ | ⟨c1, c2, rfl, rfl⟩ | ⟨c1, c2, rfl, rfl⟩ | ⟨c1, c2, rfl, rfl⟩ | ⟨c1, c2, rfl, rfl⟩ | ⟨c1, c2, rfl, rfl⟩ | ⟨c1, rfl, rfl⟩
  · rw [if_pos c1]; rfl
  · rw [if_neg (by omega), if_pos c2]; rfl
  · rw [if_neg (by omega), if_neg (by omega), if_pos c2]; rfl
  · rw [if_neg (by omega), if_neg (by omega), if_neg (by omega), if_pos c2]; rfl
  · rw [if_neg (by omega), if_neg (by omega), if_neg (by omega), if_neg (by omega), if_pos c2]; rfl
  · rw [if_neg (by omega), if_neg (by omega), if_neg (by omega), if_neg (by omega), if_neg (by omega), if_pos c2]; rfl
  · rw [if_neg (by omega), if_neg (by omega), if_neg (by omega), if_neg (by omega), if_neg (by omega), if_neg (by omega), if_pos (by omega)]; rfl
  · rw [if_neg (by omega), if_neg (by omega), if_neg (by omega), if_neg (by omega), if_neg (by omega), if_neg (by omega), if_pos (by omega)]; rfl
  · rw [if_neg (by omega), if_neg (by omega), if_neg (by omega), if_neg (by omega), if_neg (by omega), if_neg (by omega), if_neg (by omega), if_pos c2]; rfl
  · rw [if_neg (by omega), if_neg (by omega), if_neg (by omega), if_neg (by omega), if_neg (by omega), if_neg (by omega), if_neg (by omega), if_neg (by omega)]; rfl
end Go.Proofs.Ytlfcpmiajcimfaa.P
