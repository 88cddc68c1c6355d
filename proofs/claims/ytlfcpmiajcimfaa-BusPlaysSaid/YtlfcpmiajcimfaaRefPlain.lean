/- The reference's memories as lists: what its functions make of the four rows of bytes. No condition but the bounds that stand in each. -/
import Derived.Test.YtlfcpmiajcimfaaPx20
import Derived.Test.YtlfcpmiajcimfaaPx21
import Derived.Test.YtlfcpmiajcimfaaPx22
import Derived.Test.YtlfcpmiajcimfaaPx23
import Derived.Test.YtlfcpmiajcimfaaPx25
import Derived.Test.YtlfcpmiajcimfaaPlain
import Derived.Test.YtlfcpmiajcimfaaM4Laws
namespace Go.Proofs.Ytlfcpmiajcimfaa.P
open Go.RowKit Go.Proofs.YtlfcpmiajcimfaaW.PrintWords Go.Proofs.Ytlfcpmiajcimfaa.Plain
set_option linter.unusedVariables false
set_option linter.unusedSimpArgs false
set_option maxHeartbeats 2000000
set_option maxRecDepth 100000
def lof (f : Nat → Int) (n : Nat) : List Int := (List.range n).map f
theorem lof_len (f : Nat → Int) (n : Nat) : (lof f n).length = n := by simp [lof]
theorem lof_at (f : Nat → Int) (n k : Nat) (h : k < n) : rd (lof f n) (k : Int) = f k := by
  simp [rd, lof, h]
theorem lof_set (f : Nat → Int) (n k : Nat) (x : Int) : (lof f n).set k x = lof (upd f k x) n := by
  apply List.ext_getElem?
  intro i
  rw [List.getElem?_set]
  unfold lof upd
  by_cases hi : i < n
  · by_cases e : k = i
    · subst e; simp [hi]
    · have e2 : ¬ i = k := fun h => e h.symm
      simp [hi, e, e2]
  · by_cases e : k = i
    · subst e; simp [hi]
    · simp [hi, e]
theorem with_lof (f : Nat → Int) (n k : Nat) (x : Int) (hk : k < n) (hn : n ≤ 8192) : whirligigref20_with.f (lof f n) (k : Int) x = some (lof (upd f k x) n) := by
  unfold whirligigref20_with.f
  simp only [Option.bind_some, List.nil_append, List.length_nil, Nat.zero_add]
  rw [if_pos (by rw [lof_len]; omega), if_pos (by omega), if_pos (by rw [lof_len]; omega)]
  rw [Int.toNat_natCast, lof_set]
theorem put_lof (m : M4) (a : Nat) (ha : a < 65536) (x : Int) : whirligigref20_Put.f (lof m.v 8192) (lof m.q 8192) (lof m.o 160) (lof m.h 127) (a : Int) x = some (lof (m.put a x).v 8192, lof (m.put a x).q 8192, lof (m.put a x).o 160, lof (m.put a x).h 127) := by
  obtain ⟨F, R, h1, h2, h3, hF, hc⟩ := reg a ha
  have hR : Rows a F R := hc
  rw [put_at m x hR]
  unfold whirligigref20_Put.f
  rw [h3]
  simp only [Option.bind_some]
  unfold M4.putAt
  rcases hc with ⟨c1, rfl, rfl⟩ | ⟨c1, c2, rfl, rfl⟩ | ⟨c1, c2, rfl, rfl⟩ | ⟨c1, c2, rfl, rfl⟩ | ⟨c1, c2, rfl, rfl⟩ | ⟨c1, c2, rfl, rfl⟩ | ⟨c1, c2, rfl, rfl⟩ | ⟨c1, c2, rfl, rfl⟩ | ⟨c1, c2, rfl, rfl⟩ | ⟨c1, rfl, rfl⟩
  · rfl
  · rw [with_lof m.v 8192 (a - 32768) x (by omega) (by omega)]; rfl
  · rfl
  · rw [with_lof m.q 8192 (a - 49152) x (by omega) (by omega)]; rfl
  · rw [with_lof m.q 8192 (a - 57344) x (by omega) (by omega)]; rfl
  · rw [with_lof m.o 160 (a - 65024) x (by omega) (by omega)]; rfl
  · rfl
  · rfl
  · rw [with_lof m.h 127 (a - 65408) x (by omega) (by omega)]; rfl
  · rfl
theorem get_lof (m : M4) (a : Nat) (ha : a < 65536) : whirligigref20_Get.f (lof m.v 8192) (lof m.q 8192) (lof m.o 160) (lof m.h 127) (a : Int) = some (m.get a) := by
  obtain ⟨F, R, h1, h2, h3, hF, hc⟩ := reg a ha
  have hR : Rows a F R := hc
  rw [get_at m hR]
  unfold whirligigref20_Get.f
  rw [h3]
  simp only [Option.bind_some]
  rcases hc with ⟨c1, rfl, rfl⟩ | ⟨c1, c2, rfl, rfl⟩ | ⟨c1, c2, rfl, rfl⟩ | ⟨c1, c2, rfl, rfl⟩ | ⟨c1, c2, rfl, rfl⟩ | ⟨c1, c2, rfl, rfl⟩ | ⟨c1, c2, rfl, rfl⟩ | ⟨c1, c2, rfl, rfl⟩ | ⟨c1, c2, rfl, rfl⟩ | ⟨c1, rfl, rfl⟩
  · rfl
  · rw [if_pos (show ((1:Nat):Int) = 1 from rfl), if_pos (by omega), if_pos (by rw [lof_len]; omega), lof_at _ _ _ (by omega)]; rfl
  · rfl
  · rw [if_neg (show ¬ ((3:Nat):Int) = 1 by decide), if_pos (show ((3:Nat):Int) = 3 from rfl), if_pos (by omega), if_pos (by rw [lof_len]; omega), lof_at _ _ _ (by omega)]; rfl
  · rw [if_neg (show ¬ ((3:Nat):Int) = 1 by decide), if_pos (show ((3:Nat):Int) = 3 from rfl), if_pos (by omega), if_pos (by rw [lof_len]; omega), lof_at _ _ _ (by omega)]; rfl
  · rw [if_neg (show ¬ ((4:Nat):Int) = 1 by decide), if_neg (show ¬ ((4:Nat):Int) = 3 by decide), if_pos (show ((4:Nat):Int) = 4 from rfl), if_pos (by omega), if_pos (by rw [lof_len]; omega), lof_at _ _ _ (by omega)]; rfl
  · rfl
  · rfl
  · rw [if_neg (show ¬ ((7:Nat):Int) = 1 by decide), if_neg (show ¬ ((7:Nat):Int) = 3 by decide), if_neg (show ¬ ((7:Nat):Int) = 4 by decide), if_pos (show ((7:Nat):Int) = 7 from rfl), if_pos (by omega), if_pos (by rw [lof_len]; omega), lof_at _ _ _ (by omega)]; rfl
  · rfl
theorem object_lof (m : M4) (k : Nat) (hk : k < 256) (x : Int) : whirligigref20_Object.f (lof m.v 8192) (lof m.q 8192) (lof m.o 160) (lof m.h 127) (k : Int) x = some (lof (m.object k x).v 8192, lof (m.object k x).q 8192, lof (m.object k x).o 160, lof (m.object k x).h 127) := by
  unfold whirligigref20_Object.f M4.object
  by_cases h : k < 160
  · rw [if_pos (by omega), if_pos h, show wrap64 (k : Int) = (k : Int) by unfold wrap64; omega, with_lof m.o 160 k x h (by omega)]; rfl
  · rw [if_neg (by omega), if_neg h]
theorem new_lof : whirligigref20_New.f = some (lof M4.zero.v 8192, lof M4.zero.q 8192, lof M4.zero.o 160, lof M4.zero.h 127) := by
  have h : ∀ n, List.replicate n (0 : Int) = lof (fun _ => 0) n := fun n => by simp [lof, List.map_const']
  unfold whirligigref20_New.f
  rw [if_pos (by omega), if_pos (by omega), if_pos (by omega), h, h, h]
  rfl
end Go.Proofs.Ytlfcpmiajcimfaa.P
