/- What is read twice is the same. No condition but the hypotheses that stand in each. -/
import Derived.Test.YtgkoghgiclkbhaaGreatDoorA21Mt
import Derived.Test.YtgkoghgiclkbhaaGreatDoorA22Mu
import Derived.Test.YtgkoghgiclkbhaaGreatDoorA23Mv
namespace Go.Proofs.YtgkoghgiclkbhaaGreatDoor.Sx
open Go
noncomputable section
set_option maxRecDepth 100000
def clsA : List ((Int × Int) × (Int × Int)) := [((-9223372036854775808, 0), (0, 16383)), ((1, 1), (0, 16383)), ((2, 9223372036854775807), (0, 16383)), ((-9223372036854775808, 0), (16384, 32767)), ((1, 1), (16384, 32767)), ((2, 9223372036854775807), (16384, 32767))]
def clsB : List ((Int × Int) × (Int × Int)) := [((-9223372036854775808, 0), (40960, 49151)), ((1, 1), (40960, 49151)), ((2, 2), (40960, 49151)), ((4, 9223372036854775807), (40960, 49151)), ((3, 3), (40960, 49151))]
theorem stab1 : Stab false JRc1 := by
  refine stab_of (XS_ok noHook_ok) rfl (cl := cartL) (cs := clsA) (by kernel_rfl) (klo := -9223372036854775808) (khi := 9223372036854775807) (alo := 0) (ahi := 32767) (by kernel_rfl) (by kernel_rfl) (by kernel_rfl) ?_ ?_
  · intro kv av h1 h2 h3 h4
    have hk : kv ≤ 0 ∨ kv = 1 ∨ 2 ≤ kv := by omega
    have ha : av ≤ 16383 ∨ 16384 ≤ av := by omega
    rcases ha with ha | ha <;> rcases hk with hk | hk | hk
    · exact ⟨((-9223372036854775808, 0), (0, 16383)), by simp [clsA], by dsimp only; omega, by dsimp only; omega, by dsimp only; omega, by dsimp only; omega⟩
    · exact ⟨((1, 1), (0, 16383)), by simp [clsA], by dsimp only; omega, by dsimp only; omega, by dsimp only; omega, by dsimp only; omega⟩
    · exact ⟨((2, 9223372036854775807), (0, 16383)), by simp [clsA], by dsimp only; omega, by dsimp only; omega, by dsimp only; omega, by dsimp only; omega⟩
    · exact ⟨((-9223372036854775808, 0), (16384, 32767)), by simp [clsA], by dsimp only; omega, by dsimp only; omega, by dsimp only; omega, by dsimp only; omega⟩
    · exact ⟨((1, 1), (16384, 32767)), by simp [clsA], by dsimp only; omega, by dsimp only; omega, by dsimp only; omega, by dsimp only; omega⟩
    · exact ⟨((2, 9223372036854775807), (16384, 32767)), by simp [clsA], by dsimp only; omega, by dsimp only; omega, by dsimp only; omega, by dsimp only; omega⟩
  · intro c hc
    simp only [clsA, List.mem_cons, List.not_mem_nil, or_false] at hc
    rcases hc with rfl | rfl | rfl | rfl | rfl | rfl
    · exact stA0
    · exact stA1
    · exact stA2
    · exact stA3
    · exact stA4
    · exact stA5
theorem stab2 : Stab false JRc2 := by
  refine stab_of (XS_ok noHook_ok) rfl (cl := cartL) (cs := clsB) (by kernel_rfl) (klo := -9223372036854775808) (khi := 9223372036854775807) (alo := 40960) (ahi := 49151) (by kernel_rfl) (by kernel_rfl) (by kernel_rfl) ?_ ?_
  · intro kv av h1 h2 h3 h4
    have hk : kv ≤ 0 ∨ kv = 1 ∨ kv = 2 ∨ 4 ≤ kv ∨ kv = 3 := by omega
    rcases hk with hk | hk | hk | hk | hk
    · exact ⟨((-9223372036854775808, 0), (40960, 49151)), by simp [clsB], by dsimp only; omega, by dsimp only; omega, by dsimp only; omega, by dsimp only; omega⟩
    · exact ⟨((1, 1), (40960, 49151)), by simp [clsB], by dsimp only; omega, by dsimp only; omega, by dsimp only; omega, by dsimp only; omega⟩
    · exact ⟨((2, 2), (40960, 49151)), by simp [clsB], by dsimp only; omega, by dsimp only; omega, by dsimp only; omega, by dsimp only; omega⟩
    · exact ⟨((4, 9223372036854775807), (40960, 49151)), by simp [clsB], by dsimp only; omega, by dsimp only; omega, by dsimp only; omega, by dsimp only; omega⟩
    · exact ⟨((3, 3), (40960, 49151)), by simp [clsB], by dsimp only; omega, by dsimp only; omega, by dsimp only; omega, by dsimp only; omega⟩
  · intro c hc
    simp only [clsB, List.mem_cons, List.not_mem_nil, or_false] at hc
    rcases hc with rfl | rfl | rfl | rfl | rfl
    · exact stB0
    · exact stB1
    · exact stB2
    · exact stB3
    · exact stC0
theorem fn_ok (f : FuncId) (h : (tblP Tryz.prog f).isSome = true) : ∃ fi, FnOk Tryz.prog f fi := by
  obtain ⟨fi, hfi⟩ := Option.isSome_iff_exists.1 h
  exact ⟨fi, tbl_ok f fi hfi⟩
theorem hcC_ok : CallOk Tryz.prog hcC := by
  obtain ⟨fi, h⟩ := fn_ok 41 (by kernel_rfl)
  exact orHook_ok (hookK_ok stab1 (by kernel_rfl) (k := false) h) (hookK_ok stab2 (by kernel_rfl) (k := false) h)
theorem stM : stCls (XS hcC) true JS3 ((-9223372036854775808, 9223372036854775807), (0, 57343)) = true := by kernel_rfl
theorem stab3 : Stab true JRd := by
  refine stab_of (XS_ok hcC_ok) rfl (cl := cartL) (cs := [((-9223372036854775808, 9223372036854775807), (0, 57343))]) (by kernel_rfl) (klo := -9223372036854775808) (khi := 9223372036854775807) (alo := 0) (ahi := 57343) (by kernel_rfl) (by kernel_rfl) (by kernel_rfl) ?_ ?_
  · intro kv av h1 h2 h3 h4
    exact ⟨_, List.mem_singleton.2 rfl, h1, h2, h3, h4⟩
  · intro c hc
    rw [List.mem_singleton] at hc
    subst hc
    exact stM
end
end Go.Proofs.YtgkoghgiclkbhaaGreatDoor.Sx
