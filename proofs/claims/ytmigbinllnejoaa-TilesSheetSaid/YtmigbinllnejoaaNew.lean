/- tiles.NewSheet: what it lays. No condition but the hypotheses that stand in each. -/
import Derived.Test.YtmigbinllnejoaaColor
import Derived.Test.YtmigbinllnejoaaPx21
namespace Go.Proofs.Ytmigbinllnejoaa.P
open Go.RowKit Go.Proofs.YtmigbinllnejoaaW.PrintWords Go.Proofs.YtmigbinllnejoaaW.PrintLast Go.Proofs.YtmigbinllnejoaaW.PrintMore
set_option linter.unusedVariables false
set_option linter.unusedSimpArgs false
set_option maxHeartbeats 4000000
set_option maxRecDepth 100000
/-- The byte that the sheet takes at i. -/
def byteOf (l : List Int) (i : Nat) : Int := if i < l.length then rd l (i : Int) else 255
theorem at_byte (l : List Int) (i : Nat) : tiles_At.f l (i : Int) = some (byteOf l i) := by
  unfold tiles_At.f byteOf
  rw [if_neg (by omega)]
  by_cases h : i < l.length
  · rw [if_neg (by omega), if_pos (by omega), if_pos (by omega), if_pos h]
  · rw [if_pos (by omega), if_neg h]
/-- The bytes when k of them are laid. -/
def laid (l : List Int) (k : Nat) (i : Nat) : Int := if i < k then byteOf l i else 0
theorem laid_succ (l : List Int) (k i : Nat) : laid l (k + 1) i = if i = k then byteOf l k else laid l k i := by
  unfold laid
  by_cases h : i = k
  · subst h; simp
  · rw [if_neg h]
    by_cases h2 : i < k
    · rw [if_pos (by omega), if_pos h2]
    · rw [if_neg (by omega), if_neg h2]
section
variable {w₀ W W' : World} {b g : Nat} {d q z : Int} {rv : Value}
theorem Sh.byte {l : List Int} {k : Nat} (h : Sh w₀ b g (laid l k) d z q rv W) (hg : w₀.heap.size ≤ g) : Sh w₀ b g (laid l (k + 1)) d z q rv (W.setCell ⟨g, k, none⟩ (.int .u8 (byteOf l k))) where
  c0 := by rw [sh_at h.c0, if_neg (by have := h.ne; omega)]
  c1 := by rw [sh_at h.c1, if_neg (by have := h.ne; omega)]
  c3 := by rw [sh_at h.c3, if_neg (by have := h.ne; omega)]
  c4 := by rw [sh_at h.c4, if_neg (by have := h.ne; omega)]
  c5 := by rw [sh_at h.c5, if_neg (by have := h.ne; omega)]
  fz := fun i => by rw [World.frozen?_setCell]; exact h.fz i
  fg := fun i => by rw [World.frozen?_setCell]; exact h.fg i
  bs := fun i hi => by
    rw [sh_at (h.bs i hi), laid_succ]
    by_cases e : i = k
    · subst e; simp
    · rw [if_neg (by omega), if_neg e]
  lb := by simp [World.setCell]; exact h.lb
  lg := by simp [World.setCell]; exact h.lg
  hB := h.hB.set ⟨g, k, none⟩ (.inr hg) _
  ne := h.ne
end
end Go.Proofs.Ytmigbinllnejoaa.P
