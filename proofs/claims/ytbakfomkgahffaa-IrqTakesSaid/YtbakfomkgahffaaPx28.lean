/- Contracts of Go functions of this seat: each Lean function here is what the Go function of its name answers, in every memory; no condition but the equations that each theorem states. Written by a program of this session (wip/given.py); Lean checks it. -/
import Derived.Test.YtbakfomkgahffaaPx0
import Derived.Test.YtbakfomkgahffaaPx3
import Derived.Test.YtbakfomkgahffaaPx4
import Derived.Test.YtbakfomkgahffaaPx6
import Derived.Test.YtbakfomkgahffaaPx8
import Derived.Test.YtbakfomkgahffaaPx23
import Derived.Test.YtbakfomkgahffaaPx25
namespace Go.Proofs.Ytbakfomkgahffaa.P
open Go.RowKit Go.Proofs.YtbakfomkgahffaaW.PrintWords Go.Proofs.YtbakfomkgahffaaW.PrintLast Go.Proofs.YtbakfomkgahffaaW.PrintMore
attribute [local go_sem] max2_int min2_int max_two min_two max_three min_three max_four min_four   -- for this text's walks alone
set_option linter.unusedVariables false
set_option linter.unusedSimpArgs false

/-! ### whirligiglaw14_IrqTakes: function 8 -/
mutual
def whirligiglaw14_IrqTakes.j0 : Nat → Bool → Int → Int → Int → Bool → Int → Int → Bool → Option (Bool)
  | 0, _, _, _, _, _, _, _, _ => none
  | k + 1, x5, x6, x9, x11, x12, x13, x14, x87 => if x87 = true then (some false) else (whirligiglaw14_IrqTakes.l0 k x5 x6 x9 x11 x12 x13 x14 0)
def whirligiglaw14_IrqTakes.l0 : Nat → Bool → Int → Int → Int → Bool → Int → Int → Int → Option (Bool)
  | 0, _, _, _, _, _, _, _, _ => none
  | k + 1, x5, x6, x9, x11, x12, x13, x14, x15 => if x15 < x11 then (if 0 ≤ x15 then (if (Go.bits .and .u8 (shr .u8 x9 x15) 1) = 0 then (whirligiglaw14_IrqTakes.l0 k x5 x6 x9 x11 x12 x13 x14 (wrap64 (x15 + 1))) else (some false)) else (none)) else (if x5 = true then (if x12 = true then (if x11 ≤ 4 then (if 0 ≤ x11 then (if (Go.bits .and .u8 (shr .u8 x9 x11) 1) = 1 then (if (wrap64 (x13)) = (wrap64 (64 + (wrap64 (8 * x6)))) then (some (x14 == 0)) else (some false)) else (some false)) else (none)) else (some false)) else (if (wrap64 (x13)) = (wrap64 (64 + (wrap64 (8 * x6)))) then (some (x14 == 0)) else (some false))) else (some false))
end
def whirligiglaw14_IrqTakes.f (k : Nat) (a0_0 : Int) (a0_1 : Int) (a1 : Int) : Option (Bool) := (whirligiglaw14_shown.f).bind fun t177 => ((irq_Ask.f a0_0 a0_1 (wrap64 (Int.tmod a1 5))).bind fun bt178 => ((irq_Take.f bt178.1 bt178.2 (wrap64 (Int.tmod a1 5))).bind fun bt181 => ((irq_Pending.f bt178.1 bt178.2).bind fun t184 => ((irq_Pending.f bt181.1 bt181.2).bind fun t185 => ((irq_First.f t184).bind fun bt186 => ((irq_Vector.f (wrap64 (Int.tmod a1 5))).bind fun bt188 => (if 0 ≤ (wrap64 (Int.tmod a1 5)) then (if (Go.bits .or .u8 t184 (shl .u8 1 (wrap64 (Int.tmod a1 5)))) = (Go.bits .or .u8 t185 (shl .u8 1 (wrap64 (Int.tmod a1 5)))) then (if (Go.bits .and .u8 (shr .u8 t185 (wrap64 (Int.tmod a1 5))) 1) = 0 then (if (Go.bits .and .u8 (shr .u8 t184 (wrap64 (Int.tmod a1 5))) 1) = (Go.bits .and .u8 (shr .u8 a0_1 (wrap64 (Int.tmod a1 5))) 1) then (if (bt186.2 != (t184 != 0)) = true then (whirligiglaw14_IrqTakes.j0 k t177 (wrap64 (Int.tmod a1 5)) t184 bt186.1 bt186.2 bt188.1 bt188.2 true) else (if bt178.2 = a0_1 then (whirligiglaw14_IrqTakes.j0 k t177 (wrap64 (Int.tmod a1 5)) t184 bt186.1 bt186.2 bt188.1 bt188.2 (bt181.2 != a0_1)) else (whirligiglaw14_IrqTakes.j0 k t177 (wrap64 (Int.tmod a1 5)) t184 bt186.1 bt186.2 bt188.1 bt188.2 true))) else (whirligiglaw14_IrqTakes.j0 k t177 (wrap64 (Int.tmod a1 5)) t184 bt186.1 bt186.2 bt188.1 bt188.2 true)) else (whirligiglaw14_IrqTakes.j0 k t177 (wrap64 (Int.tmod a1 5)) t184 bt186.1 bt186.2 bt188.1 bt188.2 true)) else (whirligiglaw14_IrqTakes.j0 k t177 (wrap64 (Int.tmod a1 5)) t184 bt186.1 bt186.2 bt188.1 bt188.2 true)) else (none))))))))
theorem whirligiglaw14_IrqTakes.mono_l : ∀ k, (∀ y0 y1 y2 y3 y4 y5 y6 y7, LeO (whirligiglaw14_IrqTakes.j0 k y0 y1 y2 y3 y4 y5 y6 y7) (whirligiglaw14_IrqTakes.j0 (k + 1) y0 y1 y2 y3 y4 y5 y6 y7)) ∧ (∀ y0 y1 y2 y3 y4 y5 y6 y7, LeO (whirligiglaw14_IrqTakes.l0 k y0 y1 y2 y3 y4 y5 y6 y7) (whirligiglaw14_IrqTakes.l0 (k + 1) y0 y1 y2 y3 y4 y5 y6 y7))
  | 0 => ⟨fun _ _ _ _ _ _ _ _ r h => by simp [whirligiglaw14_IrqTakes.j0] at h, fun _ _ _ _ _ _ _ _ r h => by simp [whirligiglaw14_IrqTakes.l0] at h⟩
  | k + 1 => by
    obtain ⟨ih0, ih1⟩ := whirligiglaw14_IrqTakes.mono_l k
    refine ⟨?_, ?_⟩
    · intro y0 y1 y2 y3 y4 y5 y6 y7
      unfold whirligiglaw14_IrqTakes.j0
      repeat' first
      | (with_reducible exact ih0 _ _ _ _ _ _ _ _)
      | (with_reducible exact ih1 _ _ _ _ _ _ _ _)
      | (with_reducible exact LeO.refl _)
      | (with_reducible exact LeO.none _)
      | (with_reducible refine LeO.ite ?_ ?_)
      | (with_reducible refine LeO.bind ?_ (fun _ => ?_))
      | exact ih0 _ _ _ _ _ _ _ _
      | exact ih1 _ _ _ _ _ _ _ _
      | exact LeO.none _
      | refine LeO.ite ?_ ?_
      | refine LeO.bind ?_ (fun _ => ?_)
    · intro y0 y1 y2 y3 y4 y5 y6 y7
      unfold whirligiglaw14_IrqTakes.l0
      repeat' first
      | (with_reducible exact ih0 _ _ _ _ _ _ _ _)
      | (with_reducible exact ih1 _ _ _ _ _ _ _ _)
      | (with_reducible exact LeO.refl _)
      | (with_reducible exact LeO.none _)
      | (with_reducible refine LeO.ite ?_ ?_)
      | (with_reducible refine LeO.bind ?_ (fun _ => ?_))
      | exact ih0 _ _ _ _ _ _ _ _
      | exact ih1 _ _ _ _ _ _ _ _
      | exact LeO.none _
      | refine LeO.ite ?_ ?_
      | refine LeO.bind ?_ (fun _ => ?_)
theorem whirligiglaw14_IrqTakes.mono : ∀ a0 a1 a2 k, LeO (whirligiglaw14_IrqTakes.f k a0 a1 a2) (whirligiglaw14_IrqTakes.f (k + 1) a0 a1 a2) := by
  intro a0 a1 a2 k
  obtain ⟨ih0, ih1⟩ := whirligiglaw14_IrqTakes.mono_l k
  unfold whirligiglaw14_IrqTakes.f
  repeat' first
      | (with_reducible exact ih0 _ _ _ _ _ _ _ _)
      | (with_reducible exact ih1 _ _ _ _ _ _ _ _)
      | (with_reducible exact LeO.refl _)
      | (with_reducible exact LeO.none _)
      | (with_reducible refine LeO.ite ?_ ?_)
      | (with_reducible refine LeO.bind ?_ (fun _ => ?_))
      | exact ih0 _ _ _ _ _ _ _ _
      | exact ih1 _ _ _ _ _ _ _ _
      | exact LeO.none _
      | refine LeO.ite ?_ ?_
      | refine LeO.bind ?_ (fun _ => ?_)
set_option maxHeartbeats 8000000 in
set_option maxRecDepth 100000 in
theorem whirligiglaw14_IrqTakes.calls (k : Nat) (a0_0 : Int) (a0_1 : Int) (a1 : Int) (r : Bool) (w : World) (h : whirligiglaw14_IrqTakes.f k a0_0 a0_1 a1 = some r) :
    Calls Try.prog 8 #[.agg #[.int .u8 a0_0, .int .u8 a0_1], .int .u8 a1] w fun e w' => e = .returned (.bool r) ∧ Below w.heap.size w w' := by
  have hu23 := Try.underlying23
  have HB := Aside0.mk (Below.refl w.heap.size w)
  have H : ((whirligiglaw14_shown.f).bind fun t177 => ((irq_Ask.f a0_0 a0_1 (wrap64 (Int.tmod a1 5))).bind fun bt178 => ((irq_Take.f bt178.1 bt178.2 (wrap64 (Int.tmod a1 5))).bind fun bt181 => ((irq_Pending.f bt178.1 bt178.2).bind fun t184 => ((irq_Pending.f bt181.1 bt181.2).bind fun t185 => ((irq_First.f t184).bind fun bt186 => ((irq_Vector.f (wrap64 (Int.tmod a1 5))).bind fun bt188 => (if 0 ≤ (wrap64 (Int.tmod a1 5)) then (if (Go.bits .or .u8 t184 (shl .u8 1 (wrap64 (Int.tmod a1 5)))) = (Go.bits .or .u8 t185 (shl .u8 1 (wrap64 (Int.tmod a1 5)))) then (if (Go.bits .and .u8 (shr .u8 t185 (wrap64 (Int.tmod a1 5))) 1) = 0 then (if (Go.bits .and .u8 (shr .u8 t184 (wrap64 (Int.tmod a1 5))) 1) = (Go.bits .and .u8 (shr .u8 a0_1 (wrap64 (Int.tmod a1 5))) 1) then (if (bt186.2 != (t184 != 0)) = true then (whirligiglaw14_IrqTakes.j0 k t177 (wrap64 (Int.tmod a1 5)) t184 bt186.1 bt186.2 bt188.1 bt188.2 true) else (if bt178.2 = a0_1 then (whirligiglaw14_IrqTakes.j0 k t177 (wrap64 (Int.tmod a1 5)) t184 bt186.1 bt186.2 bt188.1 bt188.2 (bt181.2 != a0_1)) else (whirligiglaw14_IrqTakes.j0 k t177 (wrap64 (Int.tmod a1 5)) t184 bt186.1 bt186.2 bt188.1 bt188.2 true))) else (whirligiglaw14_IrqTakes.j0 k t177 (wrap64 (Int.tmod a1 5)) t184 bt186.1 bt186.2 bt188.1 bt188.2 true)) else (whirligiglaw14_IrqTakes.j0 k t177 (wrap64 (Int.tmod a1 5)) t184 bt186.1 bt186.2 bt188.1 bt188.2 true)) else (whirligiglaw14_IrqTakes.j0 k t177 (wrap64 (Int.tmod a1 5)) t184 bt186.1 bt186.2 bt188.1 bt188.2 true)) else (none))))))))) = some r := h
  clear h
  replace H := Option.bind_eq_some_iff.mp H
  obtain ⟨t177, A30, H⟩ := H
  replace H : ((irq_Ask.f a0_0 a0_1 (wrap64 (Int.tmod a1 5))).bind fun bt178 => ((irq_Take.f bt178.1 bt178.2 (wrap64 (Int.tmod a1 5))).bind fun bt181 => ((irq_Pending.f bt178.1 bt178.2).bind fun t184 => ((irq_Pending.f bt181.1 bt181.2).bind fun t185 => ((irq_First.f t184).bind fun bt186 => ((irq_Vector.f (wrap64 (Int.tmod a1 5))).bind fun bt188 => (if 0 ≤ (wrap64 (Int.tmod a1 5)) then (if (Go.bits .or .u8 t184 (shl .u8 1 (wrap64 (Int.tmod a1 5)))) = (Go.bits .or .u8 t185 (shl .u8 1 (wrap64 (Int.tmod a1 5)))) then (if (Go.bits .and .u8 (shr .u8 t185 (wrap64 (Int.tmod a1 5))) 1) = 0 then (if (Go.bits .and .u8 (shr .u8 t184 (wrap64 (Int.tmod a1 5))) 1) = (Go.bits .and .u8 (shr .u8 a0_1 (wrap64 (Int.tmod a1 5))) 1) then (if (bt186.2 != (t184 != 0)) = true then (whirligiglaw14_IrqTakes.j0 k t177 (wrap64 (Int.tmod a1 5)) t184 bt186.1 bt186.2 bt188.1 bt188.2 true) else (if bt178.2 = a0_1 then (whirligiglaw14_IrqTakes.j0 k t177 (wrap64 (Int.tmod a1 5)) t184 bt186.1 bt186.2 bt188.1 bt188.2 (bt181.2 != a0_1)) else (whirligiglaw14_IrqTakes.j0 k t177 (wrap64 (Int.tmod a1 5)) t184 bt186.1 bt186.2 bt188.1 bt188.2 true))) else (whirligiglaw14_IrqTakes.j0 k t177 (wrap64 (Int.tmod a1 5)) t184 bt186.1 bt186.2 bt188.1 bt188.2 true)) else (whirligiglaw14_IrqTakes.j0 k t177 (wrap64 (Int.tmod a1 5)) t184 bt186.1 bt186.2 bt188.1 bt188.2 true)) else (whirligiglaw14_IrqTakes.j0 k t177 (wrap64 (Int.tmod a1 5)) t184 bt186.1 bt186.2 bt188.1 bt188.2 true)) else (none)))))))) = some r := H
  have A3 := Aside0.mk A30
  clear A30
  replace H := Option.bind_eq_some_iff.mp H
  obtain ⟨⟨t178, t179⟩, A40, H⟩ := H
  replace H : ((irq_Take.f t178 t179 (wrap64 (Int.tmod a1 5))).bind fun bt181 => ((irq_Pending.f t178 t179).bind fun t184 => ((irq_Pending.f bt181.1 bt181.2).bind fun t185 => ((irq_First.f t184).bind fun bt186 => ((irq_Vector.f (wrap64 (Int.tmod a1 5))).bind fun bt188 => (if 0 ≤ (wrap64 (Int.tmod a1 5)) then (if (Go.bits .or .u8 t184 (shl .u8 1 (wrap64 (Int.tmod a1 5)))) = (Go.bits .or .u8 t185 (shl .u8 1 (wrap64 (Int.tmod a1 5)))) then (if (Go.bits .and .u8 (shr .u8 t185 (wrap64 (Int.tmod a1 5))) 1) = 0 then (if (Go.bits .and .u8 (shr .u8 t184 (wrap64 (Int.tmod a1 5))) 1) = (Go.bits .and .u8 (shr .u8 a0_1 (wrap64 (Int.tmod a1 5))) 1) then (if (bt186.2 != (t184 != 0)) = true then (whirligiglaw14_IrqTakes.j0 k t177 (wrap64 (Int.tmod a1 5)) t184 bt186.1 bt186.2 bt188.1 bt188.2 true) else (if t179 = a0_1 then (whirligiglaw14_IrqTakes.j0 k t177 (wrap64 (Int.tmod a1 5)) t184 bt186.1 bt186.2 bt188.1 bt188.2 (bt181.2 != a0_1)) else (whirligiglaw14_IrqTakes.j0 k t177 (wrap64 (Int.tmod a1 5)) t184 bt186.1 bt186.2 bt188.1 bt188.2 true))) else (whirligiglaw14_IrqTakes.j0 k t177 (wrap64 (Int.tmod a1 5)) t184 bt186.1 bt186.2 bt188.1 bt188.2 true)) else (whirligiglaw14_IrqTakes.j0 k t177 (wrap64 (Int.tmod a1 5)) t184 bt186.1 bt186.2 bt188.1 bt188.2 true)) else (whirligiglaw14_IrqTakes.j0 k t177 (wrap64 (Int.tmod a1 5)) t184 bt186.1 bt186.2 bt188.1 bt188.2 true)) else (none))))))) = some r := H
  have A4 := Aside0.mk A40
  clear A40
  replace H := Option.bind_eq_some_iff.mp H
  obtain ⟨⟨t181, t182⟩, A50, H⟩ := H
  replace H : ((irq_Pending.f t178 t179).bind fun t184 => ((irq_Pending.f t181 t182).bind fun t185 => ((irq_First.f t184).bind fun bt186 => ((irq_Vector.f (wrap64 (Int.tmod a1 5))).bind fun bt188 => (if 0 ≤ (wrap64 (Int.tmod a1 5)) then (if (Go.bits .or .u8 t184 (shl .u8 1 (wrap64 (Int.tmod a1 5)))) = (Go.bits .or .u8 t185 (shl .u8 1 (wrap64 (Int.tmod a1 5)))) then (if (Go.bits .and .u8 (shr .u8 t185 (wrap64 (Int.tmod a1 5))) 1) = 0 then (if (Go.bits .and .u8 (shr .u8 t184 (wrap64 (Int.tmod a1 5))) 1) = (Go.bits .and .u8 (shr .u8 a0_1 (wrap64 (Int.tmod a1 5))) 1) then (if (bt186.2 != (t184 != 0)) = true then (whirligiglaw14_IrqTakes.j0 k t177 (wrap64 (Int.tmod a1 5)) t184 bt186.1 bt186.2 bt188.1 bt188.2 true) else (if t179 = a0_1 then (whirligiglaw14_IrqTakes.j0 k t177 (wrap64 (Int.tmod a1 5)) t184 bt186.1 bt186.2 bt188.1 bt188.2 (t182 != a0_1)) else (whirligiglaw14_IrqTakes.j0 k t177 (wrap64 (Int.tmod a1 5)) t184 bt186.1 bt186.2 bt188.1 bt188.2 true))) else (whirligiglaw14_IrqTakes.j0 k t177 (wrap64 (Int.tmod a1 5)) t184 bt186.1 bt186.2 bt188.1 bt188.2 true)) else (whirligiglaw14_IrqTakes.j0 k t177 (wrap64 (Int.tmod a1 5)) t184 bt186.1 bt186.2 bt188.1 bt188.2 true)) else (whirligiglaw14_IrqTakes.j0 k t177 (wrap64 (Int.tmod a1 5)) t184 bt186.1 bt186.2 bt188.1 bt188.2 true)) else (none)))))) = some r := H
  have A5 := Aside0.mk A50
  clear A50
  replace H := Option.bind_eq_some_iff.mp H
  obtain ⟨t184, A60, H⟩ := H
  replace H : ((irq_Pending.f t181 t182).bind fun t185 => ((irq_First.f t184).bind fun bt186 => ((irq_Vector.f (wrap64 (Int.tmod a1 5))).bind fun bt188 => (if 0 ≤ (wrap64 (Int.tmod a1 5)) then (if (Go.bits .or .u8 t184 (shl .u8 1 (wrap64 (Int.tmod a1 5)))) = (Go.bits .or .u8 t185 (shl .u8 1 (wrap64 (Int.tmod a1 5)))) then (if (Go.bits .and .u8 (shr .u8 t185 (wrap64 (Int.tmod a1 5))) 1) = 0 then (if (Go.bits .and .u8 (shr .u8 t184 (wrap64 (Int.tmod a1 5))) 1) = (Go.bits .and .u8 (shr .u8 a0_1 (wrap64 (Int.tmod a1 5))) 1) then (if (bt186.2 != (t184 != 0)) = true then (whirligiglaw14_IrqTakes.j0 k t177 (wrap64 (Int.tmod a1 5)) t184 bt186.1 bt186.2 bt188.1 bt188.2 true) else (if t179 = a0_1 then (whirligiglaw14_IrqTakes.j0 k t177 (wrap64 (Int.tmod a1 5)) t184 bt186.1 bt186.2 bt188.1 bt188.2 (t182 != a0_1)) else (whirligiglaw14_IrqTakes.j0 k t177 (wrap64 (Int.tmod a1 5)) t184 bt186.1 bt186.2 bt188.1 bt188.2 true))) else (whirligiglaw14_IrqTakes.j0 k t177 (wrap64 (Int.tmod a1 5)) t184 bt186.1 bt186.2 bt188.1 bt188.2 true)) else (whirligiglaw14_IrqTakes.j0 k t177 (wrap64 (Int.tmod a1 5)) t184 bt186.1 bt186.2 bt188.1 bt188.2 true)) else (whirligiglaw14_IrqTakes.j0 k t177 (wrap64 (Int.tmod a1 5)) t184 bt186.1 bt186.2 bt188.1 bt188.2 true)) else (none))))) = some r := H
  have A6 := Aside0.mk A60
  clear A60
  replace H := Option.bind_eq_some_iff.mp H
  obtain ⟨t185, A70, H⟩ := H
  replace H : ((irq_First.f t184).bind fun bt186 => ((irq_Vector.f (wrap64 (Int.tmod a1 5))).bind fun bt188 => (if 0 ≤ (wrap64 (Int.tmod a1 5)) then (if (Go.bits .or .u8 t184 (shl .u8 1 (wrap64 (Int.tmod a1 5)))) = (Go.bits .or .u8 t185 (shl .u8 1 (wrap64 (Int.tmod a1 5)))) then (if (Go.bits .and .u8 (shr .u8 t185 (wrap64 (Int.tmod a1 5))) 1) = 0 then (if (Go.bits .and .u8 (shr .u8 t184 (wrap64 (Int.tmod a1 5))) 1) = (Go.bits .and .u8 (shr .u8 a0_1 (wrap64 (Int.tmod a1 5))) 1) then (if (bt186.2 != (t184 != 0)) = true then (whirligiglaw14_IrqTakes.j0 k t177 (wrap64 (Int.tmod a1 5)) t184 bt186.1 bt186.2 bt188.1 bt188.2 true) else (if t179 = a0_1 then (whirligiglaw14_IrqTakes.j0 k t177 (wrap64 (Int.tmod a1 5)) t184 bt186.1 bt186.2 bt188.1 bt188.2 (t182 != a0_1)) else (whirligiglaw14_IrqTakes.j0 k t177 (wrap64 (Int.tmod a1 5)) t184 bt186.1 bt186.2 bt188.1 bt188.2 true))) else (whirligiglaw14_IrqTakes.j0 k t177 (wrap64 (Int.tmod a1 5)) t184 bt186.1 bt186.2 bt188.1 bt188.2 true)) else (whirligiglaw14_IrqTakes.j0 k t177 (wrap64 (Int.tmod a1 5)) t184 bt186.1 bt186.2 bt188.1 bt188.2 true)) else (whirligiglaw14_IrqTakes.j0 k t177 (wrap64 (Int.tmod a1 5)) t184 bt186.1 bt186.2 bt188.1 bt188.2 true)) else (none)))) = some r := H
  have A7 := Aside0.mk A70
  clear A70
  replace H := Option.bind_eq_some_iff.mp H
  obtain ⟨⟨t186, t187⟩, A80, H⟩ := H
  replace H : ((irq_Vector.f (wrap64 (Int.tmod a1 5))).bind fun bt188 => (if 0 ≤ (wrap64 (Int.tmod a1 5)) then (if (Go.bits .or .u8 t184 (shl .u8 1 (wrap64 (Int.tmod a1 5)))) = (Go.bits .or .u8 t185 (shl .u8 1 (wrap64 (Int.tmod a1 5)))) then (if (Go.bits .and .u8 (shr .u8 t185 (wrap64 (Int.tmod a1 5))) 1) = 0 then (if (Go.bits .and .u8 (shr .u8 t184 (wrap64 (Int.tmod a1 5))) 1) = (Go.bits .and .u8 (shr .u8 a0_1 (wrap64 (Int.tmod a1 5))) 1) then (if (t187 != (t184 != 0)) = true then (whirligiglaw14_IrqTakes.j0 k t177 (wrap64 (Int.tmod a1 5)) t184 t186 t187 bt188.1 bt188.2 true) else (if t179 = a0_1 then (whirligiglaw14_IrqTakes.j0 k t177 (wrap64 (Int.tmod a1 5)) t184 t186 t187 bt188.1 bt188.2 (t182 != a0_1)) else (whirligiglaw14_IrqTakes.j0 k t177 (wrap64 (Int.tmod a1 5)) t184 t186 t187 bt188.1 bt188.2 true))) else (whirligiglaw14_IrqTakes.j0 k t177 (wrap64 (Int.tmod a1 5)) t184 t186 t187 bt188.1 bt188.2 true)) else (whirligiglaw14_IrqTakes.j0 k t177 (wrap64 (Int.tmod a1 5)) t184 t186 t187 bt188.1 bt188.2 true)) else (whirligiglaw14_IrqTakes.j0 k t177 (wrap64 (Int.tmod a1 5)) t184 t186 t187 bt188.1 bt188.2 true)) else (none))) = some r := H
  have A8 := Aside0.mk A80
  clear A80
  replace H := Option.bind_eq_some_iff.mp H
  obtain ⟨⟨t188, t189⟩, A90, H⟩ := H
  replace H : (if 0 ≤ (wrap64 (Int.tmod a1 5)) then (if (Go.bits .or .u8 t184 (shl .u8 1 (wrap64 (Int.tmod a1 5)))) = (Go.bits .or .u8 t185 (shl .u8 1 (wrap64 (Int.tmod a1 5)))) then (if (Go.bits .and .u8 (shr .u8 t185 (wrap64 (Int.tmod a1 5))) 1) = 0 then (if (Go.bits .and .u8 (shr .u8 t184 (wrap64 (Int.tmod a1 5))) 1) = (Go.bits .and .u8 (shr .u8 a0_1 (wrap64 (Int.tmod a1 5))) 1) then (if (t187 != (t184 != 0)) = true then (whirligiglaw14_IrqTakes.j0 k t177 (wrap64 (Int.tmod a1 5)) t184 t186 t187 t188 t189 true) else (if t179 = a0_1 then (whirligiglaw14_IrqTakes.j0 k t177 (wrap64 (Int.tmod a1 5)) t184 t186 t187 t188 t189 (t182 != a0_1)) else (whirligiglaw14_IrqTakes.j0 k t177 (wrap64 (Int.tmod a1 5)) t184 t186 t187 t188 t189 true))) else (whirligiglaw14_IrqTakes.j0 k t177 (wrap64 (Int.tmod a1 5)) t184 t186 t187 t188 t189 true)) else (whirligiglaw14_IrqTakes.j0 k t177 (wrap64 (Int.tmod a1 5)) t184 t186 t187 t188 t189 true)) else (whirligiglaw14_IrqTakes.j0 k t177 (wrap64 (Int.tmod a1 5)) t184 t186 t187 t188 t189 true)) else (none)) = some r := H
  have A9 := Aside0.mk A90
  clear A90
  have HC10 := Aside0.mk H
  clear H
  go_enter Try.func8, Try.ntmps8
  go_upto_region 9 with (first | ((with_reducible refine gate_dst (N := 2) rfl ?_); refine box_event ?hg (N := 2) ?hd (cs := #[.int .u8 a0_0, .int .u8 a0_1]) (t := 23) ?hr ?_; (case hd => rfl); (case hg => rfl); (case hr => first | (go_simp; done) | (go_simp; rfl)); intro gb176 hg w11 hbox hb; have n0_ := Aside0.mk (below_step (by repeat (first | (with_reducible first | exact HB.out | apply below_alloc | apply pw_below_drewN | apply below_drew1) | exact HB.out)) hb); have n1_ := Aside0.mk (hbox); have n2_ := Aside0.mk ((by rw [hg]; exact (below_size (by repeat (first | (with_reducible first | exact HB.out | apply below_alloc | apply pw_below_drewN | apply below_drew1) | exact HB.out))) : w.heap.size ≤ gb176)); have n3_ := Aside0.mk ((by rw [hg]; exact (below_size (by repeat (first | (with_reducible first | exact HB.out | apply below_alloc | apply pw_below_drewN | apply below_drew1) | exact HB.out))) : w.heap.size ≤ gb176)); clear HB; have HB := n0_; have BK176 := n1_; have GW176 := n2_; have GE176 := n3_; clear n0_ n1_ n2_ n3_; clear hb hbox hg) | (go_at_call 9; (with_reducible refine (whirligiglaw14_shown.calls  t177 _ A3.out).mono ?_); rintro e w12 ⟨rfl, hb⟩; have n0_ := Aside0.mk (blk_below (g := gb176) (o := .cells #[.int .u8 a0_0, .int .u8 a0_1] 23 (0, 0)) (by (with_reducible repeat (first | refine blk_drewN ?_ _ | refine blk_drew ?_ | refine blk_alloc ?_ _)); exact BK176.out) hb); have n1_ := Aside0.mk (below_step (by repeat (first | (with_reducible first | exact HB.out | apply below_alloc | apply pw_below_drewN | apply below_drew1 | refine below_set ?_ GE176.out) | exact HB.out)) hb); clear BK176; clear HB; have BK176 := n0_; have HB := n1_; clear n0_ n1_; (try clear hb); (try clear hb2); (try clear hk); (try clear hi); have hcz13_0 : w12.cell? ⟨gb176, 0, none⟩ = some (.int .u8 a0_0) := (blk_cell BK176.out 0).trans rfl; have hcz13_1 : w12.cell? ⟨gb176, 1, none⟩ = some (.int .u8 a0_1) := (blk_cell BK176.out 1).trans rfl; have hfz13_0 := blk_frozen BK176.out 0; have hfz13_1 := blk_frozen BK176.out 1) | (go_at_call 22; (with_reducible refine (irq_Ask.calls a0_0 a0_1 (wrap64 (Int.tmod a1 5)) t178 t179 _ A4.out).mono ?_); rintro e w14 ⟨rfl, hb⟩; have n0_ := Aside0.mk (blk_below (g := gb176) (o := .cells #[.int .u8 a0_0, .int .u8 a0_1] 23 (0, 0)) (by (with_reducible repeat (first | refine blk_drewN ?_ _ | refine blk_drew ?_ | refine blk_alloc ?_ _)); exact BK176.out) hb); have n1_ := Aside0.mk (below_step (by repeat (first | (with_reducible first | exact HB.out | apply below_alloc | apply pw_below_drewN | apply below_drew1 | refine below_set ?_ GE176.out) | exact HB.out)) hb); clear BK176; clear HB; have BK176 := n0_; have HB := n1_; clear n0_ n1_; (try clear hb); (try clear hb2); (try clear hk); (try clear hi)) | ((with_reducible refine gate_dst (N := 7) rfl ?_); refine box_event ?hg (N := 7) ?hd (cs := #[.int .u8 0, .int .u8 0]) (t := 23) ?hr ?_; (case hd => rfl); (case hg => rfl); (case hr => first | (go_simp; done) | (go_simp; rfl)); intro gb180 hg w15 hbox hb; have n0_ := Aside0.mk (blk_below (g := gb176) (o := .cells #[.int .u8 a0_0, .int .u8 a0_1] 23 (0, 0)) (by (with_reducible repeat (first | refine blk_drewN ?_ _ | refine blk_drew ?_ | refine blk_alloc ?_ _)); exact BK176.out) hb); have n1_ := Aside0.mk (below_step (by repeat (first | (with_reducible first | exact HB.out | apply below_alloc | apply pw_below_drewN | apply below_drew1 | refine below_set ?_ GE176.out) | exact HB.out)) hb); have n2_ := Aside0.mk (hbox); have n3_ := Aside0.mk ((by rw [hg]; exact (below_size (by repeat (first | (with_reducible first | exact HB.out | apply below_alloc | apply pw_below_drewN | apply below_drew1 | refine below_set ?_ GE176.out) | exact HB.out))) : w.heap.size ≤ gb180)); have n4_ := Aside0.mk ((by rw [hg]; exact (below_size (by repeat (first | (with_reducible first | exact HB.out | apply below_alloc | apply pw_below_drewN | apply below_drew1 | refine below_set ?_ GE176.out) | exact HB.out))) : w.heap.size ≤ gb180)); have n5_ := Aside0.mk ((by rw [hg]; exact Nat.ne_of_lt (blk_lt (g := gb176) (o := .cells #[.int .u8 a0_0, .int .u8 a0_1] 23 (0, 0)) (by (with_reducible repeat (first | refine blk_drewN ?_ _ | refine blk_drew ?_ | refine blk_alloc ?_ _)); exact BK176.out)) : gb176 ≠ gb180)); have n6_ := Aside0.mk ((by rw [hg]; exact Nat.ne_of_gt (blk_lt (g := gb176) (o := .cells #[.int .u8 a0_0, .int .u8 a0_1] 23 (0, 0)) (by (with_reducible repeat (first | refine blk_drewN ?_ _ | refine blk_drew ?_ | refine blk_alloc ?_ _)); exact BK176.out)) : gb180 ≠ gb176)); clear BK176; clear HB; have BK176 := n0_; have HB := n1_; have BK180 := n2_; have GW180 := n3_; have GE180 := n4_; have NB176_180 := n5_; have NB180_176 := n6_; clear n0_ n1_ n2_ n3_ n4_ n5_ n6_; clear hb hbox hg; have hnb16 := NB180_176.out; have hnc16 := NB176_180.out; have hcz17_0 : w15.cell? ⟨gb180, 0, none⟩ = some (.int .u8 0) := (blk_cell BK180.out 0).trans rfl; have hcz17_1 : w15.cell? ⟨gb180, 1, none⟩ = some (.int .u8 0) := (blk_cell BK180.out 1).trans rfl; have hfz17_0 := blk_frozen BK180.out 0; have hfz17_1 := blk_frozen BK180.out 1) | (go_at_call 24; (with_reducible refine (irq_Take.calls t178 t179 (wrap64 (Int.tmod a1 5)) t181 t182 _ A5.out).mono ?_); rintro e w18 ⟨rfl, hb⟩; have n0_ := Aside0.mk (blk_below (g := gb176) (o := .cells #[.int .u8 a0_0, .int .u8 a0_1] 23 (0, 0)) (by (with_reducible repeat (first | refine blk_drewN ?_ _ | refine blk_drew ?_ | refine blk_alloc ?_ _)); refine blk_far ?_ NB176_180.out _; (with_reducible repeat (first | refine blk_drewN ?_ _ | refine blk_drew ?_ | refine blk_alloc ?_ _)); refine blk_far ?_ NB176_180.out _; (with_reducible repeat (first | refine blk_drewN ?_ _ | refine blk_drew ?_ | refine blk_alloc ?_ _)); exact BK176.out) hb); have n1_ := Aside0.mk (blk_below (g := gb180) (o := .cells #[.int .u8 t178, .int .u8 t179] 23 (0, 0)) (by (with_reducible repeat (first | refine blk_drewN ?_ _ | refine blk_drew ?_ | refine blk_alloc ?_ _)); refine blk_put (cs := #[.int .u8 t178, .int .u8 0]) ?_ 1 _ rfl; (with_reducible repeat (first | refine blk_drewN ?_ _ | refine blk_drew ?_ | refine blk_alloc ?_ _)); refine blk_put (cs := #[.int .u8 0, .int .u8 0]) ?_ 0 _ rfl; (with_reducible repeat (first | refine blk_drewN ?_ _ | refine blk_drew ?_ | refine blk_alloc ?_ _)); exact BK180.out) hb); have n2_ := Aside0.mk (below_step (by repeat (first | (with_reducible first | exact HB.out | apply below_alloc | apply pw_below_drewN | apply below_drew1 | refine below_set ?_ GE176.out | refine below_set ?_ GE180.out) | exact HB.out)) hb); clear BK176; clear BK180; clear HB; have BK176 := n0_; have BK180 := n1_; have HB := n2_; clear n0_ n1_ n2_; (try clear hb); (try clear hb2); (try clear hk); (try clear hi)) | ((with_reducible refine gate_dst (N := 8) rfl ?_); refine box_event ?hg (N := 8) ?hd (cs := #[.int .u8 0, .int .u8 0]) (t := 23) ?hr ?_; (case hd => rfl); (case hg => rfl); (case hr => first | (go_simp; done) | (go_simp; rfl)); intro gb183 hg w19 hbox hb; have n0_ := Aside0.mk (blk_below (g := gb176) (o := .cells #[.int .u8 a0_0, .int .u8 a0_1] 23 (0, 0)) (by (with_reducible repeat (first | refine blk_drewN ?_ _ | refine blk_drew ?_ | refine blk_alloc ?_ _)); exact BK176.out) hb); have n1_ := Aside0.mk (blk_below (g := gb180) (o := .cells #[.int .u8 t178, .int .u8 t179] 23 (0, 0)) (by (with_reducible repeat (first | refine blk_drewN ?_ _ | refine blk_drew ?_ | refine blk_alloc ?_ _)); exact BK180.out) hb); have n2_ := Aside0.mk (below_step (by repeat (first | (with_reducible first | exact HB.out | apply below_alloc | apply pw_below_drewN | apply below_drew1 | refine below_set ?_ GE176.out | refine below_set ?_ GE180.out) | exact HB.out)) hb); have n3_ := Aside0.mk (hbox); have n4_ := Aside0.mk ((by rw [hg]; exact (below_size (by repeat (first | (with_reducible first | exact HB.out | apply below_alloc | apply pw_below_drewN | apply below_drew1 | refine below_set ?_ GE176.out | refine below_set ?_ GE180.out) | exact HB.out))) : w.heap.size ≤ gb183)); have n5_ := Aside0.mk ((by rw [hg]; exact (below_size (by repeat (first | (with_reducible first | exact HB.out | apply below_alloc | apply pw_below_drewN | apply below_drew1 | refine below_set ?_ GE176.out | refine below_set ?_ GE180.out) | exact HB.out))) : w.heap.size ≤ gb183)); have n6_ := Aside0.mk ((by rw [hg]; exact Nat.ne_of_lt (blk_lt (g := gb176) (o := .cells #[.int .u8 a0_0, .int .u8 a0_1] 23 (0, 0)) (by (with_reducible repeat (first | refine blk_drewN ?_ _ | refine blk_drew ?_ | refine blk_alloc ?_ _)); exact BK176.out)) : gb176 ≠ gb183)); have n7_ := Aside0.mk ((by rw [hg]; exact Nat.ne_of_gt (blk_lt (g := gb176) (o := .cells #[.int .u8 a0_0, .int .u8 a0_1] 23 (0, 0)) (by (with_reducible repeat (first | refine blk_drewN ?_ _ | refine blk_drew ?_ | refine blk_alloc ?_ _)); exact BK176.out)) : gb183 ≠ gb176)); have n8_ := Aside0.mk ((by rw [hg]; exact Nat.ne_of_lt (blk_lt (g := gb180) (o := .cells #[.int .u8 t178, .int .u8 t179] 23 (0, 0)) (by (with_reducible repeat (first | refine blk_drewN ?_ _ | refine blk_drew ?_ | refine blk_alloc ?_ _)); exact BK180.out)) : gb180 ≠ gb183)); have n9_ := Aside0.mk ((by rw [hg]; exact Nat.ne_of_gt (blk_lt (g := gb180) (o := .cells #[.int .u8 t178, .int .u8 t179] 23 (0, 0)) (by (with_reducible repeat (first | refine blk_drewN ?_ _ | refine blk_drew ?_ | refine blk_alloc ?_ _)); exact BK180.out)) : gb183 ≠ gb180)); clear BK176; clear BK180; clear HB; have BK176 := n0_; have BK180 := n1_; have HB := n2_; have BK183 := n3_; have GW183 := n4_; have GE183 := n5_; have NB176_183 := n6_; have NB183_176 := n7_; have NB180_183 := n8_; have NB183_180 := n9_; clear n0_ n1_ n2_ n3_ n4_ n5_ n6_ n7_ n8_ n9_; clear hb hbox hg; have hnb20 := NB183_176.out; have hnc20 := NB176_183.out; have hnb21 := NB183_180.out; have hnc21 := NB180_183.out; have hcz22_0 : w19.cell? ⟨gb183, 0, none⟩ = some (.int .u8 0) := (blk_cell BK183.out 0).trans rfl; have hcz22_1 : w19.cell? ⟨gb183, 1, none⟩ = some (.int .u8 0) := (blk_cell BK183.out 1).trans rfl; have hfz22_0 := blk_frozen BK183.out 0; have hfz22_1 := blk_frozen BK183.out 1; have hcz23_0 : w19.cell? ⟨gb180, 0, none⟩ = some (.int .u8 t178) := (blk_cell BK180.out 0).trans rfl; have hcz23_1 : w19.cell? ⟨gb180, 1, none⟩ = some (.int .u8 t179) := (blk_cell BK180.out 1).trans rfl; have hfz23_0 := blk_frozen BK180.out 0; have hfz23_1 := blk_frozen BK180.out 1) | (go_at_call 12; (with_reducible refine (irq_Pending.calls t178 t179 t184 _ A6.out).mono ?_); rintro e w24 ⟨rfl, hb⟩; have n0_ := Aside0.mk (blk_below (g := gb176) (o := .cells #[.int .u8 a0_0, .int .u8 a0_1] 23 (0, 0)) (by (with_reducible repeat (first | refine blk_drewN ?_ _ | refine blk_drew ?_ | refine blk_alloc ?_ _)); refine blk_far ?_ NB176_183.out _; (with_reducible repeat (first | refine blk_drewN ?_ _ | refine blk_drew ?_ | refine blk_alloc ?_ _)); refine blk_far ?_ NB176_183.out _; (with_reducible repeat (first | refine blk_drewN ?_ _ | refine blk_drew ?_ | refine blk_alloc ?_ _)); exact BK176.out) hb); have n1_ := Aside0.mk (blk_below (g := gb180) (o := .cells #[.int .u8 t178, .int .u8 t179] 23 (0, 0)) (by (with_reducible repeat (first | refine blk_drewN ?_ _ | refine blk_drew ?_ | refine blk_alloc ?_ _)); refine blk_far ?_ NB180_183.out _; (with_reducible repeat (first | refine blk_drewN ?_ _ | refine blk_drew ?_ | refine blk_alloc ?_ _)); refine blk_far ?_ NB180_183.out _; (with_reducible repeat (first | refine blk_drewN ?_ _ | refine blk_drew ?_ | refine blk_alloc ?_ _)); exact BK180.out) hb); have n2_ := Aside0.mk (blk_below (g := gb183) (o := .cells #[.int .u8 t181, .int .u8 t182] 23 (0, 0)) (by (with_reducible repeat (first | refine blk_drewN ?_ _ | refine blk_drew ?_ | refine blk_alloc ?_ _)); refine blk_put (cs := #[.int .u8 t181, .int .u8 0]) ?_ 1 _ rfl; (with_reducible repeat (first | refine blk_drewN ?_ _ | refine blk_drew ?_ | refine blk_alloc ?_ _)); refine blk_put (cs := #[.int .u8 0, .int .u8 0]) ?_ 0 _ rfl; (with_reducible repeat (first | refine blk_drewN ?_ _ | refine blk_drew ?_ | refine blk_alloc ?_ _)); exact BK183.out) hb); have n3_ := Aside0.mk (below_step (by repeat (first | (with_reducible first | exact HB.out | apply below_alloc | apply pw_below_drewN | apply below_drew1 | refine below_set ?_ GE176.out | refine below_set ?_ GE180.out | refine below_set ?_ GE183.out) | exact HB.out)) hb); clear BK176; clear BK180; clear BK183; clear HB; have BK176 := n0_; have BK180 := n1_; have BK183 := n2_; have HB := n3_; clear n0_ n1_ n2_ n3_; (try clear hb); (try clear hb2); (try clear hk); (try clear hi); have hcz25_0 : w24.cell? ⟨gb183, 0, none⟩ = some (.int .u8 t181) := (blk_cell BK183.out 0).trans rfl; have hcz25_1 : w24.cell? ⟨gb183, 1, none⟩ = some (.int .u8 t182) := (blk_cell BK183.out 1).trans rfl; have hfz25_0 := blk_frozen BK183.out 0; have hfz25_1 := blk_frozen BK183.out 1) | (go_at_call 12; (with_reducible refine (irq_Pending.calls t181 t182 t185 _ A7.out).mono ?_); rintro e w26 ⟨rfl, hb⟩; have n0_ := Aside0.mk (blk_below (g := gb176) (o := .cells #[.int .u8 a0_0, .int .u8 a0_1] 23 (0, 0)) (by (with_reducible repeat (first | refine blk_drewN ?_ _ | refine blk_drew ?_ | refine blk_alloc ?_ _)); exact BK176.out) hb); have n1_ := Aside0.mk (blk_below (g := gb180) (o := .cells #[.int .u8 t178, .int .u8 t179] 23 (0, 0)) (by (with_reducible repeat (first | refine blk_drewN ?_ _ | refine blk_drew ?_ | refine blk_alloc ?_ _)); exact BK180.out) hb); have n2_ := Aside0.mk (blk_below (g := gb183) (o := .cells #[.int .u8 t181, .int .u8 t182] 23 (0, 0)) (by (with_reducible repeat (first | refine blk_drewN ?_ _ | refine blk_drew ?_ | refine blk_alloc ?_ _)); exact BK183.out) hb); have n3_ := Aside0.mk (below_step (by repeat (first | (with_reducible first | exact HB.out | apply below_alloc | apply pw_below_drewN | apply below_drew1 | refine below_set ?_ GE176.out | refine below_set ?_ GE180.out | refine below_set ?_ GE183.out) | exact HB.out)) hb); clear BK176; clear BK180; clear BK183; clear HB; have BK176 := n0_; have BK180 := n1_; have BK183 := n2_; have HB := n3_; clear n0_ n1_ n2_ n3_; (try clear hb); (try clear hb2); (try clear hk); (try clear hi)) | (go_at_call 10; (with_reducible refine (irq_First.calls t184 t186 t187 _ A8.out).mono ?_); rintro e w27 ⟨rfl, hb⟩; have n0_ := Aside0.mk (blk_below (g := gb176) (o := .cells #[.int .u8 a0_0, .int .u8 a0_1] 23 (0, 0)) (by (with_reducible repeat (first | refine blk_drewN ?_ _ | refine blk_drew ?_ | refine blk_alloc ?_ _)); exact BK176.out) hb); have n1_ := Aside0.mk (blk_below (g := gb180) (o := .cells #[.int .u8 t178, .int .u8 t179] 23 (0, 0)) (by (with_reducible repeat (first | refine blk_drewN ?_ _ | refine blk_drew ?_ | refine blk_alloc ?_ _)); exact BK180.out) hb); have n2_ := Aside0.mk (blk_below (g := gb183) (o := .cells #[.int .u8 t181, .int .u8 t182] 23 (0, 0)) (by (with_reducible repeat (first | refine blk_drewN ?_ _ | refine blk_drew ?_ | refine blk_alloc ?_ _)); exact BK183.out) hb); have n3_ := Aside0.mk (below_step (by repeat (first | (with_reducible first | exact HB.out | apply below_alloc | apply pw_below_drewN | apply below_drew1 | refine below_set ?_ GE176.out | refine below_set ?_ GE180.out | refine below_set ?_ GE183.out) | exact HB.out)) hb); clear BK176; clear BK180; clear BK183; clear HB; have BK176 := n0_; have BK180 := n1_; have BK183 := n2_; have HB := n3_; clear n0_ n1_ n2_ n3_; (try clear hb); (try clear hb2); (try clear hk); (try clear hi)) | (go_at_call 16; (with_reducible refine (irq_Vector.calls (wrap64 (Int.tmod a1 5)) t188 t189 _ A9.out).mono ?_); rintro e w' ⟨rfl, ⟨nd, rfl⟩⟩; (try first | exact ⟨rfl, _, World.drewN_drewN _ _ _⟩ | exact ⟨rfl, _, Eq.trans (World.drewN_drewN _ _ _) (congrArg (World.drewN _) (Nat.add_assoc _ _ _))⟩)))
  repeat (go_quiet (first | ((with_reducible refine gate_dst (N := 2) rfl ?_); refine box_event ?hg (N := 2) ?hd (cs := #[.int .u8 a0_0, .int .u8 a0_1]) (t := 23) ?hr ?_; (case hd => rfl); (case hg => rfl); (case hr => first | (go_simp; done) | (go_simp; rfl)); intro gb176 hg w11 hbox hb; have n0_ := Aside0.mk (below_step (by repeat (first | (with_reducible first | exact HB.out | apply below_alloc | apply pw_below_drewN | apply below_drew1) | exact HB.out)) hb); have n1_ := Aside0.mk (hbox); have n2_ := Aside0.mk ((by rw [hg]; exact (below_size (by repeat (first | (with_reducible first | exact HB.out | apply below_alloc | apply pw_below_drewN | apply below_drew1) | exact HB.out))) : w.heap.size ≤ gb176)); have n3_ := Aside0.mk ((by rw [hg]; exact (below_size (by repeat (first | (with_reducible first | exact HB.out | apply below_alloc | apply pw_below_drewN | apply below_drew1) | exact HB.out))) : w.heap.size ≤ gb176)); clear HB; have HB := n0_; have BK176 := n1_; have GW176 := n2_; have GE176 := n3_; clear n0_ n1_ n2_ n3_; clear hb hbox hg) | (go_at_call 9; (with_reducible refine (whirligiglaw14_shown.calls  t177 _ A3.out).mono ?_); rintro e w12 ⟨rfl, hb⟩; have n0_ := Aside0.mk (blk_below (g := gb176) (o := .cells #[.int .u8 a0_0, .int .u8 a0_1] 23 (0, 0)) (by (with_reducible repeat (first | refine blk_drewN ?_ _ | refine blk_drew ?_ | refine blk_alloc ?_ _)); exact BK176.out) hb); have n1_ := Aside0.mk (below_step (by repeat (first | (with_reducible first | exact HB.out | apply below_alloc | apply pw_below_drewN | apply below_drew1 | refine below_set ?_ GE176.out) | exact HB.out)) hb); clear BK176; clear HB; have BK176 := n0_; have HB := n1_; clear n0_ n1_; (try clear hb); (try clear hb2); (try clear hk); (try clear hi); have hcz13_0 : w12.cell? ⟨gb176, 0, none⟩ = some (.int .u8 a0_0) := (blk_cell BK176.out 0).trans rfl; have hcz13_1 : w12.cell? ⟨gb176, 1, none⟩ = some (.int .u8 a0_1) := (blk_cell BK176.out 1).trans rfl; have hfz13_0 := blk_frozen BK176.out 0; have hfz13_1 := blk_frozen BK176.out 1) | (go_at_call 22; (with_reducible refine (irq_Ask.calls a0_0 a0_1 (wrap64 (Int.tmod a1 5)) t178 t179 _ A4.out).mono ?_); rintro e w14 ⟨rfl, hb⟩; have n0_ := Aside0.mk (blk_below (g := gb176) (o := .cells #[.int .u8 a0_0, .int .u8 a0_1] 23 (0, 0)) (by (with_reducible repeat (first | refine blk_drewN ?_ _ | refine blk_drew ?_ | refine blk_alloc ?_ _)); exact BK176.out) hb); have n1_ := Aside0.mk (below_step (by repeat (first | (with_reducible first | exact HB.out | apply below_alloc | apply pw_below_drewN | apply below_drew1 | refine below_set ?_ GE176.out) | exact HB.out)) hb); clear BK176; clear HB; have BK176 := n0_; have HB := n1_; clear n0_ n1_; (try clear hb); (try clear hb2); (try clear hk); (try clear hi)) | ((with_reducible refine gate_dst (N := 7) rfl ?_); refine box_event ?hg (N := 7) ?hd (cs := #[.int .u8 0, .int .u8 0]) (t := 23) ?hr ?_; (case hd => rfl); (case hg => rfl); (case hr => first | (go_simp; done) | (go_simp; rfl)); intro gb180 hg w15 hbox hb; have n0_ := Aside0.mk (blk_below (g := gb176) (o := .cells #[.int .u8 a0_0, .int .u8 a0_1] 23 (0, 0)) (by (with_reducible repeat (first | refine blk_drewN ?_ _ | refine blk_drew ?_ | refine blk_alloc ?_ _)); exact BK176.out) hb); have n1_ := Aside0.mk (below_step (by repeat (first | (with_reducible first | exact HB.out | apply below_alloc | apply pw_below_drewN | apply below_drew1 | refine below_set ?_ GE176.out) | exact HB.out)) hb); have n2_ := Aside0.mk (hbox); have n3_ := Aside0.mk ((by rw [hg]; exact (below_size (by repeat (first | (with_reducible first | exact HB.out | apply below_alloc | apply pw_below_drewN | apply below_drew1 | refine below_set ?_ GE176.out) | exact HB.out))) : w.heap.size ≤ gb180)); have n4_ := Aside0.mk ((by rw [hg]; exact (below_size (by repeat (first | (with_reducible first | exact HB.out | apply below_alloc | apply pw_below_drewN | apply below_drew1 | refine below_set ?_ GE176.out) | exact HB.out))) : w.heap.size ≤ gb180)); have n5_ := Aside0.mk ((by rw [hg]; exact Nat.ne_of_lt (blk_lt (g := gb176) (o := .cells #[.int .u8 a0_0, .int .u8 a0_1] 23 (0, 0)) (by (with_reducible repeat (first | refine blk_drewN ?_ _ | refine blk_drew ?_ | refine blk_alloc ?_ _)); exact BK176.out)) : gb176 ≠ gb180)); have n6_ := Aside0.mk ((by rw [hg]; exact Nat.ne_of_gt (blk_lt (g := gb176) (o := .cells #[.int .u8 a0_0, .int .u8 a0_1] 23 (0, 0)) (by (with_reducible repeat (first | refine blk_drewN ?_ _ | refine blk_drew ?_ | refine blk_alloc ?_ _)); exact BK176.out)) : gb180 ≠ gb176)); clear BK176; clear HB; have BK176 := n0_; have HB := n1_; have BK180 := n2_; have GW180 := n3_; have GE180 := n4_; have NB176_180 := n5_; have NB180_176 := n6_; clear n0_ n1_ n2_ n3_ n4_ n5_ n6_; clear hb hbox hg; have hnb16 := NB180_176.out; have hnc16 := NB176_180.out; have hcz17_0 : w15.cell? ⟨gb180, 0, none⟩ = some (.int .u8 0) := (blk_cell BK180.out 0).trans rfl; have hcz17_1 : w15.cell? ⟨gb180, 1, none⟩ = some (.int .u8 0) := (blk_cell BK180.out 1).trans rfl; have hfz17_0 := blk_frozen BK180.out 0; have hfz17_1 := blk_frozen BK180.out 1) | (go_at_call 24; (with_reducible refine (irq_Take.calls t178 t179 (wrap64 (Int.tmod a1 5)) t181 t182 _ A5.out).mono ?_); rintro e w18 ⟨rfl, hb⟩; have n0_ := Aside0.mk (blk_below (g := gb176) (o := .cells #[.int .u8 a0_0, .int .u8 a0_1] 23 (0, 0)) (by (with_reducible repeat (first | refine blk_drewN ?_ _ | refine blk_drew ?_ | refine blk_alloc ?_ _)); refine blk_far ?_ NB176_180.out _; (with_reducible repeat (first | refine blk_drewN ?_ _ | refine blk_drew ?_ | refine blk_alloc ?_ _)); refine blk_far ?_ NB176_180.out _; (with_reducible repeat (first | refine blk_drewN ?_ _ | refine blk_drew ?_ | refine blk_alloc ?_ _)); exact BK176.out) hb); have n1_ := Aside0.mk (blk_below (g := gb180) (o := .cells #[.int .u8 t178, .int .u8 t179] 23 (0, 0)) (by (with_reducible repeat (first | refine blk_drewN ?_ _ | refine blk_drew ?_ | refine blk_alloc ?_ _)); refine blk_put (cs := #[.int .u8 t178, .int .u8 0]) ?_ 1 _ rfl; (with_reducible repeat (first | refine blk_drewN ?_ _ | refine blk_drew ?_ | refine blk_alloc ?_ _)); refine blk_put (cs := #[.int .u8 0, .int .u8 0]) ?_ 0 _ rfl; (with_reducible repeat (first | refine blk_drewN ?_ _ | refine blk_drew ?_ | refine blk_alloc ?_ _)); exact BK180.out) hb); have n2_ := Aside0.mk (below_step (by repeat (first | (with_reducible first | exact HB.out | apply below_alloc | apply pw_below_drewN | apply below_drew1 | refine below_set ?_ GE176.out | refine below_set ?_ GE180.out) | exact HB.out)) hb); clear BK176; clear BK180; clear HB; have BK176 := n0_; have BK180 := n1_; have HB := n2_; clear n0_ n1_ n2_; (try clear hb); (try clear hb2); (try clear hk); (try clear hi)) | ((with_reducible refine gate_dst (N := 8) rfl ?_); refine box_event ?hg (N := 8) ?hd (cs := #[.int .u8 0, .int .u8 0]) (t := 23) ?hr ?_; (case hd => rfl); (case hg => rfl); (case hr => first | (go_simp; done) | (go_simp; rfl)); intro gb183 hg w19 hbox hb; have n0_ := Aside0.mk (blk_below (g := gb176) (o := .cells #[.int .u8 a0_0, .int .u8 a0_1] 23 (0, 0)) (by (with_reducible repeat (first | refine blk_drewN ?_ _ | refine blk_drew ?_ | refine blk_alloc ?_ _)); exact BK176.out) hb); have n1_ := Aside0.mk (blk_below (g := gb180) (o := .cells #[.int .u8 t178, .int .u8 t179] 23 (0, 0)) (by (with_reducible repeat (first | refine blk_drewN ?_ _ | refine blk_drew ?_ | refine blk_alloc ?_ _)); exact BK180.out) hb); have n2_ := Aside0.mk (below_step (by repeat (first | (with_reducible first | exact HB.out | apply below_alloc | apply pw_below_drewN | apply below_drew1 | refine below_set ?_ GE176.out | refine below_set ?_ GE180.out) | exact HB.out)) hb); have n3_ := Aside0.mk (hbox); have n4_ := Aside0.mk ((by rw [hg]; exact (below_size (by repeat (first | (with_reducible first | exact HB.out | apply below_alloc | apply pw_below_drewN | apply below_drew1 | refine below_set ?_ GE176.out | refine below_set ?_ GE180.out) | exact HB.out))) : w.heap.size ≤ gb183)); have n5_ := Aside0.mk ((by rw [hg]; exact (below_size (by repeat (first | (with_reducible first | exact HB.out | apply below_alloc | apply pw_below_drewN | apply below_drew1 | refine below_set ?_ GE176.out | refine below_set ?_ GE180.out) | exact HB.out))) : w.heap.size ≤ gb183)); have n6_ := Aside0.mk ((by rw [hg]; exact Nat.ne_of_lt (blk_lt (g := gb176) (o := .cells #[.int .u8 a0_0, .int .u8 a0_1] 23 (0, 0)) (by (with_reducible repeat (first | refine blk_drewN ?_ _ | refine blk_drew ?_ | refine blk_alloc ?_ _)); exact BK176.out)) : gb176 ≠ gb183)); have n7_ := Aside0.mk ((by rw [hg]; exact Nat.ne_of_gt (blk_lt (g := gb176) (o := .cells #[.int .u8 a0_0, .int .u8 a0_1] 23 (0, 0)) (by (with_reducible repeat (first | refine blk_drewN ?_ _ | refine blk_drew ?_ | refine blk_alloc ?_ _)); exact BK176.out)) : gb183 ≠ gb176)); have n8_ := Aside0.mk ((by rw [hg]; exact Nat.ne_of_lt (blk_lt (g := gb180) (o := .cells #[.int .u8 t178, .int .u8 t179] 23 (0, 0)) (by (with_reducible repeat (first | refine blk_drewN ?_ _ | refine blk_drew ?_ | refine blk_alloc ?_ _)); exact BK180.out)) : gb180 ≠ gb183)); have n9_ := Aside0.mk ((by rw [hg]; exact Nat.ne_of_gt (blk_lt (g := gb180) (o := .cells #[.int .u8 t178, .int .u8 t179] 23 (0, 0)) (by (with_reducible repeat (first | refine blk_drewN ?_ _ | refine blk_drew ?_ | refine blk_alloc ?_ _)); exact BK180.out)) : gb183 ≠ gb180)); clear BK176; clear BK180; clear HB; have BK176 := n0_; have BK180 := n1_; have HB := n2_; have BK183 := n3_; have GW183 := n4_; have GE183 := n5_; have NB176_183 := n6_; have NB183_176 := n7_; have NB180_183 := n8_; have NB183_180 := n9_; clear n0_ n1_ n2_ n3_ n4_ n5_ n6_ n7_ n8_ n9_; clear hb hbox hg; have hnb20 := NB183_176.out; have hnc20 := NB176_183.out; have hnb21 := NB183_180.out; have hnc21 := NB180_183.out; have hcz22_0 : w19.cell? ⟨gb183, 0, none⟩ = some (.int .u8 0) := (blk_cell BK183.out 0).trans rfl; have hcz22_1 : w19.cell? ⟨gb183, 1, none⟩ = some (.int .u8 0) := (blk_cell BK183.out 1).trans rfl; have hfz22_0 := blk_frozen BK183.out 0; have hfz22_1 := blk_frozen BK183.out 1; have hcz23_0 : w19.cell? ⟨gb180, 0, none⟩ = some (.int .u8 t178) := (blk_cell BK180.out 0).trans rfl; have hcz23_1 : w19.cell? ⟨gb180, 1, none⟩ = some (.int .u8 t179) := (blk_cell BK180.out 1).trans rfl; have hfz23_0 := blk_frozen BK180.out 0; have hfz23_1 := blk_frozen BK180.out 1) | (go_at_call 12; (with_reducible refine (irq_Pending.calls t178 t179 t184 _ A6.out).mono ?_); rintro e w24 ⟨rfl, hb⟩; have n0_ := Aside0.mk (blk_below (g := gb176) (o := .cells #[.int .u8 a0_0, .int .u8 a0_1] 23 (0, 0)) (by (with_reducible repeat (first | refine blk_drewN ?_ _ | refine blk_drew ?_ | refine blk_alloc ?_ _)); refine blk_far ?_ NB176_183.out _; (with_reducible repeat (first | refine blk_drewN ?_ _ | refine blk_drew ?_ | refine blk_alloc ?_ _)); refine blk_far ?_ NB176_183.out _; (with_reducible repeat (first | refine blk_drewN ?_ _ | refine blk_drew ?_ | refine blk_alloc ?_ _)); exact BK176.out) hb); have n1_ := Aside0.mk (blk_below (g := gb180) (o := .cells #[.int .u8 t178, .int .u8 t179] 23 (0, 0)) (by (with_reducible repeat (first | refine blk_drewN ?_ _ | refine blk_drew ?_ | refine blk_alloc ?_ _)); refine blk_far ?_ NB180_183.out _; (with_reducible repeat (first | refine blk_drewN ?_ _ | refine blk_drew ?_ | refine blk_alloc ?_ _)); refine blk_far ?_ NB180_183.out _; (with_reducible repeat (first | refine blk_drewN ?_ _ | refine blk_drew ?_ | refine blk_alloc ?_ _)); exact BK180.out) hb); have n2_ := Aside0.mk (blk_below (g := gb183) (o := .cells #[.int .u8 t181, .int .u8 t182] 23 (0, 0)) (by (with_reducible repeat (first | refine blk_drewN ?_ _ | refine blk_drew ?_ | refine blk_alloc ?_ _)); refine blk_put (cs := #[.int .u8 t181, .int .u8 0]) ?_ 1 _ rfl; (with_reducible repeat (first | refine blk_drewN ?_ _ | refine blk_drew ?_ | refine blk_alloc ?_ _)); refine blk_put (cs := #[.int .u8 0, .int .u8 0]) ?_ 0 _ rfl; (with_reducible repeat (first | refine blk_drewN ?_ _ | refine blk_drew ?_ | refine blk_alloc ?_ _)); exact BK183.out) hb); have n3_ := Aside0.mk (below_step (by repeat (first | (with_reducible first | exact HB.out | apply below_alloc | apply pw_below_drewN | apply below_drew1 | refine below_set ?_ GE176.out | refine below_set ?_ GE180.out | refine below_set ?_ GE183.out) | exact HB.out)) hb); clear BK176; clear BK180; clear BK183; clear HB; have BK176 := n0_; have BK180 := n1_; have BK183 := n2_; have HB := n3_; clear n0_ n1_ n2_ n3_; (try clear hb); (try clear hb2); (try clear hk); (try clear hi); have hcz25_0 : w24.cell? ⟨gb183, 0, none⟩ = some (.int .u8 t181) := (blk_cell BK183.out 0).trans rfl; have hcz25_1 : w24.cell? ⟨gb183, 1, none⟩ = some (.int .u8 t182) := (blk_cell BK183.out 1).trans rfl; have hfz25_0 := blk_frozen BK183.out 0; have hfz25_1 := blk_frozen BK183.out 1) | (go_at_call 12; (with_reducible refine (irq_Pending.calls t181 t182 t185 _ A7.out).mono ?_); rintro e w26 ⟨rfl, hb⟩; have n0_ := Aside0.mk (blk_below (g := gb176) (o := .cells #[.int .u8 a0_0, .int .u8 a0_1] 23 (0, 0)) (by (with_reducible repeat (first | refine blk_drewN ?_ _ | refine blk_drew ?_ | refine blk_alloc ?_ _)); exact BK176.out) hb); have n1_ := Aside0.mk (blk_below (g := gb180) (o := .cells #[.int .u8 t178, .int .u8 t179] 23 (0, 0)) (by (with_reducible repeat (first | refine blk_drewN ?_ _ | refine blk_drew ?_ | refine blk_alloc ?_ _)); exact BK180.out) hb); have n2_ := Aside0.mk (blk_below (g := gb183) (o := .cells #[.int .u8 t181, .int .u8 t182] 23 (0, 0)) (by (with_reducible repeat (first | refine blk_drewN ?_ _ | refine blk_drew ?_ | refine blk_alloc ?_ _)); exact BK183.out) hb); have n3_ := Aside0.mk (below_step (by repeat (first | (with_reducible first | exact HB.out | apply below_alloc | apply pw_below_drewN | apply below_drew1 | refine below_set ?_ GE176.out | refine below_set ?_ GE180.out | refine below_set ?_ GE183.out) | exact HB.out)) hb); clear BK176; clear BK180; clear BK183; clear HB; have BK176 := n0_; have BK180 := n1_; have BK183 := n2_; have HB := n3_; clear n0_ n1_ n2_ n3_; (try clear hb); (try clear hb2); (try clear hk); (try clear hi)) | (go_at_call 10; (with_reducible refine (irq_First.calls t184 t186 t187 _ A8.out).mono ?_); rintro e w27 ⟨rfl, hb⟩; have n0_ := Aside0.mk (blk_below (g := gb176) (o := .cells #[.int .u8 a0_0, .int .u8 a0_1] 23 (0, 0)) (by (with_reducible repeat (first | refine blk_drewN ?_ _ | refine blk_drew ?_ | refine blk_alloc ?_ _)); exact BK176.out) hb); have n1_ := Aside0.mk (blk_below (g := gb180) (o := .cells #[.int .u8 t178, .int .u8 t179] 23 (0, 0)) (by (with_reducible repeat (first | refine blk_drewN ?_ _ | refine blk_drew ?_ | refine blk_alloc ?_ _)); exact BK180.out) hb); have n2_ := Aside0.mk (blk_below (g := gb183) (o := .cells #[.int .u8 t181, .int .u8 t182] 23 (0, 0)) (by (with_reducible repeat (first | refine blk_drewN ?_ _ | refine blk_drew ?_ | refine blk_alloc ?_ _)); exact BK183.out) hb); have n3_ := Aside0.mk (below_step (by repeat (first | (with_reducible first | exact HB.out | apply below_alloc | apply pw_below_drewN | apply below_drew1 | refine below_set ?_ GE176.out | refine below_set ?_ GE180.out | refine below_set ?_ GE183.out) | exact HB.out)) hb); clear BK176; clear BK180; clear BK183; clear HB; have BK176 := n0_; have BK180 := n1_; have BK183 := n2_; have HB := n3_; clear n0_ n1_ n2_ n3_; (try clear hb); (try clear hb2); (try clear hk); (try clear hi)) | (go_at_call 16; (with_reducible refine (irq_Vector.calls (wrap64 (Int.tmod a1 5)) t188 t189 _ A9.out).mono ?_); rintro e w' ⟨rfl, ⟨nd, rfl⟩⟩; (try first | exact ⟨rfl, _, World.drewN_drewN _ _ _⟩ | exact ⟨rfl, _, Eq.trans (World.drewN_drewN _ _ _) (congrArg (World.drewN _) (Nat.add_assoc _ _ _))⟩))); go_upto_region 9 with (first | ((with_reducible refine gate_dst (N := 2) rfl ?_); refine box_event ?hg (N := 2) ?hd (cs := #[.int .u8 a0_0, .int .u8 a0_1]) (t := 23) ?hr ?_; (case hd => rfl); (case hg => rfl); (case hr => first | (go_simp; done) | (go_simp; rfl)); intro gb176 hg w11 hbox hb; have n0_ := Aside0.mk (below_step (by repeat (first | (with_reducible first | exact HB.out | apply below_alloc | apply pw_below_drewN | apply below_drew1) | exact HB.out)) hb); have n1_ := Aside0.mk (hbox); have n2_ := Aside0.mk ((by rw [hg]; exact (below_size (by repeat (first | (with_reducible first | exact HB.out | apply below_alloc | apply pw_below_drewN | apply below_drew1) | exact HB.out))) : w.heap.size ≤ gb176)); have n3_ := Aside0.mk ((by rw [hg]; exact (below_size (by repeat (first | (with_reducible first | exact HB.out | apply below_alloc | apply pw_below_drewN | apply below_drew1) | exact HB.out))) : w.heap.size ≤ gb176)); clear HB; have HB := n0_; have BK176 := n1_; have GW176 := n2_; have GE176 := n3_; clear n0_ n1_ n2_ n3_; clear hb hbox hg) | (go_at_call 9; (with_reducible refine (whirligiglaw14_shown.calls  t177 _ A3.out).mono ?_); rintro e w12 ⟨rfl, hb⟩; have n0_ := Aside0.mk (blk_below (g := gb176) (o := .cells #[.int .u8 a0_0, .int .u8 a0_1] 23 (0, 0)) (by (with_reducible repeat (first | refine blk_drewN ?_ _ | refine blk_drew ?_ | refine blk_alloc ?_ _)); exact BK176.out) hb); have n1_ := Aside0.mk (below_step (by repeat (first | (with_reducible first | exact HB.out | apply below_alloc | apply pw_below_drewN | apply below_drew1 | refine below_set ?_ GE176.out) | exact HB.out)) hb); clear BK176; clear HB; have BK176 := n0_; have HB := n1_; clear n0_ n1_; (try clear hb); (try clear hb2); (try clear hk); (try clear hi); have hcz13_0 : w12.cell? ⟨gb176, 0, none⟩ = some (.int .u8 a0_0) := (blk_cell BK176.out 0).trans rfl; have hcz13_1 : w12.cell? ⟨gb176, 1, none⟩ = some (.int .u8 a0_1) := (blk_cell BK176.out 1).trans rfl; have hfz13_0 := blk_frozen BK176.out 0; have hfz13_1 := blk_frozen BK176.out 1) | (go_at_call 22; (with_reducible refine (irq_Ask.calls a0_0 a0_1 (wrap64 (Int.tmod a1 5)) t178 t179 _ A4.out).mono ?_); rintro e w14 ⟨rfl, hb⟩; have n0_ := Aside0.mk (blk_below (g := gb176) (o := .cells #[.int .u8 a0_0, .int .u8 a0_1] 23 (0, 0)) (by (with_reducible repeat (first | refine blk_drewN ?_ _ | refine blk_drew ?_ | refine blk_alloc ?_ _)); exact BK176.out) hb); have n1_ := Aside0.mk (below_step (by repeat (first | (with_reducible first | exact HB.out | apply below_alloc | apply pw_below_drewN | apply below_drew1 | refine below_set ?_ GE176.out) | exact HB.out)) hb); clear BK176; clear HB; have BK176 := n0_; have HB := n1_; clear n0_ n1_; (try clear hb); (try clear hb2); (try clear hk); (try clear hi)) | ((with_reducible refine gate_dst (N := 7) rfl ?_); refine box_event ?hg (N := 7) ?hd (cs := #[.int .u8 0, .int .u8 0]) (t := 23) ?hr ?_; (case hd => rfl); (case hg => rfl); (case hr => first | (go_simp; done) | (go_simp; rfl)); intro gb180 hg w15 hbox hb; have n0_ := Aside0.mk (blk_below (g := gb176) (o := .cells #[.int .u8 a0_0, .int .u8 a0_1] 23 (0, 0)) (by (with_reducible repeat (first | refine blk_drewN ?_ _ | refine blk_drew ?_ | refine blk_alloc ?_ _)); exact BK176.out) hb); have n1_ := Aside0.mk (below_step (by repeat (first | (with_reducible first | exact HB.out | apply below_alloc | apply pw_below_drewN | apply below_drew1 | refine below_set ?_ GE176.out) | exact HB.out)) hb); have n2_ := Aside0.mk (hbox); have n3_ := Aside0.mk ((by rw [hg]; exact (below_size (by repeat (first | (with_reducible first | exact HB.out | apply below_alloc | apply pw_below_drewN | apply below_drew1 | refine below_set ?_ GE176.out) | exact HB.out))) : w.heap.size ≤ gb180)); have n4_ := Aside0.mk ((by rw [hg]; exact (below_size (by repeat (first | (with_reducible first | exact HB.out | apply below_alloc | apply pw_below_drewN | apply below_drew1 | refine below_set ?_ GE176.out) | exact HB.out))) : w.heap.size ≤ gb180)); have n5_ := Aside0.mk ((by rw [hg]; exact Nat.ne_of_lt (blk_lt (g := gb176) (o := .cells #[.int .u8 a0_0, .int .u8 a0_1] 23 (0, 0)) (by (with_reducible repeat (first | refine blk_drewN ?_ _ | refine blk_drew ?_ | refine blk_alloc ?_ _)); exact BK176.out)) : gb176 ≠ gb180)); have n6_ := Aside0.mk ((by rw [hg]; exact Nat.ne_of_gt (blk_lt (g := gb176) (o := .cells #[.int .u8 a0_0, .int .u8 a0_1] 23 (0, 0)) (by (with_reducible repeat (first | refine blk_drewN ?_ _ | refine blk_drew ?_ | refine blk_alloc ?_ _)); exact BK176.out)) : gb180 ≠ gb176)); clear BK176; clear HB; have BK176 := n0_; have HB := n1_; have BK180 := n2_; have GW180 := n3_; have GE180 := n4_; have NB176_180 := n5_; have NB180_176 := n6_; clear n0_ n1_ n2_ n3_ n4_ n5_ n6_; clear hb hbox hg; have hnb16 := NB180_176.out; have hnc16 := NB176_180.out; have hcz17_0 : w15.cell? ⟨gb180, 0, none⟩ = some (.int .u8 0) := (blk_cell BK180.out 0).trans rfl; have hcz17_1 : w15.cell? ⟨gb180, 1, none⟩ = some (.int .u8 0) := (blk_cell BK180.out 1).trans rfl; have hfz17_0 := blk_frozen BK180.out 0; have hfz17_1 := blk_frozen BK180.out 1) | (go_at_call 24; (with_reducible refine (irq_Take.calls t178 t179 (wrap64 (Int.tmod a1 5)) t181 t182 _ A5.out).mono ?_); rintro e w18 ⟨rfl, hb⟩; have n0_ := Aside0.mk (blk_below (g := gb176) (o := .cells #[.int .u8 a0_0, .int .u8 a0_1] 23 (0, 0)) (by (with_reducible repeat (first | refine blk_drewN ?_ _ | refine blk_drew ?_ | refine blk_alloc ?_ _)); refine blk_far ?_ NB176_180.out _; (with_reducible repeat (first | refine blk_drewN ?_ _ | refine blk_drew ?_ | refine blk_alloc ?_ _)); refine blk_far ?_ NB176_180.out _; (with_reducible repeat (first | refine blk_drewN ?_ _ | refine blk_drew ?_ | refine blk_alloc ?_ _)); exact BK176.out) hb); have n1_ := Aside0.mk (blk_below (g := gb180) (o := .cells #[.int .u8 t178, .int .u8 t179] 23 (0, 0)) (by (with_reducible repeat (first | refine blk_drewN ?_ _ | refine blk_drew ?_ | refine blk_alloc ?_ _)); refine blk_put (cs := #[.int .u8 t178, .int .u8 0]) ?_ 1 _ rfl; (with_reducible repeat (first | refine blk_drewN ?_ _ | refine blk_drew ?_ | refine blk_alloc ?_ _)); refine blk_put (cs := #[.int .u8 0, .int .u8 0]) ?_ 0 _ rfl; (with_reducible repeat (first | refine blk_drewN ?_ _ | refine blk_drew ?_ | refine blk_alloc ?_ _)); exact BK180.out) hb); have n2_ := Aside0.mk (below_step (by repeat (first | (with_reducible first | exact HB.out | apply below_alloc | apply pw_below_drewN | apply below_drew1 | refine below_set ?_ GE176.out | refine below_set ?_ GE180.out) | exact HB.out)) hb); clear BK176; clear BK180; clear HB; have BK176 := n0_; have BK180 := n1_; have HB := n2_; clear n0_ n1_ n2_; (try clear hb); (try clear hb2); (try clear hk); (try clear hi)) | ((with_reducible refine gate_dst (N := 8) rfl ?_); refine box_event ?hg (N := 8) ?hd (cs := #[.int .u8 0, .int .u8 0]) (t := 23) ?hr ?_; (case hd => rfl); (case hg => rfl); (case hr => first | (go_simp; done) | (go_simp; rfl)); intro gb183 hg w19 hbox hb; have n0_ := Aside0.mk (blk_below (g := gb176) (o := .cells #[.int .u8 a0_0, .int .u8 a0_1] 23 (0, 0)) (by (with_reducible repeat (first | refine blk_drewN ?_ _ | refine blk_drew ?_ | refine blk_alloc ?_ _)); exact BK176.out) hb); have n1_ := Aside0.mk (blk_below (g := gb180) (o := .cells #[.int .u8 t178, .int .u8 t179] 23 (0, 0)) (by (with_reducible repeat (first | refine blk_drewN ?_ _ | refine blk_drew ?_ | refine blk_alloc ?_ _)); exact BK180.out) hb); have n2_ := Aside0.mk (below_step (by repeat (first | (with_reducible first | exact HB.out | apply below_alloc | apply pw_below_drewN | apply below_drew1 | refine below_set ?_ GE176.out | refine below_set ?_ GE180.out) | exact HB.out)) hb); have n3_ := Aside0.mk (hbox); have n4_ := Aside0.mk ((by rw [hg]; exact (below_size (by repeat (first | (with_reducible first | exact HB.out | apply below_alloc | apply pw_below_drewN | apply below_drew1 | refine below_set ?_ GE176.out | refine below_set ?_ GE180.out) | exact HB.out))) : w.heap.size ≤ gb183)); have n5_ := Aside0.mk ((by rw [hg]; exact (below_size (by repeat (first | (with_reducible first | exact HB.out | apply below_alloc | apply pw_below_drewN | apply below_drew1 | refine below_set ?_ GE176.out | refine below_set ?_ GE180.out) | exact HB.out))) : w.heap.size ≤ gb183)); have n6_ := Aside0.mk ((by rw [hg]; exact Nat.ne_of_lt (blk_lt (g := gb176) (o := .cells #[.int .u8 a0_0, .int .u8 a0_1] 23 (0, 0)) (by (with_reducible repeat (first | refine blk_drewN ?_ _ | refine blk_drew ?_ | refine blk_alloc ?_ _)); exact BK176.out)) : gb176 ≠ gb183)); have n7_ := Aside0.mk ((by rw [hg]; exact Nat.ne_of_gt (blk_lt (g := gb176) (o := .cells #[.int .u8 a0_0, .int .u8 a0_1] 23 (0, 0)) (by (with_reducible repeat (first | refine blk_drewN ?_ _ | refine blk_drew ?_ | refine blk_alloc ?_ _)); exact BK176.out)) : gb183 ≠ gb176)); have n8_ := Aside0.mk ((by rw [hg]; exact Nat.ne_of_lt (blk_lt (g := gb180) (o := .cells #[.int .u8 t178, .int .u8 t179] 23 (0, 0)) (by (with_reducible repeat (first | refine blk_drewN ?_ _ | refine blk_drew ?_ | refine blk_alloc ?_ _)); exact BK180.out)) : gb180 ≠ gb183)); have n9_ := Aside0.mk ((by rw [hg]; exact Nat.ne_of_gt (blk_lt (g := gb180) (o := .cells #[.int .u8 t178, .int .u8 t179] 23 (0, 0)) (by (with_reducible repeat (first | refine blk_drewN ?_ _ | refine blk_drew ?_ | refine blk_alloc ?_ _)); exact BK180.out)) : gb183 ≠ gb180)); clear BK176; clear BK180; clear HB; have BK176 := n0_; have BK180 := n1_; have HB := n2_; have BK183 := n3_; have GW183 := n4_; have GE183 := n5_; have NB176_183 := n6_; have NB183_176 := n7_; have NB180_183 := n8_; have NB183_180 := n9_; clear n0_ n1_ n2_ n3_ n4_ n5_ n6_ n7_ n8_ n9_; clear hb hbox hg; have hnb20 := NB183_176.out; have hnc20 := NB176_183.out; have hnb21 := NB183_180.out; have hnc21 := NB180_183.out; have hcz22_0 : w19.cell? ⟨gb183, 0, none⟩ = some (.int .u8 0) := (blk_cell BK183.out 0).trans rfl; have hcz22_1 : w19.cell? ⟨gb183, 1, none⟩ = some (.int .u8 0) := (blk_cell BK183.out 1).trans rfl; have hfz22_0 := blk_frozen BK183.out 0; have hfz22_1 := blk_frozen BK183.out 1; have hcz23_0 : w19.cell? ⟨gb180, 0, none⟩ = some (.int .u8 t178) := (blk_cell BK180.out 0).trans rfl; have hcz23_1 : w19.cell? ⟨gb180, 1, none⟩ = some (.int .u8 t179) := (blk_cell BK180.out 1).trans rfl; have hfz23_0 := blk_frozen BK180.out 0; have hfz23_1 := blk_frozen BK180.out 1) | (go_at_call 12; (with_reducible refine (irq_Pending.calls t178 t179 t184 _ A6.out).mono ?_); rintro e w24 ⟨rfl, hb⟩; have n0_ := Aside0.mk (blk_below (g := gb176) (o := .cells #[.int .u8 a0_0, .int .u8 a0_1] 23 (0, 0)) (by (with_reducible repeat (first | refine blk_drewN ?_ _ | refine blk_drew ?_ | refine blk_alloc ?_ _)); refine blk_far ?_ NB176_183.out _; (with_reducible repeat (first | refine blk_drewN ?_ _ | refine blk_drew ?_ | refine blk_alloc ?_ _)); refine blk_far ?_ NB176_183.out _; (with_reducible repeat (first | refine blk_drewN ?_ _ | refine blk_drew ?_ | refine blk_alloc ?_ _)); exact BK176.out) hb); have n1_ := Aside0.mk (blk_below (g := gb180) (o := .cells #[.int .u8 t178, .int .u8 t179] 23 (0, 0)) (by (with_reducible repeat (first | refine blk_drewN ?_ _ | refine blk_drew ?_ | refine blk_alloc ?_ _)); refine blk_far ?_ NB180_183.out _; (with_reducible repeat (first | refine blk_drewN ?_ _ | refine blk_drew ?_ | refine blk_alloc ?_ _)); refine blk_far ?_ NB180_183.out _; (with_reducible repeat (first | refine blk_drewN ?_ _ | refine blk_drew ?_ | refine blk_alloc ?_ _)); exact BK180.out) hb); have n2_ := Aside0.mk (blk_below (g := gb183) (o := .cells #[.int .u8 t181, .int .u8 t182] 23 (0, 0)) (by (with_reducible repeat (first | refine blk_drewN ?_ _ | refine blk_drew ?_ | refine blk_alloc ?_ _)); refine blk_put (cs := #[.int .u8 t181, .int .u8 0]) ?_ 1 _ rfl; (with_reducible repeat (first | refine blk_drewN ?_ _ | refine blk_drew ?_ | refine blk_alloc ?_ _)); refine blk_put (cs := #[.int .u8 0, .int .u8 0]) ?_ 0 _ rfl; (with_reducible repeat (first | refine blk_drewN ?_ _ | refine blk_drew ?_ | refine blk_alloc ?_ _)); exact BK183.out) hb); have n3_ := Aside0.mk (below_step (by repeat (first | (with_reducible first | exact HB.out | apply below_alloc | apply pw_below_drewN | apply below_drew1 | refine below_set ?_ GE176.out | refine below_set ?_ GE180.out | refine below_set ?_ GE183.out) | exact HB.out)) hb); clear BK176; clear BK180; clear BK183; clear HB; have BK176 := n0_; have BK180 := n1_; have BK183 := n2_; have HB := n3_; clear n0_ n1_ n2_ n3_; (try clear hb); (try clear hb2); (try clear hk); (try clear hi); have hcz25_0 : w24.cell? ⟨gb183, 0, none⟩ = some (.int .u8 t181) := (blk_cell BK183.out 0).trans rfl; have hcz25_1 : w24.cell? ⟨gb183, 1, none⟩ = some (.int .u8 t182) := (blk_cell BK183.out 1).trans rfl; have hfz25_0 := blk_frozen BK183.out 0; have hfz25_1 := blk_frozen BK183.out 1) | (go_at_call 12; (with_reducible refine (irq_Pending.calls t181 t182 t185 _ A7.out).mono ?_); rintro e w26 ⟨rfl, hb⟩; have n0_ := Aside0.mk (blk_below (g := gb176) (o := .cells #[.int .u8 a0_0, .int .u8 a0_1] 23 (0, 0)) (by (with_reducible repeat (first | refine blk_drewN ?_ _ | refine blk_drew ?_ | refine blk_alloc ?_ _)); exact BK176.out) hb); have n1_ := Aside0.mk (blk_below (g := gb180) (o := .cells #[.int .u8 t178, .int .u8 t179] 23 (0, 0)) (by (with_reducible repeat (first | refine blk_drewN ?_ _ | refine blk_drew ?_ | refine blk_alloc ?_ _)); exact BK180.out) hb); have n2_ := Aside0.mk (blk_below (g := gb183) (o := .cells #[.int .u8 t181, .int .u8 t182] 23 (0, 0)) (by (with_reducible repeat (first | refine blk_drewN ?_ _ | refine blk_drew ?_ | refine blk_alloc ?_ _)); exact BK183.out) hb); have n3_ := Aside0.mk (below_step (by repeat (first | (with_reducible first | exact HB.out | apply below_alloc | apply pw_below_drewN | apply below_drew1 | refine below_set ?_ GE176.out | refine below_set ?_ GE180.out | refine below_set ?_ GE183.out) | exact HB.out)) hb); clear BK176; clear BK180; clear BK183; clear HB; have BK176 := n0_; have BK180 := n1_; have BK183 := n2_; have HB := n3_; clear n0_ n1_ n2_ n3_; (try clear hb); (try clear hb2); (try clear hk); (try clear hi)) | (go_at_call 10; (with_reducible refine (irq_First.calls t184 t186 t187 _ A8.out).mono ?_); rintro e w27 ⟨rfl, hb⟩; have n0_ := Aside0.mk (blk_below (g := gb176) (o := .cells #[.int .u8 a0_0, .int .u8 a0_1] 23 (0, 0)) (by (with_reducible repeat (first | refine blk_drewN ?_ _ | refine blk_drew ?_ | refine blk_alloc ?_ _)); exact BK176.out) hb); have n1_ := Aside0.mk (blk_below (g := gb180) (o := .cells #[.int .u8 t178, .int .u8 t179] 23 (0, 0)) (by (with_reducible repeat (first | refine blk_drewN ?_ _ | refine blk_drew ?_ | refine blk_alloc ?_ _)); exact BK180.out) hb); have n2_ := Aside0.mk (blk_below (g := gb183) (o := .cells #[.int .u8 t181, .int .u8 t182] 23 (0, 0)) (by (with_reducible repeat (first | refine blk_drewN ?_ _ | refine blk_drew ?_ | refine blk_alloc ?_ _)); exact BK183.out) hb); have n3_ := Aside0.mk (below_step (by repeat (first | (with_reducible first | exact HB.out | apply below_alloc | apply pw_below_drewN | apply below_drew1 | refine below_set ?_ GE176.out | refine below_set ?_ GE180.out | refine below_set ?_ GE183.out) | exact HB.out)) hb); clear BK176; clear BK180; clear BK183; clear HB; have BK176 := n0_; have BK180 := n1_; have BK183 := n2_; have HB := n3_; clear n0_ n1_ n2_ n3_; (try clear hb); (try clear hb2); (try clear hk); (try clear hi)) | (go_at_call 16; (with_reducible refine (irq_Vector.calls (wrap64 (Int.tmod a1 5)) t188 t189 _ A9.out).mono ?_); rintro e w' ⟨rfl, ⟨nd, rfl⟩⟩; (try first | exact ⟨rfl, _, World.drewN_drewN _ _ _⟩ | exact ⟨rfl, _, Eq.trans (World.drewN_drewN _ _ _) (congrArg (World.drewN _) (Nat.add_assoc _ _ _))⟩))))
  (try simp only [Act.put, List.setIfInBounds_toArray, List.set_cons_zero, List.set_cons_succ])
  go_cut [87] (fun v87 wc => ∃ (kq : Nat) (x87_9 : Bool), v87 = .bool x87_9 ∧ Aside0 (whirligiglaw14_IrqTakes.j0 kq t177 (wrap64 (Int.tmod a1 5)) t184 t186 t187 t188 t189 x87_9 = some r) ∧ Aside0 (kq ≤ k) ∧ Aside0 (wc.heap[gb176]? = some (.cells #[.int .u8 a0_0, .int .u8 a0_1] 23 (0, 0))) ∧ Aside0 (wc.heap[gb180]? = some (.cells #[.int .u8 t178, .int .u8 t179] 23 (0, 0))) ∧ Aside0 (wc.heap[gb183]? = some (.cells #[.int .u8 t181, .int .u8 t182] 23 (0, 0))) ∧ Aside0 (Below w.heap.size w wc))
  case first =>
    have H := HC10.out
    clear HC10
    obtain ⟨ji28, hji28⟩ : ∃ j_ : Int, (wrap64 (Int.tmod a1 5)) = j_ := ⟨_, rfl⟩
    replace H : (if 0 ≤ (ji28) then (if (Go.bits .or .u8 t184 (shl .u8 1 (ji28))) = (Go.bits .or .u8 t185 (shl .u8 1 (ji28))) then (if (Go.bits .and .u8 (shr .u8 t185 (ji28)) 1) = 0 then (if (Go.bits .and .u8 (shr .u8 t184 (ji28)) 1) = (Go.bits .and .u8 (shr .u8 a0_1 (ji28)) 1) then (if (t187 != (t184 != 0)) = true then (whirligiglaw14_IrqTakes.j0 k t177 ji28 t184 t186 t187 t188 t189 true) else (if t179 = a0_1 then (whirligiglaw14_IrqTakes.j0 k t177 ji28 t184 t186 t187 t188 t189 (t182 != a0_1)) else (whirligiglaw14_IrqTakes.j0 k t177 ji28 t184 t186 t187 t188 t189 true))) else (whirligiglaw14_IrqTakes.j0 k t177 ji28 t184 t186 t187 t188 t189 true)) else (whirligiglaw14_IrqTakes.j0 k t177 ji28 t184 t186 t187 t188 t189 true)) else (whirligiglaw14_IrqTakes.j0 k t177 ji28 t184 t186 t187 t188 t189 true)) else (none)) = some r := by first | (rw [hji28] at H; exact H) | (simp only [hji28] at H ⊢; exact H)
    have hji28w : (IntKind.i64.wrap (Int.tmod a1 5)) = ji28 := (i64_w _).trans hji28
    by_cases c29 : 0 ≤ (ji28)
    · rw [if_pos c29] at H
      have c29b0 := eq_true c29
      have c29b1 : decide (0 ≤ (ji28)) = true := decide_eq_true c29
      clear c29
      obtain ⟨ji30, hji30⟩ : ∃ j_ : Int, (shl .u8 1 (ji28)) = j_ := ⟨_, rfl⟩
      replace H : (if (Go.bits .or .u8 t184 (ji30)) = (Go.bits .or .u8 t185 (ji30)) then (if (Go.bits .and .u8 (shr .u8 t185 (ji28)) 1) = 0 then (if (Go.bits .and .u8 (shr .u8 t184 (ji28)) 1) = (Go.bits .and .u8 (shr .u8 a0_1 (ji28)) 1) then (if (t187 != (t184 != 0)) = true then (whirligiglaw14_IrqTakes.j0 k t177 ji28 t184 t186 t187 t188 t189 true) else (if t179 = a0_1 then (whirligiglaw14_IrqTakes.j0 k t177 ji28 t184 t186 t187 t188 t189 (t182 != a0_1)) else (whirligiglaw14_IrqTakes.j0 k t177 ji28 t184 t186 t187 t188 t189 true))) else (whirligiglaw14_IrqTakes.j0 k t177 ji28 t184 t186 t187 t188 t189 true)) else (whirligiglaw14_IrqTakes.j0 k t177 ji28 t184 t186 t187 t188 t189 true)) else (whirligiglaw14_IrqTakes.j0 k t177 ji28 t184 t186 t187 t188 t189 true)) = some r := by first | (rw [hji30] at H; exact H) | (simp only [hji30] at H ⊢; exact H)
      have hji30_ : (IntKind.u8.wrap (1 * 2 ^ min (ji28).toNat 8)) = ji30 := hji30
      have hji30z : (ji28) ≤ 8 → (IntKind.u8.wrap (1 * 2 ^ (ji28).toNat)) = ji30 := shl_small hji30
      have hji30u : (IntKind.u8.wrap (2 ^ min (ji28).toNat 8)) = ji30 := by have h_ := hji30_; rw [Int.one_mul] at h_; exact h_
      have hji30v : (ji28) ≤ 8 → (IntKind.u8.wrap (2 ^ (ji28).toNat)) = ji30 := fun hle_ => by have h_ := hji30z hle_; rw [Int.one_mul] at h_; exact h_
      have c31b0 := eq_true (of_decide_eq_true (by first | (with_reducible assumption) | assumption) : 0 ≤ (ji28))
      have c32b0 := eq_true (of_decide_eq_true (by first | (with_reducible assumption) | assumption) : 0 ≤ (ji28))
      by_cases c33 : (Go.bits .or .u8 t184 (ji30)) = (Go.bits .or .u8 t185 (ji30))
      · rw [if_pos c33] at H
        have c33b0 : ((Go.bits .or .u8 t184 (ji30)) == (Go.bits .or .u8 t185 (ji30))) = true := beq_iff_eq.mpr c33
        have c33b1 : ((Go.bits .or .u8 t184 (ji30)) != (Go.bits .or .u8 t185 (ji30))) = false := bne_eq_false_iff_eq.mpr c33
        clear c33
        (first | rw [c33b0] | (simp only [i64_w, i32_w]; rw [c33b0]) | skip)
        have c34b0 := eq_true (of_decide_eq_true (by first | (with_reducible assumption) | assumption) : 0 ≤ (ji28))
        obtain ⟨ji35, hji35⟩ : ∃ j_ : Int, (shr .u8 t185 (ji28)) = j_ := ⟨_, rfl⟩
        replace H : (if (Go.bits .and .u8 (ji35) 1) = 0 then (if (Go.bits .and .u8 (shr .u8 t184 (ji28)) 1) = (Go.bits .and .u8 (shr .u8 a0_1 (ji28)) 1) then (if (t187 != (t184 != 0)) = true then (whirligiglaw14_IrqTakes.j0 k t177 ji28 t184 t186 t187 t188 t189 true) else (if t179 = a0_1 then (whirligiglaw14_IrqTakes.j0 k t177 ji28 t184 t186 t187 t188 t189 (t182 != a0_1)) else (whirligiglaw14_IrqTakes.j0 k t177 ji28 t184 t186 t187 t188 t189 true))) else (whirligiglaw14_IrqTakes.j0 k t177 ji28 t184 t186 t187 t188 t189 true)) else (whirligiglaw14_IrqTakes.j0 k t177 ji28 t184 t186 t187 t188 t189 true)) = some r := by first | (rw [hji35] at H; exact H) | (simp only [hji35] at H ⊢; exact H)
        have hji35_ : (t185 / 2 ^ min (ji28).toNat 8) = ji35 := hji35
        have hji35z : (ji28) ≤ 8 → (t185 / 2 ^ (ji28).toNat) = ji35 := shr_small hji35
        by_cases c36 : (Go.bits .and .u8 (ji35) 1) = 0
        · rw [if_pos c36] at H
          have c36b0 : ((Go.bits .and .u8 (ji35) 1) == 0) = true := beq_iff_eq.mpr c36
          have c36b1 : ((Go.bits .and .u8 (ji35) 1) != 0) = false := bne_eq_false_iff_eq.mpr c36
          clear c36
          have c37b0 := eq_true (of_decide_eq_true (by first | (with_reducible assumption) | assumption) : 0 ≤ (ji28))
          obtain ⟨ji38, hji38⟩ : ∃ j_ : Int, (shr .u8 t184 (ji28)) = j_ := ⟨_, rfl⟩
          replace H : (if (Go.bits .and .u8 (ji38) 1) = (Go.bits .and .u8 (shr .u8 a0_1 (ji28)) 1) then (if (t187 != (t184 != 0)) = true then (whirligiglaw14_IrqTakes.j0 k t177 ji28 t184 t186 t187 t188 t189 true) else (if t179 = a0_1 then (whirligiglaw14_IrqTakes.j0 k t177 ji28 t184 t186 t187 t188 t189 (t182 != a0_1)) else (whirligiglaw14_IrqTakes.j0 k t177 ji28 t184 t186 t187 t188 t189 true))) else (whirligiglaw14_IrqTakes.j0 k t177 ji28 t184 t186 t187 t188 t189 true)) = some r := by first | (rw [hji38] at H; exact H) | (simp only [hji38] at H ⊢; exact H)
          have hji38_ : (t184 / 2 ^ min (ji28).toNat 8) = ji38 := hji38
          have hji38z : (ji28) ≤ 8 → (t184 / 2 ^ (ji28).toNat) = ji38 := shr_small hji38
          have c39b0 := eq_true (of_decide_eq_true (by first | (with_reducible assumption) | assumption) : 0 ≤ (ji28))
          obtain ⟨ji40, hji40⟩ : ∃ j_ : Int, (shr .u8 a0_1 (ji28)) = j_ := ⟨_, rfl⟩
          replace H : (if (Go.bits .and .u8 (ji38) 1) = (Go.bits .and .u8 (ji40) 1) then (if (t187 != (t184 != 0)) = true then (whirligiglaw14_IrqTakes.j0 k t177 ji28 t184 t186 t187 t188 t189 true) else (if t179 = a0_1 then (whirligiglaw14_IrqTakes.j0 k t177 ji28 t184 t186 t187 t188 t189 (t182 != a0_1)) else (whirligiglaw14_IrqTakes.j0 k t177 ji28 t184 t186 t187 t188 t189 true))) else (whirligiglaw14_IrqTakes.j0 k t177 ji28 t184 t186 t187 t188 t189 true)) = some r := by first | (rw [hji40] at H; exact H) | (simp only [hji40] at H ⊢; exact H)
          have hji40_ : (a0_1 / 2 ^ min (ji28).toNat 8) = ji40 := hji40
          have hji40z : (ji28) ≤ 8 → (a0_1 / 2 ^ (ji28).toNat) = ji40 := shr_small hji40
          by_cases c41 : (Go.bits .and .u8 (ji38) 1) = (Go.bits .and .u8 (ji40) 1)
          · rw [if_pos c41] at H
            have c41b0 : ((Go.bits .and .u8 (ji38) 1) == (Go.bits .and .u8 (ji40) 1)) = true := beq_iff_eq.mpr c41
            have c41b1 : ((Go.bits .and .u8 (ji38) 1) != (Go.bits .and .u8 (ji40) 1)) = false := bne_eq_false_iff_eq.mpr c41
            clear c41
            by_cases c42 : (t187 != (t184 != 0)) = true
            · rw [if_pos c42] at H
              have c42b0 : (t187 != (t184 != 0)) = true := c42
              (try (have c42b1 : decide (t187 = (t184 != 0)) = false := by simpa using c42))
              (try (have c42b2 : (t187 == (t184 != 0)) = false := by simpa using c42))
              (try (have c42b3 : ¬ (t187 = (t184 != 0)) := by simpa using c42))
              clear c42
              have H' := Aside0.mk H; (try rw [← hji28] at H')
              clear H
              have hnb43 := NB176_180.out
              have hnc43 := NB180_176.out
              have hnb44 := NB176_183.out
              have hnc44 := NB183_176.out
              have hcz45_0 : w27.cell? ⟨gb176, 0, none⟩ = some (.int .u8 a0_0) := (blk_cell BK176.out 0).trans rfl
              have hcz45_1 : w27.cell? ⟨gb176, 1, none⟩ = some (.int .u8 a0_1) := (blk_cell BK176.out 1).trans rfl
              have hfz45_0 := blk_frozen BK176.out 0
              have hfz45_1 := blk_frozen BK176.out 1
              go_wp2
              repeat (go_quiet (fail); try go_wp2)
              go_meet
              case rel => exact ⟨_, (true), (by first | rfl | (simp; done) | (simp [*]; done)), H', ⟨by first | omega | exact Nat.le_refl _⟩, ⟨by (with_reducible repeat (first | refine blk_drewN ?_ _ | refine blk_drew ?_ | refine blk_alloc ?_ _)); exact BK176.out⟩, ⟨by (with_reducible repeat (first | refine blk_drewN ?_ _ | refine blk_drew ?_ | refine blk_alloc ?_ _)); exact BK180.out⟩, ⟨by (with_reducible repeat (first | refine blk_drewN ?_ _ | refine blk_drew ?_ | refine blk_alloc ?_ _)); exact BK183.out⟩, ⟨by repeat (first | (with_reducible first | exact HB.out | apply below_alloc | apply pw_below_drewN | apply below_drew1 | refine below_set ?_ GE176.out | refine below_set ?_ GE180.out | refine below_set ?_ GE183.out) | exact HB.out)⟩⟩
            · rw [if_neg c42] at H
              have c42b0 : (t187 != (t184 != 0)) = false := by simpa using c42
              (try (have c42b1 : decide (t187 = (t184 != 0)) = true := by simpa using c42))
              (try (have c42b2 : (t187 == (t184 != 0)) = true := by simpa using c42))
              clear c42
              by_cases c46 : t179 = a0_1
              · rw [if_pos c46] at H
                have c46b0 : (t179 == a0_1) = true := beq_iff_eq.mpr c46
                have c46b1 : (t179 != a0_1) = false := bne_eq_false_iff_eq.mpr c46
                clear c46
                have H' := Aside0.mk H; (try rw [← hji28] at H')
                clear H
                have hnb47 := NB176_180.out
                have hnc47 := NB180_176.out
                have hnb48 := NB176_183.out
                have hnc48 := NB183_176.out
                have hcz49_0 : w27.cell? ⟨gb176, 0, none⟩ = some (.int .u8 a0_0) := (blk_cell BK176.out 0).trans rfl
                have hcz49_1 : w27.cell? ⟨gb176, 1, none⟩ = some (.int .u8 a0_1) := (blk_cell BK176.out 1).trans rfl
                have hfz49_0 := blk_frozen BK176.out 0
                have hfz49_1 := blk_frozen BK176.out 1
                have hnb50 := NB180_183.out
                have hnc50 := NB183_180.out
                have hcz51_0 : w27.cell? ⟨gb180, 0, none⟩ = some (.int .u8 t178) := (blk_cell BK180.out 0).trans rfl
                have hcz51_1 : w27.cell? ⟨gb180, 1, none⟩ = some (.int .u8 t179) := (blk_cell BK180.out 1).trans rfl
                have hfz51_0 := blk_frozen BK180.out 0
                have hfz51_1 := blk_frozen BK180.out 1
                have hcz52_0 : w27.cell? ⟨gb183, 0, none⟩ = some (.int .u8 t181) := (blk_cell BK183.out 0).trans rfl
                have hcz52_1 : w27.cell? ⟨gb183, 1, none⟩ = some (.int .u8 t182) := (blk_cell BK183.out 1).trans rfl
                have hfz52_0 := blk_frozen BK183.out 0
                have hfz52_1 := blk_frozen BK183.out 1
                go_wp2
                repeat (go_quiet (fail); try go_wp2)
                go_meet
                case rel => exact ⟨_, ((t182 != a0_1)), (by first | rfl | (simp; done) | (simp [*]; done)), H', ⟨by first | omega | exact Nat.le_refl _⟩, ⟨by (with_reducible repeat (first | refine blk_drewN ?_ _ | refine blk_drew ?_ | refine blk_alloc ?_ _)); exact BK176.out⟩, ⟨by (with_reducible repeat (first | refine blk_drewN ?_ _ | refine blk_drew ?_ | refine blk_alloc ?_ _)); exact BK180.out⟩, ⟨by (with_reducible repeat (first | refine blk_drewN ?_ _ | refine blk_drew ?_ | refine blk_alloc ?_ _)); exact BK183.out⟩, ⟨by repeat (first | (with_reducible first | exact HB.out | apply below_alloc | apply pw_below_drewN | apply below_drew1 | refine below_set ?_ GE176.out | refine below_set ?_ GE180.out | refine below_set ?_ GE183.out) | exact HB.out)⟩⟩
              · rw [if_neg c46] at H
                have c46b0 : (t179 == a0_1) = false := beq_eq_false_iff_ne.mpr c46
                have c46b1 : (t179 != a0_1) = true := bne_iff_ne.mpr c46
                have H' := Aside0.mk H; (try rw [← hji28] at H')
                clear H
                have hnb53 := NB176_180.out
                have hnc53 := NB180_176.out
                have hnb54 := NB176_183.out
                have hnc54 := NB183_176.out
                have hcz55_0 : w27.cell? ⟨gb176, 0, none⟩ = some (.int .u8 a0_0) := (blk_cell BK176.out 0).trans rfl
                have hcz55_1 : w27.cell? ⟨gb176, 1, none⟩ = some (.int .u8 a0_1) := (blk_cell BK176.out 1).trans rfl
                have hfz55_0 := blk_frozen BK176.out 0
                have hfz55_1 := blk_frozen BK176.out 1
                have hnb56 := NB180_183.out
                have hnc56 := NB183_180.out
                have hcz57_0 : w27.cell? ⟨gb180, 0, none⟩ = some (.int .u8 t178) := (blk_cell BK180.out 0).trans rfl
                have hcz57_1 : w27.cell? ⟨gb180, 1, none⟩ = some (.int .u8 t179) := (blk_cell BK180.out 1).trans rfl
                have hfz57_0 := blk_frozen BK180.out 0
                have hfz57_1 := blk_frozen BK180.out 1
                go_wp2
                repeat (go_quiet (fail); try go_wp2)
                go_meet
                case rel => exact ⟨_, (true), (by first | rfl | (simp; done) | (simp [*]; done)), H', ⟨by first | omega | exact Nat.le_refl _⟩, ⟨by (with_reducible repeat (first | refine blk_drewN ?_ _ | refine blk_drew ?_ | refine blk_alloc ?_ _)); exact BK176.out⟩, ⟨by (with_reducible repeat (first | refine blk_drewN ?_ _ | refine blk_drew ?_ | refine blk_alloc ?_ _)); exact BK180.out⟩, ⟨by (with_reducible repeat (first | refine blk_drewN ?_ _ | refine blk_drew ?_ | refine blk_alloc ?_ _)); exact BK183.out⟩, ⟨by repeat (first | (with_reducible first | exact HB.out | apply below_alloc | apply pw_below_drewN | apply below_drew1 | refine below_set ?_ GE176.out | refine below_set ?_ GE180.out | refine below_set ?_ GE183.out) | exact HB.out)⟩⟩
          · rw [if_neg c41] at H
            have c41b0 : ((Go.bits .and .u8 (ji38) 1) == (Go.bits .and .u8 (ji40) 1)) = false := beq_eq_false_iff_ne.mpr c41
            have c41b1 : ((Go.bits .and .u8 (ji38) 1) != (Go.bits .and .u8 (ji40) 1)) = true := bne_iff_ne.mpr c41
            have H' := Aside0.mk H; (try rw [← hji28] at H')
            clear H
            have hnb58 := NB176_180.out
            have hnc58 := NB180_176.out
            have hnb59 := NB176_183.out
            have hnc59 := NB183_176.out
            have hcz60_0 : w27.cell? ⟨gb176, 0, none⟩ = some (.int .u8 a0_0) := (blk_cell BK176.out 0).trans rfl
            have hcz60_1 : w27.cell? ⟨gb176, 1, none⟩ = some (.int .u8 a0_1) := (blk_cell BK176.out 1).trans rfl
            have hfz60_0 := blk_frozen BK176.out 0
            have hfz60_1 := blk_frozen BK176.out 1
            go_wp2
            repeat (go_quiet (fail); try go_wp2)
            go_meet
            case rel => exact ⟨_, (true), (by first | rfl | (simp; done) | (simp [*]; done)), H', ⟨by first | omega | exact Nat.le_refl _⟩, ⟨by (with_reducible repeat (first | refine blk_drewN ?_ _ | refine blk_drew ?_ | refine blk_alloc ?_ _)); exact BK176.out⟩, ⟨by (with_reducible repeat (first | refine blk_drewN ?_ _ | refine blk_drew ?_ | refine blk_alloc ?_ _)); exact BK180.out⟩, ⟨by (with_reducible repeat (first | refine blk_drewN ?_ _ | refine blk_drew ?_ | refine blk_alloc ?_ _)); exact BK183.out⟩, ⟨by repeat (first | (with_reducible first | exact HB.out | apply below_alloc | apply pw_below_drewN | apply below_drew1 | refine below_set ?_ GE176.out | refine below_set ?_ GE180.out | refine below_set ?_ GE183.out) | exact HB.out)⟩⟩
        · rw [if_neg c36] at H
          have c36b0 : ((Go.bits .and .u8 (ji35) 1) == 0) = false := beq_eq_false_iff_ne.mpr c36
          have c36b1 : ((Go.bits .and .u8 (ji35) 1) != 0) = true := bne_iff_ne.mpr c36
          have H' := Aside0.mk H; (try rw [← hji28] at H')
          clear H
          go_wp2
          repeat (go_quiet (fail); try go_wp2)
          go_meet
          case rel => exact ⟨_, (true), (by first | rfl | (simp; done) | (simp [*]; done)), H', ⟨by first | omega | exact Nat.le_refl _⟩, ⟨by (with_reducible repeat (first | refine blk_drewN ?_ _ | refine blk_drew ?_ | refine blk_alloc ?_ _)); exact BK176.out⟩, ⟨by (with_reducible repeat (first | refine blk_drewN ?_ _ | refine blk_drew ?_ | refine blk_alloc ?_ _)); exact BK180.out⟩, ⟨by (with_reducible repeat (first | refine blk_drewN ?_ _ | refine blk_drew ?_ | refine blk_alloc ?_ _)); exact BK183.out⟩, ⟨by repeat (first | (with_reducible first | exact HB.out | apply below_alloc | apply pw_below_drewN | apply below_drew1 | refine below_set ?_ GE176.out | refine below_set ?_ GE180.out | refine below_set ?_ GE183.out) | exact HB.out)⟩⟩
      · rw [if_neg c33] at H
        have c33b0 : ((Go.bits .or .u8 t184 (ji30)) == (Go.bits .or .u8 t185 (ji30))) = false := beq_eq_false_iff_ne.mpr c33
        have c33b1 : ((Go.bits .or .u8 t184 (ji30)) != (Go.bits .or .u8 t185 (ji30))) = true := bne_iff_ne.mpr c33
        (first | rw [c33b0] | (simp only [i64_w, i32_w]; rw [c33b0]) | skip)
        have H' := Aside0.mk H; (try rw [← hji28] at H')
        clear H
        go_wp2
        repeat (go_quiet (fail); try go_wp2)
        go_meet
        case rel => exact ⟨_, (true), (by first | rfl | (simp; done) | (simp [*]; done)), H', ⟨by first | omega | exact Nat.le_refl _⟩, ⟨by (with_reducible repeat (first | refine blk_drewN ?_ _ | refine blk_drew ?_ | refine blk_alloc ?_ _)); exact BK176.out⟩, ⟨by (with_reducible repeat (first | refine blk_drewN ?_ _ | refine blk_drew ?_ | refine blk_alloc ?_ _)); exact BK180.out⟩, ⟨by (with_reducible repeat (first | refine blk_drewN ?_ _ | refine blk_drew ?_ | refine blk_alloc ?_ _)); exact BK183.out⟩, ⟨by repeat (first | (with_reducible first | exact HB.out | apply below_alloc | apply pw_below_drewN | apply below_drew1 | refine below_set ?_ GE176.out | refine below_set ?_ GE180.out | refine below_set ?_ GE183.out) | exact HB.out)⟩⟩
    · rw [if_neg c29] at H
      exact absurd H (by simp)
  case rest =>
    clear HC10
    try clear c1
    try clear c2
    try clear p2
    try clear c3
    try clear c4
    try clear c5
    try clear p6
    try clear c8
    try clear c16
    try clear c20
    try clear c21
    try clear c29
    try clear c29b0
    try clear c29b1
    try clear c31
    try clear c31b0
    try clear c32
    try clear c32b0
    try clear c33
    try clear c33b0
    try clear c33b1
    try clear c34
    try clear c34b0
    try clear c36
    try clear c36b0
    try clear c36b1
    try clear c37
    try clear c37b0
    try clear c39
    try clear c39b0
    try clear c41
    try clear c41b0
    try clear c41b1
    try clear c42
    try clear c42b0
    try clear c42b1
    try clear c42b2
    try clear c43
    try clear c44
    try clear c46
    try clear c46b0
    try clear c46b1
    try clear c47
    try clear c48
    try clear c50
    try clear c53
    try clear c54
    try clear c56
    try clear c58
    try clear c59
    try clear hcz13_0
    try clear hcz13_1
    try clear hcz17_0
    try clear hcz17_1
    try clear hcz22_0
    try clear hcz22_1
    try clear hcz23_0
    try clear hcz23_1
    try clear hcz25_0
    try clear hcz25_1
    try clear hcz45_0
    try clear hcz45_1
    try clear hcz49_0
    try clear hcz49_1
    try clear hcz51_0
    try clear hcz51_1
    try clear hcz52_0
    try clear hcz52_1
    try clear hcz55_0
    try clear hcz55_1
    try clear hcz57_0
    try clear hcz57_1
    try clear hcz60_0
    try clear hcz60_1
    try clear hfz13_0
    try clear hfz13_1
    try clear hfz17_0
    try clear hfz17_1
    try clear hfz22_0
    try clear hfz22_1
    try clear hfz23_0
    try clear hfz23_1
    try clear hfz25_0
    try clear hfz25_1
    try clear hfz45_0
    try clear hfz45_1
    try clear hfz49_0
    try clear hfz49_1
    try clear hfz51_0
    try clear hfz51_1
    try clear hfz52_0
    try clear hfz52_1
    try clear hfz55_0
    try clear hfz55_1
    try clear hfz57_0
    try clear hfz57_1
    try clear hfz60_0
    try clear hfz60_1
    obtain ⟨kq, x87_9, rfl, HA, HJ9, BK176, BK180, BK183, HB⟩ := hcut
    cases kq with
    | zero => exact absurd HA.out (by simp [whirligiglaw14_IrqTakes.j0])
    | succ kj9 =>
      have H := HA.out
      clear HA
      simp only [whirligiglaw14_IrqTakes.j0] at H
      by_cases c61 : x87_9 = true
      · subst c61
        have H1 : (some false) = some r := by rw [if_pos rfl] at H; exact H
        clear H
        have H := H1
        clear H1
        obtain rfl := Option.some.inj H
        go_wp2
        repeat (go_quiet (fail); try go_wp2)
        go_ret
        exact ⟨by first | rfl | (simp [errW_none, errW_some] <;> rfl) | (simp [*, errW_none, errW_some] <;> rfl), by repeat (first | (with_reducible first | exact HB.out | apply below_alloc | apply pw_below_drewN | apply below_drew1 | refine below_set ?_ GE176.out | refine below_set ?_ GE180.out | refine below_set ?_ GE183.out) | exact HB.out)⟩
      · replace c61 := Bool.eq_false_iff.mpr c61
        subst c61
        have H1 : (whirligiglaw14_IrqTakes.l0 kj9 t177 (wrap64 (Int.tmod a1 5)) t184 t186 t187 t188 t189 0) = some r := by rw [if_neg (show ¬ (false = true) by decide)] at H; exact H
        clear H
        have H := H1
        clear H1
        have H' := Aside0.mk H; (try rw [← hji28] at H')
        clear H
        go_wp2
        repeat (go_quiet (fail); try go_wp2)
        go_loopg [15] kj9 (fun kq v15 w' => ∃ (x15_2 : Int), v15 = .int .i64 x15_2 ∧ Aside0 (whirligiglaw14_IrqTakes.l0 kq t177 (wrap64 (Int.tmod a1 5)) t184 t186 t187 t188 t189 x15_2 = some r) ∧ Aside0 (kq ≤ kj9) ∧ Aside0 (w'.heap[gb176]? = some (.cells #[.int .u8 a0_0, .int .u8 a0_1] 23 (0, 0))) ∧ Aside0 (w'.heap[gb180]? = some (.cells #[.int .u8 t178, .int .u8 t179] 23 (0, 0))) ∧ Aside0 (w'.heap[gb183]? = some (.cells #[.int .u8 t181, .int .u8 t182] 23 (0, 0))) ∧ Aside0 (Below w.heap.size w w'))
        case atStart => exact ⟨(0), (by first | rfl | (simp; done) | (simp [*]; done)), H', ⟨Nat.le_refl _⟩, ⟨by (with_reducible repeat (first | refine blk_drewN ?_ _ | refine blk_drew ?_ | refine blk_alloc ?_ _)); exact BK176.out⟩, ⟨by (with_reducible repeat (first | refine blk_drewN ?_ _ | refine blk_drew ?_ | refine blk_alloc ?_ _)); exact BK180.out⟩, ⟨by (with_reducible repeat (first | refine blk_drewN ?_ _ | refine blk_drew ?_ | refine blk_alloc ?_ _)); exact BK183.out⟩, ⟨by repeat (first | (with_reducible first | exact HB.out | apply below_alloc | apply pw_below_drewN | apply below_drew1 | refine below_set ?_ GE176.out | refine below_set ?_ GE180.out | refine below_set ?_ GE183.out) | exact HB.out)⟩⟩
        case round =>
          clear H'
          try clear c1
          try clear c2
          try clear p2
          try clear c3
          try clear c4
          try clear c5
          try clear c6
          try clear p6
          try clear c8
          try clear c16
          try clear c20
          try clear c21
          try clear c29
          try clear c29b0
          try clear c29b1
          try clear c31
          try clear c31b0
          try clear c32
          try clear c32b0
          try clear c33
          try clear c33b0
          try clear c33b1
          try clear c34
          try clear c34b0
          try clear c36
          try clear c36b0
          try clear c36b1
          try clear c37
          try clear c37b0
          try clear c39
          try clear c39b0
          try clear c41
          try clear c41b0
          try clear c41b1
          try clear c42
          try clear c42b0
          try clear c42b1
          try clear c42b2
          try clear c43
          try clear c44
          try clear c46
          try clear c46b0
          try clear c46b1
          try clear c47
          try clear c48
          try clear c50
          try clear c53
          try clear c54
          try clear c56
          try clear c58
          try clear c59
          try clear c61
          try clear hcz13_0
          try clear hcz13_1
          try clear hcz17_0
          try clear hcz17_1
          try clear hcz22_0
          try clear hcz22_1
          try clear hcz23_0
          try clear hcz23_1
          try clear hcz25_0
          try clear hcz25_1
          try clear hcz45_0
          try clear hcz45_1
          try clear hcz49_0
          try clear hcz49_1
          try clear hcz51_0
          try clear hcz51_1
          try clear hcz52_0
          try clear hcz52_1
          try clear hcz55_0
          try clear hcz55_1
          try clear hcz57_0
          try clear hcz57_1
          try clear hcz60_0
          try clear hcz60_1
          try clear hfz13_0
          try clear hfz13_1
          try clear hfz17_0
          try clear hfz17_1
          try clear hfz22_0
          try clear hfz22_1
          try clear hfz23_0
          try clear hfz23_1
          try clear hfz25_0
          try clear hfz25_1
          try clear hfz45_0
          try clear hfz45_1
          try clear hfz49_0
          try clear hfz49_1
          try clear hfz51_0
          try clear hfz51_1
          try clear hfz52_0
          try clear hfz52_1
          try clear hfz55_0
          try clear hfz55_1
          try clear hfz57_0
          try clear hfz57_1
          try clear hfz60_0
          try clear hfz60_1
          try clear p2
          try clear p6
          obtain ⟨x15_2, rfl, HA, HK2, BK176, BK180, BK183, HB⟩ := hrel
          cases gk with
          | zero => exact absurd HA.out (by simp [whirligiglaw14_IrqTakes.l0])
          | succ k2 =>
            have H := HA.out
            clear HA
            simp only [whirligiglaw14_IrqTakes.l0] at H
            by_cases c62 : x15_2 < t186
            · rw [if_pos c62] at H
              have c62b0 : decide (x15_2 < t186) = true := decide_eq_true c62
              clear c62
              by_cases c63 : 0 ≤ x15_2
              · rw [if_pos c63] at H
                have c63b0 := eq_true c63
                have c63b1 : decide (0 ≤ x15_2) = true := decide_eq_true c63
                clear c63
                obtain ⟨ji64, hji64⟩ : ∃ j_ : Int, (shr .u8 t184 x15_2) = j_ := ⟨_, rfl⟩
                replace H : (if (Go.bits .and .u8 (ji64) 1) = 0 then (whirligiglaw14_IrqTakes.l0 k2 t177 (wrap64 (Int.tmod a1 5)) t184 t186 t187 t188 t189 (wrap64 (x15_2 + 1))) else (some false)) = some r := by first | (rw [hji64] at H; exact H) | (simp only [hji64] at H ⊢; exact H)
                have hji64_ : (t184 / 2 ^ min x15_2.toNat 8) = ji64 := hji64
                have hji64z : x15_2 ≤ 8 → (t184 / 2 ^ x15_2.toNat) = ji64 := shr_small hji64
                by_cases c65 : (Go.bits .and .u8 (ji64) 1) = 0
                · rw [if_pos c65] at H
                  have c65b0 : ((Go.bits .and .u8 (ji64) 1) == 0) = true := beq_iff_eq.mpr c65
                  have c65b1 : ((Go.bits .and .u8 (ji64) 1) != 0) = false := bne_eq_false_iff_eq.mpr c65
                  clear c65
                  have H' := Aside0.mk H; (try rw [← hji28] at H')
                  clear H
                  go_wp2
                  repeat (go_quiet (fail); try go_wp2)
                  go_roundg k2
                  case measure => have := HJ9.out; have := HK2.out; omega
                  case rel => exact ⟨(wrap64 (x15_2 + 1)), (by first | rfl | (simp; done) | (simp [*]; done)), H', ⟨by have := HJ9.out; have := HK2.out; omega⟩, ⟨by (with_reducible repeat (first | refine blk_drewN ?_ _ | refine blk_drew ?_ | refine blk_alloc ?_ _)); exact BK176.out⟩, ⟨by (with_reducible repeat (first | refine blk_drewN ?_ _ | refine blk_drew ?_ | refine blk_alloc ?_ _)); exact BK180.out⟩, ⟨by (with_reducible repeat (first | refine blk_drewN ?_ _ | refine blk_drew ?_ | refine blk_alloc ?_ _)); exact BK183.out⟩, ⟨by repeat (first | (with_reducible first | exact HB.out | apply below_alloc | apply pw_below_drewN | apply below_drew1 | refine below_set ?_ GE176.out | refine below_set ?_ GE180.out | refine below_set ?_ GE183.out) | exact HB.out)⟩⟩
                · rw [if_neg c65] at H
                  have c65b0 : ((Go.bits .and .u8 (ji64) 1) == 0) = false := beq_eq_false_iff_ne.mpr c65
                  have c65b1 : ((Go.bits .and .u8 (ji64) 1) != 0) = true := bne_iff_ne.mpr c65
                  obtain rfl := Option.some.inj H
                  go_wp2
                  repeat (go_quiet (fail); try go_wp2)
                  go_ret
                  exact ⟨by first | rfl | (simp [errW_none, errW_some] <;> rfl) | (simp only [← hji64]; first | rfl | (simp [errW_none, errW_some] <;> rfl)) | (simp [*, errW_none, errW_some] <;> rfl), by repeat (first | (with_reducible first | exact HB.out | apply below_alloc | apply pw_below_drewN | apply below_drew1 | refine below_set ?_ GE176.out | refine below_set ?_ GE180.out | refine below_set ?_ GE183.out) | exact HB.out)⟩
              · rw [if_neg c63] at H
                exact absurd H (by simp)
            · rw [if_neg c62] at H
              have c62b0 : decide (x15_2 < t186) = false := decide_eq_false c62
              clear c62
              by_cases c66 : t177 = true
              · subst c66
                have H1 : (if t187 = true then (if t186 ≤ 4 then (if 0 ≤ t186 then (if (Go.bits .and .u8 (shr .u8 t184 t186) 1) = 1 then (if (wrap64 (t188)) = (wrap64 (64 + (wrap64 (8 * (wrap64 (Int.tmod a1 5)))))) then (some (t189 == 0)) else (some false)) else (some false)) else (none)) else (some false)) else (if (wrap64 (t188)) = (wrap64 (64 + (wrap64 (8 * (wrap64 (Int.tmod a1 5)))))) then (some (t189 == 0)) else (some false))) = some r := by rw [if_pos rfl] at H; exact H
                clear H
                have H := H1
                clear H1
                by_cases c67 : t187 = true
                · subst c67
                  have H1 : (if t186 ≤ 4 then (if 0 ≤ t186 then (if (Go.bits .and .u8 (shr .u8 t184 t186) 1) = 1 then (if (wrap64 (t188)) = (wrap64 (64 + (wrap64 (8 * (wrap64 (Int.tmod a1 5)))))) then (some (t189 == 0)) else (some false)) else (some false)) else (none)) else (some false)) = some r := by rw [if_pos rfl] at H; exact H
                  clear H
                  have H := H1
                  clear H1
                  by_cases c68 : t186 ≤ 4
                  · rw [if_pos c68] at H
                    have c68b0 : decide (t186 ≤ 4) = true := decide_eq_true c68
                    clear c68
                    by_cases c69 : 0 ≤ t186
                    · rw [if_pos c69] at H
                      have c69b0 := eq_true c69
                      have c69b1 : decide (0 ≤ t186) = true := decide_eq_true c69
                      clear c69
                      obtain ⟨ji70, hji70⟩ : ∃ j_ : Int, (shr .u8 t184 t186) = j_ := ⟨_, rfl⟩
                      replace H : (if (Go.bits .and .u8 (ji70) 1) = 1 then (if (wrap64 (t188)) = (wrap64 (64 + (wrap64 (8 * (wrap64 (Int.tmod a1 5)))))) then (some (t189 == 0)) else (some false)) else (some false)) = some r := by first | (rw [hji70] at H; exact H) | (simp only [hji70] at H ⊢; exact H)
                      have hji70_ : (t184 / 2 ^ min t186.toNat 8) = ji70 := hji70
                      have hji70z : t186 ≤ 8 → (t184 / 2 ^ t186.toNat) = ji70 := shr_small hji70
                      by_cases c71 : (Go.bits .and .u8 (ji70) 1) = 1
                      · rw [if_pos c71] at H
                        have c71b0 : ((Go.bits .and .u8 (ji70) 1) == 1) = true := beq_iff_eq.mpr c71
                        have c71b1 : ((Go.bits .and .u8 (ji70) 1) != 1) = false := bne_eq_false_iff_eq.mpr c71
                        clear c71
                        by_cases c72 : (wrap64 (t188)) = (wrap64 (64 + (wrap64 (8 * (wrap64 (Int.tmod a1 5))))))
                        · rw [if_pos c72] at H
                          have c72b0 : ((wrap64 (t188)) == (wrap64 (64 + (wrap64 (8 * (wrap64 (Int.tmod a1 5))))))) = true := beq_iff_eq.mpr c72
                          have c72b1 : ((wrap64 (t188)) != (wrap64 (64 + (wrap64 (8 * (wrap64 (Int.tmod a1 5))))))) = false := bne_eq_false_iff_eq.mpr c72
                          clear c72
                          obtain rfl := Option.some.inj H
                          go_wp2
                          repeat (go_quiet (fail); try go_wp2)
                          go_ret
                          exact ⟨by first | rfl | (simp [errW_none, errW_some] <;> rfl) | (simp only [← hji70]; first | rfl | (simp [errW_none, errW_some] <;> rfl)) | (simp [*, errW_none, errW_some] <;> rfl), by repeat (first | (with_reducible first | exact HB.out | apply below_alloc | apply pw_below_drewN | apply below_drew1 | refine below_set ?_ GE176.out | refine below_set ?_ GE180.out | refine below_set ?_ GE183.out) | exact HB.out)⟩
                        · rw [if_neg c72] at H
                          have c72b0 : ((wrap64 (t188)) == (wrap64 (64 + (wrap64 (8 * (wrap64 (Int.tmod a1 5))))))) = false := beq_eq_false_iff_ne.mpr c72
                          have c72b1 : ((wrap64 (t188)) != (wrap64 (64 + (wrap64 (8 * (wrap64 (Int.tmod a1 5))))))) = true := bne_iff_ne.mpr c72
                          obtain rfl := Option.some.inj H
                          go_wp2
                          repeat (go_quiet (fail); try go_wp2)
                          go_ret
                          exact ⟨by first | rfl | (simp [errW_none, errW_some] <;> rfl) | (simp only [← hji70]; first | rfl | (simp [errW_none, errW_some] <;> rfl)) | (simp [*, errW_none, errW_some] <;> rfl), by repeat (first | (with_reducible first | exact HB.out | apply below_alloc | apply pw_below_drewN | apply below_drew1 | refine below_set ?_ GE176.out | refine below_set ?_ GE180.out | refine below_set ?_ GE183.out) | exact HB.out)⟩
                      · rw [if_neg c71] at H
                        have c71b0 : ((Go.bits .and .u8 (ji70) 1) == 1) = false := beq_eq_false_iff_ne.mpr c71
                        have c71b1 : ((Go.bits .and .u8 (ji70) 1) != 1) = true := bne_iff_ne.mpr c71
                        obtain rfl := Option.some.inj H
                        go_wp2
                        repeat (go_quiet (fail); try go_wp2)
                        go_ret
                        exact ⟨by first | rfl | (simp [errW_none, errW_some] <;> rfl) | (simp only [← hji70]; first | rfl | (simp [errW_none, errW_some] <;> rfl)) | (simp [*, errW_none, errW_some] <;> rfl), by repeat (first | (with_reducible first | exact HB.out | apply below_alloc | apply pw_below_drewN | apply below_drew1 | refine below_set ?_ GE176.out | refine below_set ?_ GE180.out | refine below_set ?_ GE183.out) | exact HB.out)⟩
                    · rw [if_neg c69] at H
                      exact absurd H (by simp)
                  · rw [if_neg c68] at H
                    have c68b0 : decide (t186 ≤ 4) = false := decide_eq_false c68
                    clear c68
                    obtain rfl := Option.some.inj H
                    go_wp2
                    repeat (go_quiet (fail); try go_wp2)
                    go_ret
                    exact ⟨by first | rfl | (simp [errW_none, errW_some] <;> rfl) | (simp [*, errW_none, errW_some] <;> rfl), by repeat (first | (with_reducible first | exact HB.out | apply below_alloc | apply pw_below_drewN | apply below_drew1 | refine below_set ?_ GE176.out | refine below_set ?_ GE180.out | refine below_set ?_ GE183.out) | exact HB.out)⟩
                · replace c67 := Bool.eq_false_iff.mpr c67
                  subst c67
                  have H1 : (if (wrap64 (t188)) = (wrap64 (64 + (wrap64 (8 * (wrap64 (Int.tmod a1 5)))))) then (some (t189 == 0)) else (some false)) = some r := by rw [if_neg (show ¬ (false = true) by decide)] at H; exact H
                  clear H
                  have H := H1
                  clear H1
                  by_cases c73 : (wrap64 (t188)) = (wrap64 (64 + (wrap64 (8 * (wrap64 (Int.tmod a1 5))))))
                  · rw [if_pos c73] at H
                    have c73b0 : ((wrap64 (t188)) == (wrap64 (64 + (wrap64 (8 * (wrap64 (Int.tmod a1 5))))))) = true := beq_iff_eq.mpr c73
                    have c73b1 : ((wrap64 (t188)) != (wrap64 (64 + (wrap64 (8 * (wrap64 (Int.tmod a1 5))))))) = false := bne_eq_false_iff_eq.mpr c73
                    clear c73
                    obtain rfl := Option.some.inj H
                    go_wp2
                    repeat (go_quiet (fail); try go_wp2)
                    go_ret
                    exact ⟨by first | rfl | (simp [errW_none, errW_some] <;> rfl) | (simp [*, errW_none, errW_some] <;> rfl), by repeat (first | (with_reducible first | exact HB.out | apply below_alloc | apply pw_below_drewN | apply below_drew1 | refine below_set ?_ GE176.out | refine below_set ?_ GE180.out | refine below_set ?_ GE183.out) | exact HB.out)⟩
                  · rw [if_neg c73] at H
                    have c73b0 : ((wrap64 (t188)) == (wrap64 (64 + (wrap64 (8 * (wrap64 (Int.tmod a1 5))))))) = false := beq_eq_false_iff_ne.mpr c73
                    have c73b1 : ((wrap64 (t188)) != (wrap64 (64 + (wrap64 (8 * (wrap64 (Int.tmod a1 5))))))) = true := bne_iff_ne.mpr c73
                    obtain rfl := Option.some.inj H
                    go_wp2
                    repeat (go_quiet (fail); try go_wp2)
                    go_ret
                    exact ⟨by first | rfl | (simp [errW_none, errW_some] <;> rfl) | (simp [*, errW_none, errW_some] <;> rfl), by repeat (first | (with_reducible first | exact HB.out | apply below_alloc | apply pw_below_drewN | apply below_drew1 | refine below_set ?_ GE176.out | refine below_set ?_ GE180.out | refine below_set ?_ GE183.out) | exact HB.out)⟩
              · replace c66 := Bool.eq_false_iff.mpr c66
                subst c66
                have H1 : (some false) = some r := by rw [if_neg (show ¬ (false = true) by decide)] at H; exact H
                clear H
                have H := H1
                clear H1
                obtain rfl := Option.some.inj H
                go_wp2
                repeat (go_quiet (fail); try go_wp2)
                go_ret
                exact ⟨by first | rfl | (simp [errW_none, errW_some] <;> rfl) | (simp [*, errW_none, errW_some] <;> rfl), by repeat (first | (with_reducible first | exact HB.out | apply below_alloc | apply pw_below_drewN | apply below_drew1 | refine below_set ?_ GE176.out | refine below_set ?_ GE180.out | refine below_set ?_ GE183.out) | exact HB.out)⟩


end Go.Proofs.Ytbakfomkgahffaa.P
