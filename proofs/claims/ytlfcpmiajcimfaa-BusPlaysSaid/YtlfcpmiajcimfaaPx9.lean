/- Contracts of Go functions of this seat: each Lean function here is what the Go function of its name answers, in every memory; no condition but the equations that each theorem states. Written by a program of this session (wip/given.py); Lean checks it. -/
import Derived.Test.YtlfcpmiajcimfaaPx0
import Derived.Test.YtlfcpmiajcimfaaPx3
import Derived.Test.YtlfcpmiajcimfaaPx4
namespace Go.Proofs.Ytlfcpmiajcimfaa.P
open Go.RowKit Go.Proofs.YtlfcpmiajcimfaaW.PrintWords Go.Proofs.YtlfcpmiajcimfaaW.PrintLast Go.Proofs.YtlfcpmiajcimfaaW.PrintMore
attribute [local go_sem] max2_int min2_int max_two min_two max_three min_three max_four min_four   -- for this text's walks alone
set_option linter.unusedVariables false
set_option linter.unusedSimpArgs false

/-! ### whirligiglaw20_shown: function 10 -/
-- IMPORT Derived.Test.YtlfcpmiajcimfaaM4
def whirligiglaw20_shown.f : Option Bool := some true
set_option maxHeartbeats 4000000 in
set_option maxRecDepth 100000 in
theorem shown_walk (w : World) : Calls Try.prog 10 #[] w fun e w' => e = .returned (.bool true) ∧ Below w.heap.size w w' := by
  go_enter Try.func10, Try.ntmps10
  go_wp2_with fail
  refine (region_walk 57349 57344 3 5 _ (by decide +kernel) (by decide +kernel)).mono ?_
  rintro e w1 ⟨rfl, b1⟩
  have B1 := Aside0.mk b1
  clear b1
  go_wp2_with fail
  refine (region_walk 65408 65408 7 0 _ (by decide +kernel) (by decide +kernel)).mono ?_
  rintro e w2 ⟨rfl, b2⟩
  have B2 := Aside0.mk (below_step B1.out b2)
  clear b2 B1
  go_wp2_with fail
  refine (new_calls _).mono ?_
  rintro e w3 ⟨bm, bv, bw, rfl, g1, g2, g3, M, b3⟩
  have hs2 := B2.out.size
  have l1 : w.heap.size ≤ bm := by omega
  have l2 : w.heap.size ≤ bv := by omega
  have l3 : w.heap.size ≤ bw := by omega
  have B3 := Aside0.mk (below_step B2.out b3)
  clear b3 B2 hs2 g1 g2 g3
  have M3 := Aside0.mk M
  clear M
  go_wp2_with fail
  refine (put_mem M3.out 49152 (by omega) 7 w.heap.size w B3.out l1 l2 l3 (Nat.le_refl _)).mono ?_
  rintro e w4 ⟨rfl, M, b4⟩
  have B4 := Aside0.mk b4
  have M4 := Aside0.mk M
  clear B3 b4 M M3
  go_wp2_with fail
  refine (bus_Line.calls 36864 1 _ (by decide +kernel)).mono ?_
  rintro e w5 ⟨rfl, b5⟩
  have B5 := Aside0.mk (below_step B4.out b5)
  have M5 := Aside0.mk (M4.out.below b5)
  clear b5 B4 M4
  go_wp2_with fail
  refine (bus_Line.calls 65024 2 _ (by decide +kernel)).mono ?_
  rintro e w6 ⟨rfl, b6⟩
  have B6 := Aside0.mk (below_step B5.out b6)
  have M6 := Aside0.mk (M5.out.below b6)
  clear b6 B5 M5
  go_wp2_with fail
  have hg := get_mem M6.out 57344 (by omega)
  rw [show (P.M4.put P.M4.zero 49152 7).get 57344 = 7 from rfl] at hg
  refine hg.mono ?_
  clear hg
  rintro e w7 ⟨rfl, b7⟩
  have B7 := Aside0.mk (below_step B6.out b7)
  clear b7 B6 M6
  go_wp2_with fail
  refine (bus_Meets.calls 49152 16384 true true _ (by decide +kernel)).mono ?_
  rintro e w8 ⟨rfl, b8⟩
  have B8 := Aside0.mk (below_step B7.out b8)
  clear b8 B7
  go_wp2_with fail
  go_ret
  exact ⟨rfl, B8.out⟩
theorem whirligiglaw20_shown.calls (r : Bool) (w : World) (h : whirligiglaw20_shown.f = some r) : Calls Try.prog 10 #[] w fun e w' => e = .returned (.bool r) ∧ Below w.heap.size w w' := by
  obtain rfl := Option.some.inj h
  exact shown_walk w

end Go.Proofs.Ytlfcpmiajcimfaa.P
