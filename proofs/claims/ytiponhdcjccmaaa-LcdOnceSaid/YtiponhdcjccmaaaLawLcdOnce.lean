/- The given statement of whirligig/whirligiglaw15.LcdOnce is proved: for every input the law returns true and leaves its arguments as they were. No condition. -/
import Derived.Test.YtiponhdcjccmaaaRows
import Derived.Test.YtiponhdcjccmaaaOnce
import Derived.Test.YtiponhdcjccmaaaAggs
import Derived.WalkKit
import Derived.ProofKit
import Derived.OpenShut
import Derived.ShutString
import Derived.ChangeOld
import Derived.Below
namespace Go.Proofs.Ytiponhdcjccmaaa.lcdOnce
open Go.ChangeShapes Go.WideShapes Go.ChangeAt Go.RowKit
set_option linter.unusedVariables false
theorem own : ownKnob Try.prog.godebug = none := by kernel_rfl
theorem laidOut : laidOutB Try.prog = true := by kernel_rfl
set_option maxRecDepth 100000 in
theorem lifted (os : Os) (started : os.Started) (H : Type) (enc : TypeId × Value → H) :
    ReturnsInHanded {} Try.checked os 6 .any (Rows.lcdOnceSpec.pre6 enc Try.prog Try.f6 Rows.lcdOnceRow.domain false) (Rows.lcdOnceSpec.post enc Try.prog Try.f6 false true false false) := by
  refine returnsInHanded_of_change (C := Try.checked) own started (by kernel_rfl) Try.func6
    (ChangeSpec.witness6 (enc := enc) (C := Try.checked) false ⟨#[], #[.agg #[.bool false, .int .u8 0, .int .u16 0, .int .u8 0, .int .u8 0, .bool false, .int .u16 0], .int .u16 0, .int .u16 0], []⟩ 8 (by kernel_rfl) (by kernel_rfl) (by kernel_rfl) (by kernel_rfl)) ?_
  intro W base args ds gs before hval0 hW hcnd _
  have hval : ∀ (j : Nat) t v, Try.f6.params[j]? = some t → args[j]? = some v → Value.okWide Try.prog W .any base t v := hval0
  have hW' := hW
  obtain ⟨p, q, hA0, hV, rfl, hfz, hnd⟩ := hW
  have hA : DataW.TrodAll enc Try.prog W 0 (fun _ => true) true Try.f6.params.toList args.toList ds p := hA0
  rw [Try.params6] at hA hval
  obtain ⟨v0, vs0, d0, ds0, p0, q0, hargs, rfl, rfl, h0, r0⟩ := trodAll_cons hA
  obtain ⟨v1, vs1, d1, ds1, p1, q1, rfl, rfl, rfl, h1, r1⟩ := trodAll_cons r0
  obtain ⟨v2, vs2, d2, ds2, p2, q2, rfl, rfl, rfl, h2, r2⟩ := trodAll_cons r1
  obtain ⟨rfl, rfl, rfl⟩ := trodAll_nil r2
  obtain rfl : args = #[v0, v1, v2] := by cases args; simp_all
  obtain ⟨rfl, rfl⟩ := trodVars_none hV
  have k0 := h0
  have lt0 : ∀ x ∈ p0, x.block < W.heap.size := by obtain ⟨m, hm⟩ := k0; exact DataW.trod_lt m _ _ _ hm
  obtain ⟨c0_0, c0_1, c0_2, c0_3, c0_4, c0_5, c0_6, y0_0, y0_1, y0_2, y0_3, y0_4, y0_5, y0_6, n0, rfl, hd0, hp0, hy0_0, hy0_1, hy0_2, hy0_3, hy0_4, hy0_5, hy0_6⟩ := Aggs.open_agg7 Try.underlying24 (by kernel_rfl) (by kernel_rfl) (hval 0 24 v0 rfl rfl) h0
  obtain ⟨a0_0, e0_0, _⟩ := DataW.trod_bool Try.underlying4 hy0_0
  obtain rfl : c0_0 = .bool a0_0 := by simpa using e0_0
  obtain ⟨a0_1, e0_1, _, w0_1⟩ := DataW.trod_int Try.underlying5 hy0_1
  obtain rfl : c0_1 = .int .u8 a0_1 := by simpa using e0_1
  obtain ⟨a0_2, e0_2, _, w0_2⟩ := DataW.trod_int Try.underlying22 hy0_2
  obtain rfl : c0_2 = .int .u16 a0_2 := by simpa using e0_2
  obtain ⟨a0_3, e0_3, _, w0_3⟩ := DataW.trod_int Try.underlying5 hy0_3
  obtain rfl : c0_3 = .int .u8 a0_3 := by simpa using e0_3
  obtain ⟨a0_4, e0_4, _, w0_4⟩ := DataW.trod_int Try.underlying5 hy0_4
  obtain rfl : c0_4 = .int .u8 a0_4 := by simpa using e0_4
  obtain ⟨a0_5, e0_5, _⟩ := DataW.trod_bool Try.underlying4 hy0_5
  obtain rfl : c0_5 = .bool a0_5 := by simpa using e0_5
  obtain ⟨a0_6, e0_6, _, w0_6⟩ := DataW.trod_int Try.underlying22 hy0_6
  obtain rfl : c0_6 = .int .u16 a0_6 := by simpa using e0_6
  have k1 := h1
  have lt1 : ∀ x ∈ p1, x.block < W.heap.size := by obtain ⟨m, hm⟩ := k1; exact DataW.trod_lt m _ _ _ hm
  obtain ⟨a1, rfl, hd1, hp1, w1⟩ := open_int Try.underlying22 (hval 1 22 v1 rfl rfl) h1
  have k2 := h2
  have lt2 : ∀ x ∈ p2, x.block < W.heap.size := by obtain ⟨m, hm⟩ := k2; exact DataW.trod_lt m _ _ _ hm
  obtain ⟨a2, rfl, hd2, hp2, w2⟩ := open_int Try.underlying22 (hval 2 22 v2 rfl rfl) h2
  clear hA0 hval0
  refine (P.lcdOnce_calls a0_0 a0_1 a0_2 a0_3 a0_4 a0_5 a0_6 a1 a2 W w0_1 w0_2 w0_4 w1 w2).mono fun e W' hpost => ?_
  obtain ⟨he, bel⟩ := hpost
  subst he
  exact ⟨_, rfl, _, _, _, [], _, [], hW', trodAll_mk1 (shut_bool Try.underlying4 _), (trodAll_cons_mk (Below.trod laidOut (by kernel_rfl) (of_decide_eq_true (by kernel_rfl)) k0 bel lt0) (trodAll_cons_mk (Below.trod laidOut (by kernel_rfl) (of_decide_eq_true (by kernel_rfl)) k1 bel lt1) (trodAll_cons_mk (Below.trod laidOut (by kernel_rfl) (of_decide_eq_true (by kernel_rfl)) k2 bel lt2) trodAll_mk0))), rfl, bel.frame _, fun h => by cases h⟩
theorem over : Rows.lcdOnceRow.holds Try.pinned (OpenSpec.ofChange Rows.lcdOnceSpec) :=
  OpenClaim.holds_of_wide 6 Try.f6 rfl rfl rfl rfl rfl rfl rfl ⟨rfl, rfl, rfl, rfl, rfl⟩ rfl rfl rfl rfl rfl (by kernel_rfl) Try.func6 (by kernel_rfl)
    (of_decide_eq_true (by kernel_rfl)) (by unfold Func.isWrapper; first | (rw [if_pos (by decide +kernel)]; kernel_rfl) | (rw [if_neg (by decide +kernel)]; exact ⟨rfl, rfl⟩))
    (fun os started H enc _ => lifted os started H enc)
theorem proved : Rows.LcdOnceSaid := over
#print axioms proved
end Go.Proofs.Ytiponhdcjccmaaa.lcdOnce
namespace Go.Proofs.Ytiponhdcjccmaaa
theorem lcdOnce_holds : Rows.LcdOnceSaid := lcdOnce.proved
end Go.Proofs.Ytiponhdcjccmaaa
