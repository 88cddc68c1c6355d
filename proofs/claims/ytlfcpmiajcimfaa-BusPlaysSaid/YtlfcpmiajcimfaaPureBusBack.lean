/- BusBack, the plain part: what two puts leave is what the law asks for; and the call joined. No condition. -/
import Derived.Test.YtlfcpmiajcimfaaBack
import Derived.Test.YtlfcpmiajcimfaaM4Laws
namespace Go.Proofs.Ytlfcpmiajcimfaa.P
open Go.RowKit
set_option maxHeartbeats 2000000
set_option maxRecDepth 100000
set_option linter.unusedVariables false
theorem u8wf {a : Int} (h : (Lit.int .u16 a).wf = true) : ∃ n : Nat, n < 65536 ∧ a = (n : Int) := by
  have hmin : IntKind.u16.min = 0 := rfl
  have hmax : IntKind.u16.max = 65535 := rfl
  simp only [Lit.wf, Bool.and_eq_true, decide_eq_true_eq] at h
  exact ⟨a.toNat, by omega, by omega⟩
theorem wrap16 (n : Int) : IntKind.u16.wrap n = n % 65536 := by simp [IntKind.wrap, IntKind.bits, IntKind.signed]
theorem busBack_calls (a v o u : Int) (W : World) (wa : (Lit.int .u16 a).wf = true) (wv : (Lit.int .u8 v).wf = true) (wo : (Lit.int .u16 o).wf = true) (wu : (Lit.int .u8 u).wf = true) :
    Calls Try.prog 5 #[.int .u16 a, .int .u8 v, .int .u16 o, .int .u8 u] W fun e w' => e = .returned (.bool true) ∧ Below W.heap.size W w' := by
  obtain ⟨a, ha, rfl⟩ := u8wf wa
  obtain ⟨o, ho, rfl⟩ := u8wf wo
  obtain ⟨F, R, hF, hFa, hA, hc⟩ := best_cases a ha
  obtain ⟨G, S, hG, hGo, hB, hd⟩ := best_cases o ho
  have hR : Rows a F R := hc
  have hS : Rows o G S := hd
  have hp : (49152 + (a - F)) % 65536 < 65536 := Nat.mod_lt _ (by decide)
  have hq : (57344 + (a - F)) % 65536 < 65536 := Nat.mod_lt _ (by decide)
  refine back_walk a o ha ho v u F R ((a - F : Nat) : Int) G S ((o - G : Nat) : Int) _ _ _ _ _ W hF hA hG hB _ _ rfl rfl rfl rfl rfl ?_ ?_ ?_ ?_ _ _ hp hq rfl rfl ?_ ?_ ?_
  · intro h
    rw [get_at _ hR, put_at _ _ hR]
    exact at_putAt _ _ _ _ (by unfold keeps; omega)
  · intro h
    rw [get_at _ hR]
    exact at_none _ _ _ (by unfold keeps; omega)
  · intro h
    rw [get_at _ hS, put_at _ _ hR, get_at _ hS]
    exact at_other _ _ _ _ _ _ (by omega)
  · rintro ⟨h1, h2⟩
    rw [get_at _ hS, get_at _ hR]
    have e1 : R = S := by omega
    have e2 : a - F = o - G := by omega
    rw [e1, e2]
  · intro h1 h2
    have e3 : R = 3 := by omega
    have hlt : a - F < 7680 := by omega
    have r1 : Rows ((49152 + (a - F)) % 65536) 49152 3 := by
      refine .inr (.inr (.inr (.inl ⟨?_, ?_, rfl, rfl⟩))) <;> omega
    have r2 : Rows ((57344 + (a - F)) % 65536) 57344 3 := by
      refine .inr (.inr (.inr (.inr (.inl ⟨?_, ?_, rfl, rfl⟩)))) <;> omega
    have k1 : (49152 + (a - F)) % 65536 - 49152 = a - F := by omega
    have k2 : (57344 + (a - F)) % 65536 - 57344 = a - F := by omega
    rw [get_at _ r1, get_at _ r2, put_at _ _ hR, k1, k2, ← e3]
    exact ⟨at_putAt _ _ _ _ (by unfold keeps; omega), at_putAt _ _ _ _ (by unfold keeps; omega)⟩
  · rw [wrap16, wrap16]; omega
  · rw [wrap16, wrap16]; omega
end Go.Proofs.Ytlfcpmiajcimfaa.P
