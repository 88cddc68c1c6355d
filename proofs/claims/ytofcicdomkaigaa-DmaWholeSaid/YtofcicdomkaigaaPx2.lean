/- Contracts of Go functions of this seat: each Lean function here is what the Go function of its name answers, in every memory; no condition but the equations that each theorem states. Written by a program of this session (wip/given.py); Lean checks it. -/
import Derived.Test.YtofcicdomkaigaaPx0
namespace Go.Proofs.Ytofcicdomkaigaa.P
open Go.RowKit Go.Proofs.YtofcicdomkaigaaW.PrintWords Go.Proofs.YtofcicdomkaigaaW.PrintLast Go.Proofs.YtofcicdomkaigaaW.PrintMore
attribute [local go_sem] max2_int min2_int max_two min_two max_three min_three max_four min_four   -- for this text's walks alone
set_option linter.unusedVariables false
set_option linter.unusedSimpArgs false

/-! ### dma_Source: function 9 -/
def dma_Source.f (a0 : Int) (a1 : Int) : Option (Int) := if (Go.bits .or .u16 (IntKind.u16.wrap ((IntKind.u16.wrap (a0)) * 256)) (IntKind.u16.wrap (a1))) ≥ 57344 then (some (IntKind.u16.wrap ((Go.bits .or .u16 (IntKind.u16.wrap ((IntKind.u16.wrap (a0)) * 256)) (IntKind.u16.wrap (a1))) - 8192))) else (some (Go.bits .or .u16 (IntKind.u16.wrap ((IntKind.u16.wrap (a0)) * 256)) (IntKind.u16.wrap (a1))))
set_option maxHeartbeats 8000000 in
set_option maxRecDepth 100000 in
theorem dma_Source.calls (a0 : Int) (a1 : Int) (r : Int) (w : World) (h : dma_Source.f a0 a1 = some r) :
    Calls Try.prog 9 #[.int .u8 a0, .int .u8 a1] w fun e w' => e = .returned (.int .u16 r) ∧ Drawn0 w w' := by
  have H : (if (Go.bits .or .u16 (IntKind.u16.wrap ((IntKind.u16.wrap (a0)) * 256)) (IntKind.u16.wrap (a1))) ≥ 57344 then (some (IntKind.u16.wrap ((Go.bits .or .u16 (IntKind.u16.wrap ((IntKind.u16.wrap (a0)) * 256)) (IntKind.u16.wrap (a1))) - 8192))) else (some (Go.bits .or .u16 (IntKind.u16.wrap ((IntKind.u16.wrap (a0)) * 256)) (IntKind.u16.wrap (a1))))) = some r := h
  clear h
  by_cases c3 : (Go.bits .or .u16 (IntKind.u16.wrap ((IntKind.u16.wrap (a0)) * 256)) (IntKind.u16.wrap (a1))) ≥ 57344
  · rw [if_pos c3] at H
    have c3b0 : decide (57344 ≤ (Go.bits .or .u16 (IntKind.u16.wrap ((IntKind.u16.wrap (a0)) * 256)) (IntKind.u16.wrap (a1)))) = true := decide_eq_true c3
    clear c3
    obtain rfl := Option.some.inj H
    go_enter Try.func9, Try.ntmps9
    go_wp2
    go_ret
    exact ⟨by first | rfl | (simp; done) | (simp [*]; done), by repeat (first | exact Drawn0.refl _ | apply Drawn0.step)⟩
  · rw [if_neg c3] at H
    have c3b0 : decide (57344 ≤ (Go.bits .or .u16 (IntKind.u16.wrap ((IntKind.u16.wrap (a0)) * 256)) (IntKind.u16.wrap (a1)))) = false := decide_eq_false c3
    clear c3
    obtain rfl := Option.some.inj H
    go_enter Try.func9, Try.ntmps9
    go_wp2
    go_ret
    exact ⟨by first | rfl | (simp; done) | (simp [*]; done), by repeat (first | exact Drawn0.refl _ | apply Drawn0.step)⟩

/-! ### dma_Step: function 11 -/
theorem at_world {P : Program} {c : Code} {Q : Exit → Act → World → Prop} {a : Act} (W : World) (F : World → Prop) (hf : F W) (h : ∀ W', F W' → c.wp P Q a W') : c.wp P Q a W := h W hf
theorem at_end {P : Program} {fn : Func} {R : Ending → World → Prop} {x : Exit} {a : Act} (W : World) (F : World → Prop) (hf : F W) (h : ∀ W', F W' → bodyPost P fn R x a W') : bodyPost P fn R x a W := h W hf
theorem via {w : World} {g : Nat} {t : TypeId} {cs cs' : Array Value} (h : w.heap[g]? = some (.cells cs t (0, 0))) (e : cs = cs') : w.heap[g]? = some (.cells cs' t (0, 0)) := e ▸ h
theorem blk_new_at (w : World) (o : Obj) (g : Nat) (hg : w.heap.size = g) : (w.alloc o).heap[g]? = some o := hg ▸ blk_new w o
def src0 (p a : Int) : Int := Go.bits .or .u16 (IntKind.u16.wrap ((IntKind.u16.wrap p) * 256)) (IntKind.u16.wrap a)
def src1 (p a : Int) : Int := if 57344 ≤ src0 p a then IntKind.u16.wrap (src0 p a - 8192) else src0 p a
set_option maxHeartbeats 400000 in
theorem source_any (p a : Int) (w : World) : Calls Try.prog 9 #[.int .u8 p, .int .u8 a] w fun e w' => e = .returned (.int .u16 (src1 p a)) ∧ w = w' := by
  unfold src1 src0
  by_cases c : 57344 ≤ Go.bits .or .u16 (IntKind.u16.wrap ((IntKind.u16.wrap p) * 256)) (IntKind.u16.wrap a)
  · rw [if_pos c]
    go_enter Try.func9, Try.ntmps9
    go_wp2
    go_ret
    exact ⟨rfl, rfl⟩
  · rw [if_neg c]
    go_enter Try.func9, Try.ntmps9
    go_wp2
    go_ret
    exact ⟨rfl, rfl⟩
theorem results_cttt {fn : Func} {P : Program} {p u v x : Tmp} {ty : TypeId} (h : fn.results = #[.cell p ty, .tmp u, .tmp v, .tmp x]) (tmps : Array Value) (w : World) (g : Nat) (t : TypeId) (cs : Array Value) (fr : Nat × Nat) (d : TypeDesc)
    (hp : tmps.getD p undef = .pointer (some ⟨g, 0, none⟩)) (hg : w.heap[g]? = some (.cells cs t fr))
    (hu : P.underlying ty = some d) (hd : (match d with | .struct _ | .array _ _ => true | _ => false) = true) (hi : (P.info? ty).map (·.size) = some cs.size) :
    (results fn tmps).run P w = .ok (.tuple #[.agg cs, tmps.getD u undef, tmps.getD v undef, tmps.getD x undef]) w := by
  have hp' : tmps[p]?.getD undef = .pointer (some ⟨g, 0, none⟩) := by simpa using hp
  simp [results, h, hp', asAddr, run_loadVar_row w g t ty cs fr d hg hu hd hi]
set_option maxHeartbeats 8000000 in
set_option maxRecDepth 100000 in
theorem dma_Step.pn0 (a0_1 a0_2 a0_3 a0_4 : Int) (w : World) (c2 : (a0_3 != 0) = false) :
    Calls Try.prog 11 #[.agg #[.bool false, .int .u8 a0_1, .int .u8 a0_2, .int .u8 a0_3, .int .u8 a0_4]] w fun e w' => e = .returned (.tuple #[.agg #[.bool false, .int .u8 a0_1, .int .u8 a0_2, .int .u8 a0_3, .int .u8 a0_4], .int .u16 0, .int .u8 0, .bool false]) ∧ Below w.heap.size w w' := by
  have hmf : ∀ (fn : Fn) (first cap : Array Value) (w : World), (Instr.makeFunc fn first cap).run Try.prog w = .ok (.func fn first cap) w := fun _ _ _ _ => rfl
  go_enter Try.func11, Try.ntmps11
  go_wp2
  go_region
  all_goals go_wp2
  refine at_end _ (fun W2 => W2.heap[w.heap.size + 1]? = some (.cells #[.bool false, .int .u8 a0_1, .int .u8 a0_2, .int .u8 a0_3, .int .u8 a0_4] 27 (0, 0)) ∧ Below w.heap.size w W2) ?hf2 ?hg2
  case hf2 =>
    refine ⟨?_, ?_⟩
    · (apply via; (focus (repeat first | (with_reducible assumption) | (with_reducible apply blk_drew) | (with_reducible apply blk_drewN) | (focus ((with_reducible apply blk_new_at); first | rfl | (simp; done))) | (with_reducible apply blk_alloc) | (focus ((with_reducible apply blk_far); rotate_left; first | omega | (dsimp only; omega))) | (with_reducible apply blk_set))); all_goals rfl)
    · (repeat first | (with_reducible assumption) | (with_reducible exact Below.refl _ _) | (with_reducible refine Below.drew ?_) | ((with_reducible refine Below.alloc ?_ ?_ _); rotate_left; first | omega | (focus (simp; done)) | (focus (simp; omega))) | ((with_reducible refine Below.setCell ?_ ?_ _); rotate_left; first | omega | (dsimp only; omega)))
  case hg2 =>
    rintro W2 ⟨r1, hB2⟩
    refine bodyPost_ret (results_cttt rfl _ _ (w.heap.size + 1) 27 _ (0, 0) _ rfl r1 Try.underlying27 rfl (by kernel_rfl)) rfl ?_
    exact ⟨rfl, hB2⟩
set_option maxHeartbeats 8000000 in
set_option maxRecDepth 100000 in
theorem dma_Step.pn1 (a0_1 a0_2 a0_3 a0_4 : Int) (w : World) (c2 : (a0_3 != 0) = true) (c3 : ((a0_3 - 1) % 256 == 0) = true) :
    Calls Try.prog 11 #[.agg #[.bool false, .int .u8 a0_1, .int .u8 a0_2, .int .u8 a0_3, .int .u8 a0_4]] w fun e w' => e = .returned (.tuple #[.agg #[.bool true, .int .u8 a0_4, .int .u8 0, .int .u8 ((a0_3 - 1) % 256), .int .u8 a0_4], .int .u16 0, .int .u8 0, .bool false]) ∧ Below w.heap.size w w' := by
  have hmf : ∀ (fn : Fn) (first cap : Array Value) (w : World), (Instr.makeFunc fn first cap).run Try.prog w = .ok (.func fn first cap) w := fun _ _ _ _ => rfl
  go_enter Try.func11, Try.ntmps11
  go_wp2_with (first | (go_at_call 9; refine (source_any _ _ _).mono ?_; rintro e w' ⟨rfl, rfl⟩) | (go_at_call 17; go_in) | (go_at_call 18; go_in))
  first | go_end0 | refine bodyPost_ret (results_none rfl _ _ _) rfl ?_
  go_wp2
  go_region
  all_goals go_wp2
  refine at_end _ (fun W2 => W2.heap[w.heap.size + 1]? = some (.cells #[.bool true, .int .u8 a0_4, .int .u8 0, .int .u8 ((a0_3 - 1) % 256), .int .u8 a0_4] 27 (0, 0)) ∧ Below w.heap.size w W2) ?hf2 ?hg2
  case hf2 =>
    refine ⟨?_, ?_⟩
    · (apply via; (focus (repeat first | (with_reducible assumption) | (with_reducible apply blk_drew) | (with_reducible apply blk_drewN) | (focus ((with_reducible apply blk_new_at); first | rfl | (simp; done))) | (with_reducible apply blk_alloc) | (focus ((with_reducible apply blk_far); rotate_left; first | omega | (dsimp only; omega))) | (with_reducible apply blk_set))); all_goals rfl)
    · (repeat first | (with_reducible assumption) | (with_reducible exact Below.refl _ _) | (with_reducible refine Below.drew ?_) | ((with_reducible refine Below.alloc ?_ ?_ _); rotate_left; first | omega | (focus (simp; done)) | (focus (simp; omega))) | ((with_reducible refine Below.setCell ?_ ?_ _); rotate_left; first | omega | (dsimp only; omega)))
  case hg2 =>
    rintro W2 ⟨r1, hB2⟩
    refine bodyPost_ret (results_cttt rfl _ _ (w.heap.size + 1) 27 _ (0, 0) _ rfl r1 Try.underlying27 rfl (by kernel_rfl)) rfl ?_
    exact ⟨rfl, hB2⟩
set_option maxHeartbeats 8000000 in
set_option maxRecDepth 100000 in
theorem dma_Step.pn2 (a0_1 a0_2 a0_3 a0_4 : Int) (w : World) (c2 : (a0_3 != 0) = true) (c3 : ((a0_3 - 1) % 256 == 0) = false) :
    Calls Try.prog 11 #[.agg #[.bool false, .int .u8 a0_1, .int .u8 a0_2, .int .u8 a0_3, .int .u8 a0_4]] w fun e w' => e = .returned (.tuple #[.agg #[.bool false, .int .u8 a0_1, .int .u8 a0_2, .int .u8 ((a0_3 - 1) % 256), .int .u8 a0_4], .int .u16 0, .int .u8 0, .bool false]) ∧ Below w.heap.size w w' := by
  have hmf : ∀ (fn : Fn) (first cap : Array Value) (w : World), (Instr.makeFunc fn first cap).run Try.prog w = .ok (.func fn first cap) w := fun _ _ _ _ => rfl
  go_enter Try.func11, Try.ntmps11
  go_wp2_with (first | (go_at_call 9; refine (source_any _ _ _).mono ?_; rintro e w' ⟨rfl, rfl⟩) | (go_at_call 17; go_in) | (go_at_call 18; go_in))
  first | go_end0 | refine bodyPost_ret (results_none rfl _ _ _) rfl ?_
  go_wp2
  go_region
  all_goals go_wp2
  refine at_end _ (fun W2 => W2.heap[w.heap.size + 1]? = some (.cells #[.bool false, .int .u8 a0_1, .int .u8 a0_2, .int .u8 ((a0_3 - 1) % 256), .int .u8 a0_4] 27 (0, 0)) ∧ Below w.heap.size w W2) ?hf2 ?hg2
  case hf2 =>
    refine ⟨?_, ?_⟩
    · (apply via; (focus (repeat first | (with_reducible assumption) | (with_reducible apply blk_drew) | (with_reducible apply blk_drewN) | (focus ((with_reducible apply blk_new_at); first | rfl | (simp; done))) | (with_reducible apply blk_alloc) | (focus ((with_reducible apply blk_far); rotate_left; first | omega | (dsimp only; omega))) | (with_reducible apply blk_set))); all_goals rfl)
    · (repeat first | (with_reducible assumption) | (with_reducible exact Below.refl _ _) | (with_reducible refine Below.drew ?_) | ((with_reducible refine Below.alloc ?_ ?_ _); rotate_left; first | omega | (focus (simp; done)) | (focus (simp; omega))) | ((with_reducible refine Below.setCell ?_ ?_ _); rotate_left; first | omega | (dsimp only; omega)))
  case hg2 =>
    rintro W2 ⟨r1, hB2⟩
    refine bodyPost_ret (results_cttt rfl _ _ (w.heap.size + 1) 27 _ (0, 0) _ rfl r1 Try.underlying27 rfl (by kernel_rfl)) rfl ?_
    exact ⟨rfl, hB2⟩
set_option maxHeartbeats 8000000 in
set_option maxRecDepth 100000 in
theorem dma_Step.pa0 (a0_1 a0_2 a0_3 a0_4 : Int) (w : World) (c1 : a0_2 < 159) (c4 : (a0_2 == 159) = false) (c2 : (a0_3 != 0) = false) :
    Calls Try.prog 11 #[.agg #[.bool true, .int .u8 a0_1, .int .u8 a0_2, .int .u8 a0_3, .int .u8 a0_4]] w fun e w' => e = .returned (.tuple #[.agg #[.bool true, .int .u8 a0_1, .int .u8 ((a0_2 + 1) % 256), .int .u8 a0_3, .int .u8 a0_4], .int .u16 (src1 a0_1 a0_2), .int .u8 a0_2, .bool true]) ∧ Below w.heap.size w w' := by
  have hmf : ∀ (fn : Fn) (first cap : Array Value) (w : World), (Instr.makeFunc fn first cap).run Try.prog w = .ok (.func fn first cap) w := fun _ _ _ _ => rfl
  go_enter Try.func11, Try.ntmps11
  go_wp2_with (first | (go_at_call 9; refine (source_any _ _ _).mono ?_; rintro e w' ⟨rfl, rfl⟩) | (go_at_call 17; go_in) | (go_at_call 18; go_in))
  first | go_end0 | refine bodyPost_ret (results_none rfl _ _ _) rfl ?_
  go_wp2
  go_region
  all_goals go_wp2
  refine at_end _ (fun W2 => W2.heap[w.heap.size + 1]? = some (.cells #[.bool true, .int .u8 a0_1, .int .u8 ((a0_2 + 1) % 256), .int .u8 a0_3, .int .u8 a0_4] 27 (0, 0)) ∧ Below w.heap.size w W2) ?hf2 ?hg2
  case hf2 =>
    refine ⟨?_, ?_⟩
    · (apply via; (focus (repeat first | (with_reducible assumption) | (with_reducible apply blk_drew) | (with_reducible apply blk_drewN) | (focus ((with_reducible apply blk_new_at); first | rfl | (simp; done))) | (with_reducible apply blk_alloc) | (focus ((with_reducible apply blk_far); rotate_left; first | omega | (dsimp only; omega))) | (with_reducible apply blk_set))); all_goals rfl)
    · (repeat first | (with_reducible assumption) | (with_reducible exact Below.refl _ _) | (with_reducible refine Below.drew ?_) | ((with_reducible refine Below.alloc ?_ ?_ _); rotate_left; first | omega | (focus (simp; done)) | (focus (simp; omega))) | ((with_reducible refine Below.setCell ?_ ?_ _); rotate_left; first | omega | (dsimp only; omega)))
  case hg2 =>
    rintro W2 ⟨r1, hB2⟩
    refine bodyPost_ret (results_cttt rfl _ _ (w.heap.size + 1) 27 _ (0, 0) _ rfl r1 Try.underlying27 rfl (by kernel_rfl)) rfl ?_
    exact ⟨rfl, hB2⟩
set_option maxHeartbeats 8000000 in
set_option maxRecDepth 100000 in
theorem dma_Step.pa1 (a0_1 a0_2 a0_3 a0_4 : Int) (w : World) (c1 : a0_2 < 159) (c4 : (a0_2 == 159) = false) (c2 : (a0_3 != 0) = true) (c3 : ((a0_3 - 1) % 256 == 0) = true) :
    Calls Try.prog 11 #[.agg #[.bool true, .int .u8 a0_1, .int .u8 a0_2, .int .u8 a0_3, .int .u8 a0_4]] w fun e w' => e = .returned (.tuple #[.agg #[.bool true, .int .u8 a0_4, .int .u8 0, .int .u8 ((a0_3 - 1) % 256), .int .u8 a0_4], .int .u16 (src1 a0_1 a0_2), .int .u8 a0_2, .bool true]) ∧ Below w.heap.size w w' := by
  have hmf : ∀ (fn : Fn) (first cap : Array Value) (w : World), (Instr.makeFunc fn first cap).run Try.prog w = .ok (.func fn first cap) w := fun _ _ _ _ => rfl
  go_enter Try.func11, Try.ntmps11
  go_wp2_with (first | (go_at_call 9; refine (source_any _ _ _).mono ?_; rintro e w' ⟨rfl, rfl⟩) | (go_at_call 17; go_in) | (go_at_call 18; go_in))
  first | go_end0 | refine bodyPost_ret (results_none rfl _ _ _) rfl ?_
  go_wp2_with (first | (go_at_call 9; refine (source_any _ _ _).mono ?_; rintro e w' ⟨rfl, rfl⟩) | (go_at_call 17; go_in) | (go_at_call 18; go_in))
  first | go_end0 | refine bodyPost_ret (results_none rfl _ _ _) rfl ?_
  go_wp2
  go_region
  all_goals go_wp2
  refine at_end _ (fun W2 => W2.heap[w.heap.size + 1]? = some (.cells #[.bool true, .int .u8 a0_4, .int .u8 0, .int .u8 ((a0_3 - 1) % 256), .int .u8 a0_4] 27 (0, 0)) ∧ Below w.heap.size w W2) ?hf2 ?hg2
  case hf2 =>
    refine ⟨?_, ?_⟩
    · (apply via; (focus (repeat first | (with_reducible assumption) | (with_reducible apply blk_drew) | (with_reducible apply blk_drewN) | (focus ((with_reducible apply blk_new_at); first | rfl | (simp; done))) | (with_reducible apply blk_alloc) | (focus ((with_reducible apply blk_far); rotate_left; first | omega | (dsimp only; omega))) | (with_reducible apply blk_set))); all_goals rfl)
    · (repeat first | (with_reducible assumption) | (with_reducible exact Below.refl _ _) | (with_reducible refine Below.drew ?_) | ((with_reducible refine Below.alloc ?_ ?_ _); rotate_left; first | omega | (focus (simp; done)) | (focus (simp; omega))) | ((with_reducible refine Below.setCell ?_ ?_ _); rotate_left; first | omega | (dsimp only; omega)))
  case hg2 =>
    rintro W2 ⟨r1, hB2⟩
    refine bodyPost_ret (results_cttt rfl _ _ (w.heap.size + 1) 27 _ (0, 0) _ rfl r1 Try.underlying27 rfl (by kernel_rfl)) rfl ?_
    exact ⟨rfl, hB2⟩
set_option maxHeartbeats 8000000 in
set_option maxRecDepth 100000 in
theorem dma_Step.pa2 (a0_1 a0_2 a0_3 a0_4 : Int) (w : World) (c1 : a0_2 < 159) (c4 : (a0_2 == 159) = false) (c2 : (a0_3 != 0) = true) (c3 : ((a0_3 - 1) % 256 == 0) = false) :
    Calls Try.prog 11 #[.agg #[.bool true, .int .u8 a0_1, .int .u8 a0_2, .int .u8 a0_3, .int .u8 a0_4]] w fun e w' => e = .returned (.tuple #[.agg #[.bool true, .int .u8 a0_1, .int .u8 ((a0_2 + 1) % 256), .int .u8 ((a0_3 - 1) % 256), .int .u8 a0_4], .int .u16 (src1 a0_1 a0_2), .int .u8 a0_2, .bool true]) ∧ Below w.heap.size w w' := by
  have hmf : ∀ (fn : Fn) (first cap : Array Value) (w : World), (Instr.makeFunc fn first cap).run Try.prog w = .ok (.func fn first cap) w := fun _ _ _ _ => rfl
  go_enter Try.func11, Try.ntmps11
  go_wp2_with (first | (go_at_call 9; refine (source_any _ _ _).mono ?_; rintro e w' ⟨rfl, rfl⟩) | (go_at_call 17; go_in) | (go_at_call 18; go_in))
  first | go_end0 | refine bodyPost_ret (results_none rfl _ _ _) rfl ?_
  go_wp2_with (first | (go_at_call 9; refine (source_any _ _ _).mono ?_; rintro e w' ⟨rfl, rfl⟩) | (go_at_call 17; go_in) | (go_at_call 18; go_in))
  first | go_end0 | refine bodyPost_ret (results_none rfl _ _ _) rfl ?_
  go_wp2
  go_region
  all_goals go_wp2
  refine at_end _ (fun W2 => W2.heap[w.heap.size + 1]? = some (.cells #[.bool true, .int .u8 a0_1, .int .u8 ((a0_2 + 1) % 256), .int .u8 ((a0_3 - 1) % 256), .int .u8 a0_4] 27 (0, 0)) ∧ Below w.heap.size w W2) ?hf2 ?hg2
  case hf2 =>
    refine ⟨?_, ?_⟩
    · (apply via; (focus (repeat first | (with_reducible assumption) | (with_reducible apply blk_drew) | (with_reducible apply blk_drewN) | (focus ((with_reducible apply blk_new_at); first | rfl | (simp; done))) | (with_reducible apply blk_alloc) | (focus ((with_reducible apply blk_far); rotate_left; first | omega | (dsimp only; omega))) | (with_reducible apply blk_set))); all_goals rfl)
    · (repeat first | (with_reducible assumption) | (with_reducible exact Below.refl _ _) | (with_reducible refine Below.drew ?_) | ((with_reducible refine Below.alloc ?_ ?_ _); rotate_left; first | omega | (focus (simp; done)) | (focus (simp; omega))) | ((with_reducible refine Below.setCell ?_ ?_ _); rotate_left; first | omega | (dsimp only; omega)))
  case hg2 =>
    rintro W2 ⟨r1, hB2⟩
    refine bodyPost_ret (results_cttt rfl _ _ (w.heap.size + 1) 27 _ (0, 0) _ rfl r1 Try.underlying27 rfl (by kernel_rfl)) rfl ?_
    exact ⟨rfl, hB2⟩
set_option maxHeartbeats 8000000 in
set_option maxRecDepth 100000 in
theorem dma_Step.pb0 (a0_1 a0_2 a0_3 a0_4 : Int) (w : World) (c1 : 159 < a0_2) (c2 : (a0_3 != 0) = false) :
    Calls Try.prog 11 #[.agg #[.bool true, .int .u8 a0_1, .int .u8 a0_2, .int .u8 a0_3, .int .u8 a0_4]] w fun e w' => e = .returned (.tuple #[.agg #[.bool false, .int .u8 a0_1, .int .u8 0, .int .u8 a0_3, .int .u8 a0_4], .int .u16 (src1 a0_1 159), .int .u8 159, .bool true]) ∧ Below w.heap.size w w' := by
  have hmf : ∀ (fn : Fn) (first cap : Array Value) (w : World), (Instr.makeFunc fn first cap).run Try.prog w = .ok (.func fn first cap) w := fun _ _ _ _ => rfl
  go_enter Try.func11, Try.ntmps11
  go_wp2_with (first | (go_at_call 9; refine (source_any _ _ _).mono ?_; rintro e w' ⟨rfl, rfl⟩) | (go_at_call 17; go_in) | (go_at_call 18; go_in))
  first | go_end0 | refine bodyPost_ret (results_none rfl _ _ _) rfl ?_
  go_wp2
  go_region
  all_goals go_wp2
  refine at_end _ (fun W2 => W2.heap[w.heap.size + 1]? = some (.cells #[.bool false, .int .u8 a0_1, .int .u8 0, .int .u8 a0_3, .int .u8 a0_4] 27 (0, 0)) ∧ Below w.heap.size w W2) ?hf2 ?hg2
  case hf2 =>
    refine ⟨?_, ?_⟩
    · (apply via; (focus (repeat first | (with_reducible assumption) | (with_reducible apply blk_drew) | (with_reducible apply blk_drewN) | (focus ((with_reducible apply blk_new_at); first | rfl | (simp; done))) | (with_reducible apply blk_alloc) | (focus ((with_reducible apply blk_far); rotate_left; first | omega | (dsimp only; omega))) | (with_reducible apply blk_set))); all_goals rfl)
    · (repeat first | (with_reducible assumption) | (with_reducible exact Below.refl _ _) | (with_reducible refine Below.drew ?_) | ((with_reducible refine Below.alloc ?_ ?_ _); rotate_left; first | omega | (focus (simp; done)) | (focus (simp; omega))) | ((with_reducible refine Below.setCell ?_ ?_ _); rotate_left; first | omega | (dsimp only; omega)))
  case hg2 =>
    rintro W2 ⟨r1, hB2⟩
    refine bodyPost_ret (results_cttt rfl _ _ (w.heap.size + 1) 27 _ (0, 0) _ rfl r1 Try.underlying27 rfl (by kernel_rfl)) rfl ?_
    exact ⟨rfl, hB2⟩
set_option maxHeartbeats 8000000 in
set_option maxRecDepth 100000 in
theorem dma_Step.pb1 (a0_1 a0_2 a0_3 a0_4 : Int) (w : World) (c1 : 159 < a0_2) (c2 : (a0_3 != 0) = true) (c3 : ((a0_3 - 1) % 256 == 0) = true) :
    Calls Try.prog 11 #[.agg #[.bool true, .int .u8 a0_1, .int .u8 a0_2, .int .u8 a0_3, .int .u8 a0_4]] w fun e w' => e = .returned (.tuple #[.agg #[.bool true, .int .u8 a0_4, .int .u8 0, .int .u8 ((a0_3 - 1) % 256), .int .u8 a0_4], .int .u16 (src1 a0_1 159), .int .u8 159, .bool true]) ∧ Below w.heap.size w w' := by
  have hmf : ∀ (fn : Fn) (first cap : Array Value) (w : World), (Instr.makeFunc fn first cap).run Try.prog w = .ok (.func fn first cap) w := fun _ _ _ _ => rfl
  go_enter Try.func11, Try.ntmps11
  go_wp2_with (first | (go_at_call 9; refine (source_any _ _ _).mono ?_; rintro e w' ⟨rfl, rfl⟩) | (go_at_call 17; go_in) | (go_at_call 18; go_in))
  first | go_end0 | refine bodyPost_ret (results_none rfl _ _ _) rfl ?_
  go_wp2_with (first | (go_at_call 9; refine (source_any _ _ _).mono ?_; rintro e w' ⟨rfl, rfl⟩) | (go_at_call 17; go_in) | (go_at_call 18; go_in))
  first | go_end0 | refine bodyPost_ret (results_none rfl _ _ _) rfl ?_
  go_wp2
  go_region
  all_goals go_wp2
  refine at_end _ (fun W2 => W2.heap[w.heap.size + 1]? = some (.cells #[.bool true, .int .u8 a0_4, .int .u8 0, .int .u8 ((a0_3 - 1) % 256), .int .u8 a0_4] 27 (0, 0)) ∧ Below w.heap.size w W2) ?hf2 ?hg2
  case hf2 =>
    refine ⟨?_, ?_⟩
    · (apply via; (focus (repeat first | (with_reducible assumption) | (with_reducible apply blk_drew) | (with_reducible apply blk_drewN) | (focus ((with_reducible apply blk_new_at); first | rfl | (simp; done))) | (with_reducible apply blk_alloc) | (focus ((with_reducible apply blk_far); rotate_left; first | omega | (dsimp only; omega))) | (with_reducible apply blk_set))); all_goals rfl)
    · (repeat first | (with_reducible assumption) | (with_reducible exact Below.refl _ _) | (with_reducible refine Below.drew ?_) | ((with_reducible refine Below.alloc ?_ ?_ _); rotate_left; first | omega | (focus (simp; done)) | (focus (simp; omega))) | ((with_reducible refine Below.setCell ?_ ?_ _); rotate_left; first | omega | (dsimp only; omega)))
  case hg2 =>
    rintro W2 ⟨r1, hB2⟩
    refine bodyPost_ret (results_cttt rfl _ _ (w.heap.size + 1) 27 _ (0, 0) _ rfl r1 Try.underlying27 rfl (by kernel_rfl)) rfl ?_
    exact ⟨rfl, hB2⟩
set_option maxHeartbeats 8000000 in
set_option maxRecDepth 100000 in
theorem dma_Step.pb2 (a0_1 a0_2 a0_3 a0_4 : Int) (w : World) (c1 : 159 < a0_2) (c2 : (a0_3 != 0) = true) (c3 : ((a0_3 - 1) % 256 == 0) = false) :
    Calls Try.prog 11 #[.agg #[.bool true, .int .u8 a0_1, .int .u8 a0_2, .int .u8 a0_3, .int .u8 a0_4]] w fun e w' => e = .returned (.tuple #[.agg #[.bool false, .int .u8 a0_1, .int .u8 0, .int .u8 ((a0_3 - 1) % 256), .int .u8 a0_4], .int .u16 (src1 a0_1 159), .int .u8 159, .bool true]) ∧ Below w.heap.size w w' := by
  have hmf : ∀ (fn : Fn) (first cap : Array Value) (w : World), (Instr.makeFunc fn first cap).run Try.prog w = .ok (.func fn first cap) w := fun _ _ _ _ => rfl
  go_enter Try.func11, Try.ntmps11
  go_wp2_with (first | (go_at_call 9; refine (source_any _ _ _).mono ?_; rintro e w' ⟨rfl, rfl⟩) | (go_at_call 17; go_in) | (go_at_call 18; go_in))
  first | go_end0 | refine bodyPost_ret (results_none rfl _ _ _) rfl ?_
  go_wp2_with (first | (go_at_call 9; refine (source_any _ _ _).mono ?_; rintro e w' ⟨rfl, rfl⟩) | (go_at_call 17; go_in) | (go_at_call 18; go_in))
  first | go_end0 | refine bodyPost_ret (results_none rfl _ _ _) rfl ?_
  go_wp2
  go_region
  all_goals go_wp2
  refine at_end _ (fun W2 => W2.heap[w.heap.size + 1]? = some (.cells #[.bool false, .int .u8 a0_1, .int .u8 0, .int .u8 ((a0_3 - 1) % 256), .int .u8 a0_4] 27 (0, 0)) ∧ Below w.heap.size w W2) ?hf2 ?hg2
  case hf2 =>
    refine ⟨?_, ?_⟩
    · (apply via; (focus (repeat first | (with_reducible assumption) | (with_reducible apply blk_drew) | (with_reducible apply blk_drewN) | (focus ((with_reducible apply blk_new_at); first | rfl | (simp; done))) | (with_reducible apply blk_alloc) | (focus ((with_reducible apply blk_far); rotate_left; first | omega | (dsimp only; omega))) | (with_reducible apply blk_set))); all_goals rfl)
    · (repeat first | (with_reducible assumption) | (with_reducible exact Below.refl _ _) | (with_reducible refine Below.drew ?_) | ((with_reducible refine Below.alloc ?_ ?_ _); rotate_left; first | omega | (focus (simp; done)) | (focus (simp; omega))) | ((with_reducible refine Below.setCell ?_ ?_ _); rotate_left; first | omega | (dsimp only; omega)))
  case hg2 =>
    rintro W2 ⟨r1, hB2⟩
    refine bodyPost_ret (results_cttt rfl _ _ (w.heap.size + 1) 27 _ (0, 0) _ rfl r1 Try.underlying27 rfl (by kernel_rfl)) rfl ?_
    exact ⟨rfl, hB2⟩
set_option maxHeartbeats 8000000 in
set_option maxRecDepth 100000 in
theorem dma_Step.pe0 (a0_1 a0_2 a0_3 a0_4 : Int) (w : World) (c1 : a0_2 = 159) (c2 : (a0_3 != 0) = false) :
    Calls Try.prog 11 #[.agg #[.bool true, .int .u8 a0_1, .int .u8 a0_2, .int .u8 a0_3, .int .u8 a0_4]] w fun e w' => e = .returned (.tuple #[.agg #[.bool false, .int .u8 a0_1, .int .u8 0, .int .u8 a0_3, .int .u8 a0_4], .int .u16 (src1 a0_1 159), .int .u8 159, .bool true]) ∧ Below w.heap.size w w' := by
  subst c1
  have hmf : ∀ (fn : Fn) (first cap : Array Value) (w : World), (Instr.makeFunc fn first cap).run Try.prog w = .ok (.func fn first cap) w := fun _ _ _ _ => rfl
  go_enter Try.func11, Try.ntmps11
  go_wp2_with (first | (go_at_call 9; refine (source_any _ _ _).mono ?_; rintro e w' ⟨rfl, rfl⟩) | (go_at_call 17; go_in) | (go_at_call 18; go_in))
  first | go_end0 | refine bodyPost_ret (results_none rfl _ _ _) rfl ?_
  go_wp2
  go_region
  all_goals go_wp2
  refine at_end _ (fun W2 => W2.heap[w.heap.size + 1]? = some (.cells #[.bool false, .int .u8 a0_1, .int .u8 0, .int .u8 a0_3, .int .u8 a0_4] 27 (0, 0)) ∧ Below w.heap.size w W2) ?hf2 ?hg2
  case hf2 =>
    refine ⟨?_, ?_⟩
    · (apply via; (focus (repeat first | (with_reducible assumption) | (with_reducible apply blk_drew) | (with_reducible apply blk_drewN) | (focus ((with_reducible apply blk_new_at); first | rfl | (simp; done))) | (with_reducible apply blk_alloc) | (focus ((with_reducible apply blk_far); rotate_left; first | omega | (dsimp only; omega))) | (with_reducible apply blk_set))); all_goals rfl)
    · (repeat first | (with_reducible assumption) | (with_reducible exact Below.refl _ _) | (with_reducible refine Below.drew ?_) | ((with_reducible refine Below.alloc ?_ ?_ _); rotate_left; first | omega | (focus (simp; done)) | (focus (simp; omega))) | ((with_reducible refine Below.setCell ?_ ?_ _); rotate_left; first | omega | (dsimp only; omega)))
  case hg2 =>
    rintro W2 ⟨r1, hB2⟩
    refine bodyPost_ret (results_cttt rfl _ _ (w.heap.size + 1) 27 _ (0, 0) _ rfl r1 Try.underlying27 rfl (by kernel_rfl)) rfl ?_
    exact ⟨rfl, hB2⟩
set_option maxHeartbeats 8000000 in
set_option maxRecDepth 100000 in
theorem dma_Step.pe1 (a0_1 a0_2 a0_3 a0_4 : Int) (w : World) (c1 : a0_2 = 159) (c2 : (a0_3 != 0) = true) (c3 : ((a0_3 - 1) % 256 == 0) = true) :
    Calls Try.prog 11 #[.agg #[.bool true, .int .u8 a0_1, .int .u8 a0_2, .int .u8 a0_3, .int .u8 a0_4]] w fun e w' => e = .returned (.tuple #[.agg #[.bool true, .int .u8 a0_4, .int .u8 0, .int .u8 ((a0_3 - 1) % 256), .int .u8 a0_4], .int .u16 (src1 a0_1 159), .int .u8 159, .bool true]) ∧ Below w.heap.size w w' := by
  subst c1
  have hmf : ∀ (fn : Fn) (first cap : Array Value) (w : World), (Instr.makeFunc fn first cap).run Try.prog w = .ok (.func fn first cap) w := fun _ _ _ _ => rfl
  go_enter Try.func11, Try.ntmps11
  go_wp2_with (first | (go_at_call 9; refine (source_any _ _ _).mono ?_; rintro e w' ⟨rfl, rfl⟩) | (go_at_call 17; go_in) | (go_at_call 18; go_in))
  first | go_end0 | refine bodyPost_ret (results_none rfl _ _ _) rfl ?_
  go_wp2_with (first | (go_at_call 9; refine (source_any _ _ _).mono ?_; rintro e w' ⟨rfl, rfl⟩) | (go_at_call 17; go_in) | (go_at_call 18; go_in))
  first | go_end0 | refine bodyPost_ret (results_none rfl _ _ _) rfl ?_
  go_wp2
  go_region
  all_goals go_wp2
  refine at_end _ (fun W2 => W2.heap[w.heap.size + 1]? = some (.cells #[.bool true, .int .u8 a0_4, .int .u8 0, .int .u8 ((a0_3 - 1) % 256), .int .u8 a0_4] 27 (0, 0)) ∧ Below w.heap.size w W2) ?hf2 ?hg2
  case hf2 =>
    refine ⟨?_, ?_⟩
    · (apply via; (focus (repeat first | (with_reducible assumption) | (with_reducible apply blk_drew) | (with_reducible apply blk_drewN) | (focus ((with_reducible apply blk_new_at); first | rfl | (simp; done))) | (with_reducible apply blk_alloc) | (focus ((with_reducible apply blk_far); rotate_left; first | omega | (dsimp only; omega))) | (with_reducible apply blk_set))); all_goals rfl)
    · (repeat first | (with_reducible assumption) | (with_reducible exact Below.refl _ _) | (with_reducible refine Below.drew ?_) | ((with_reducible refine Below.alloc ?_ ?_ _); rotate_left; first | omega | (focus (simp; done)) | (focus (simp; omega))) | ((with_reducible refine Below.setCell ?_ ?_ _); rotate_left; first | omega | (dsimp only; omega)))
  case hg2 =>
    rintro W2 ⟨r1, hB2⟩
    refine bodyPost_ret (results_cttt rfl _ _ (w.heap.size + 1) 27 _ (0, 0) _ rfl r1 Try.underlying27 rfl (by kernel_rfl)) rfl ?_
    exact ⟨rfl, hB2⟩
set_option maxHeartbeats 8000000 in
set_option maxRecDepth 100000 in
theorem dma_Step.pe2 (a0_1 a0_2 a0_3 a0_4 : Int) (w : World) (c1 : a0_2 = 159) (c2 : (a0_3 != 0) = true) (c3 : ((a0_3 - 1) % 256 == 0) = false) :
    Calls Try.prog 11 #[.agg #[.bool true, .int .u8 a0_1, .int .u8 a0_2, .int .u8 a0_3, .int .u8 a0_4]] w fun e w' => e = .returned (.tuple #[.agg #[.bool false, .int .u8 a0_1, .int .u8 0, .int .u8 ((a0_3 - 1) % 256), .int .u8 a0_4], .int .u16 (src1 a0_1 159), .int .u8 159, .bool true]) ∧ Below w.heap.size w w' := by
  subst c1
  have hmf : ∀ (fn : Fn) (first cap : Array Value) (w : World), (Instr.makeFunc fn first cap).run Try.prog w = .ok (.func fn first cap) w := fun _ _ _ _ => rfl
  go_enter Try.func11, Try.ntmps11
  go_wp2_with (first | (go_at_call 9; refine (source_any _ _ _).mono ?_; rintro e w' ⟨rfl, rfl⟩) | (go_at_call 17; go_in) | (go_at_call 18; go_in))
  first | go_end0 | refine bodyPost_ret (results_none rfl _ _ _) rfl ?_
  go_wp2_with (first | (go_at_call 9; refine (source_any _ _ _).mono ?_; rintro e w' ⟨rfl, rfl⟩) | (go_at_call 17; go_in) | (go_at_call 18; go_in))
  first | go_end0 | refine bodyPost_ret (results_none rfl _ _ _) rfl ?_
  go_wp2
  go_region
  all_goals go_wp2
  refine at_end _ (fun W2 => W2.heap[w.heap.size + 1]? = some (.cells #[.bool false, .int .u8 a0_1, .int .u8 0, .int .u8 ((a0_3 - 1) % 256), .int .u8 a0_4] 27 (0, 0)) ∧ Below w.heap.size w W2) ?hf2 ?hg2
  case hf2 =>
    refine ⟨?_, ?_⟩
    · (apply via; (focus (repeat first | (with_reducible assumption) | (with_reducible apply blk_drew) | (with_reducible apply blk_drewN) | (focus ((with_reducible apply blk_new_at); first | rfl | (simp; done))) | (with_reducible apply blk_alloc) | (focus ((with_reducible apply blk_far); rotate_left; first | omega | (dsimp only; omega))) | (with_reducible apply blk_set))); all_goals rfl)
    · (repeat first | (with_reducible assumption) | (with_reducible exact Below.refl _ _) | (with_reducible refine Below.drew ?_) | ((with_reducible refine Below.alloc ?_ ?_ _); rotate_left; first | omega | (focus (simp; done)) | (focus (simp; omega))) | ((with_reducible refine Below.setCell ?_ ?_ _); rotate_left; first | omega | (dsimp only; omega)))
  case hg2 =>
    rintro W2 ⟨r1, hB2⟩
    refine bodyPost_ret (results_cttt rfl _ _ (w.heap.size + 1) 27 _ (0, 0) _ rfl r1 Try.underlying27 rfl (by kernel_rfl)) rfl ?_
    exact ⟨rfl, hB2⟩
def dma_Step.f (a0_0 : Bool) (a0_1 : Int) (a0_2 : Int) (a0_3 : Int) (a0_4 : Int) : Option (Bool × Int × Int × Int × Int × Int × Int × Bool) :=
  if a0_0 = true then (if a0_2 < 159 then (if (a0_3 != 0) = true then (if ((a0_3 - 1) % 256 == 0) = true then some (true, a0_4, 0, (a0_3 - 1) % 256, a0_4, (src1 a0_1 a0_2), a0_2, true) else some (true, a0_1, ((a0_2 + 1) % 256), (a0_3 - 1) % 256, a0_4, (src1 a0_1 a0_2), a0_2, true)) else some (true, a0_1, ((a0_2 + 1) % 256), a0_3, a0_4, (src1 a0_1 a0_2), a0_2, true)) else (if (a0_3 != 0) = true then (if ((a0_3 - 1) % 256 == 0) = true then some (true, a0_4, 0, (a0_3 - 1) % 256, a0_4, (src1 a0_1 159), 159, true) else some (false, a0_1, 0, (a0_3 - 1) % 256, a0_4, (src1 a0_1 159), 159, true)) else some (false, a0_1, 0, a0_3, a0_4, (src1 a0_1 159), 159, true))) else (if (a0_3 != 0) = true then (if ((a0_3 - 1) % 256 == 0) = true then some (true, a0_4, 0, (a0_3 - 1) % 256, a0_4, 0, 0, false) else some (false, a0_1, a0_2, (a0_3 - 1) % 256, a0_4, 0, 0, false)) else some (false, a0_1, a0_2, a0_3, a0_4, 0, 0, false))
set_option maxRecDepth 100000 in
theorem dma_Step.calls (a0_0 : Bool) (a0_1 : Int) (a0_2 : Int) (a0_3 : Int) (a0_4 : Int) (r1 : Bool) (r2 : Int) (r3 : Int) (r4 : Int) (r5 : Int) (r6 : Int) (r7 : Int) (r8 : Bool) (w : World) (h : dma_Step.f a0_0 a0_1 a0_2 a0_3 a0_4 = some (r1, r2, r3, r4, r5, r6, r7, r8)) :
    Calls Try.prog 11 #[.agg #[.bool a0_0, .int .u8 a0_1, .int .u8 a0_2, .int .u8 a0_3, .int .u8 a0_4]] w fun e w' => e = .returned (.tuple #[.agg #[.bool r1, .int .u8 r2, .int .u8 r3, .int .u8 r4, .int .u8 r5], .int .u16 r6, .int .u8 r7, .bool r8]) ∧ Below w.heap.size w w' := by
  unfold dma_Step.f at h
  cases a0_0 with
  | true =>
    rw [if_pos rfl] at h
    by_cases c1 : a0_2 < 159
    · rw [if_pos c1] at h
      have c4 : (a0_2 == 159) = false := beq_eq_false_iff_ne.mpr (by omega)
      by_cases c2 : (a0_3 != 0) = true
      · rw [if_pos c2] at h
        by_cases c3 : ((a0_3 - 1) % 256 == 0) = true
        · rw [if_pos c3] at h
          simp only [Option.some.injEq, Prod.mk.injEq] at h
          obtain ⟨rfl, rfl, rfl, rfl, rfl, rfl, rfl, rfl⟩ := h
          exact dma_Step.pa1 a0_1 a0_2 a0_3 a0_4 w c1 c4 c2 c3
        · rw [if_neg c3] at h
          replace c3 := Bool.eq_false_iff.mpr c3
          simp only [Option.some.injEq, Prod.mk.injEq] at h
          obtain ⟨rfl, rfl, rfl, rfl, rfl, rfl, rfl, rfl⟩ := h
          exact dma_Step.pa2 a0_1 a0_2 a0_3 a0_4 w c1 c4 c2 c3
      · rw [if_neg c2] at h
        replace c2 := Bool.eq_false_iff.mpr c2
        simp only [Option.some.injEq, Prod.mk.injEq] at h
        obtain ⟨rfl, rfl, rfl, rfl, rfl, rfl, rfl, rfl⟩ := h
        exact dma_Step.pa0 a0_1 a0_2 a0_3 a0_4 w c1 c4 c2
    · rw [if_neg c1] at h
      by_cases c5 : 159 < a0_2
      · replace c1 := c5
        by_cases c2 : (a0_3 != 0) = true
        · rw [if_pos c2] at h
          by_cases c3 : ((a0_3 - 1) % 256 == 0) = true
          · rw [if_pos c3] at h
            simp only [Option.some.injEq, Prod.mk.injEq] at h
            obtain ⟨rfl, rfl, rfl, rfl, rfl, rfl, rfl, rfl⟩ := h
            exact dma_Step.pb1 a0_1 a0_2 a0_3 a0_4 w c1 c2 c3
          · rw [if_neg c3] at h
            replace c3 := Bool.eq_false_iff.mpr c3
            simp only [Option.some.injEq, Prod.mk.injEq] at h
            obtain ⟨rfl, rfl, rfl, rfl, rfl, rfl, rfl, rfl⟩ := h
            exact dma_Step.pb2 a0_1 a0_2 a0_3 a0_4 w c1 c2 c3
        · rw [if_neg c2] at h
          replace c2 := Bool.eq_false_iff.mpr c2
          simp only [Option.some.injEq, Prod.mk.injEq] at h
          obtain ⟨rfl, rfl, rfl, rfl, rfl, rfl, rfl, rfl⟩ := h
          exact dma_Step.pb0 a0_1 a0_2 a0_3 a0_4 w c1 c2
      · have c6 : a0_2 = 159 := by omega
        replace c1 := c6
        by_cases c2 : (a0_3 != 0) = true
        · rw [if_pos c2] at h
          by_cases c3 : ((a0_3 - 1) % 256 == 0) = true
          · rw [if_pos c3] at h
            simp only [Option.some.injEq, Prod.mk.injEq] at h
            obtain ⟨rfl, rfl, rfl, rfl, rfl, rfl, rfl, rfl⟩ := h
            exact dma_Step.pe1 a0_1 a0_2 a0_3 a0_4 w c1 c2 c3
          · rw [if_neg c3] at h
            replace c3 := Bool.eq_false_iff.mpr c3
            simp only [Option.some.injEq, Prod.mk.injEq] at h
            obtain ⟨rfl, rfl, rfl, rfl, rfl, rfl, rfl, rfl⟩ := h
            exact dma_Step.pe2 a0_1 a0_2 a0_3 a0_4 w c1 c2 c3
        · rw [if_neg c2] at h
          replace c2 := Bool.eq_false_iff.mpr c2
          simp only [Option.some.injEq, Prod.mk.injEq] at h
          obtain ⟨rfl, rfl, rfl, rfl, rfl, rfl, rfl, rfl⟩ := h
          exact dma_Step.pe0 a0_1 a0_2 a0_3 a0_4 w c1 c2
  | false =>
    rw [if_neg (by simp)] at h
    by_cases c2 : (a0_3 != 0) = true
    · rw [if_pos c2] at h
      by_cases c3 : ((a0_3 - 1) % 256 == 0) = true
      · rw [if_pos c3] at h
        simp only [Option.some.injEq, Prod.mk.injEq] at h
        obtain ⟨rfl, rfl, rfl, rfl, rfl, rfl, rfl, rfl⟩ := h
        exact dma_Step.pn1 a0_1 a0_2 a0_3 a0_4 w c2 c3
      · rw [if_neg c3] at h
        replace c3 := Bool.eq_false_iff.mpr c3
        simp only [Option.some.injEq, Prod.mk.injEq] at h
        obtain ⟨rfl, rfl, rfl, rfl, rfl, rfl, rfl, rfl⟩ := h
        exact dma_Step.pn2 a0_1 a0_2 a0_3 a0_4 w c2 c3
    · rw [if_neg c2] at h
      replace c2 := Bool.eq_false_iff.mpr c2
      simp only [Option.some.injEq, Prod.mk.injEq] at h
      obtain ⟨rfl, rfl, rfl, rfl, rfl, rfl, rfl, rfl⟩ := h
      exact dma_Step.pn0 a0_1 a0_2 a0_3 a0_4 w c2

/-! ### dma_Write: function 13 -/
def dma_Write.f (a0_0 : Bool) (a0_1 : Int) (a0_2 : Int) (a0_3 : Int) (a0_4 : Int) (a1 : Int) : Option (Bool × Int × Int × Int × Int) := some (a0_0, a0_1, a0_2, 2, a1)
set_option maxHeartbeats 8000000 in
set_option maxRecDepth 100000 in
theorem dma_Write.calls (a0_0 : Bool) (a0_1 : Int) (a0_2 : Int) (a0_3 : Int) (a0_4 : Int) (a1 : Int) (r1 : Bool) (r2 : Int) (r3 : Int) (r4 : Int) (r5 : Int) (w : World) (h : dma_Write.f a0_0 a0_1 a0_2 a0_3 a0_4 a1 = some (r1, r2, r3, r4, r5)) :
    Calls Try.prog 13 #[.agg #[.bool a0_0, .int .u8 a0_1, .int .u8 a0_2, .int .u8 a0_3, .int .u8 a0_4], .int .u8 a1] w fun e w' => e = .returned (.agg #[.bool r1, .int .u8 r2, .int .u8 r3, .int .u8 r4, .int .u8 r5]) ∧ Below w.heap.size w w' := by
  have hu27 := Try.underlying27
  have HB := Aside0.mk (Below.refl w.heap.size w)
  have H : (some (a0_0, a0_1, a0_2, 2, a1)) = some (r1, r2, r3, r4, r5) := h
  clear h
  simp only [Option.some.injEq, Prod.mk.injEq] at H
  obtain ⟨rfl, rfl, rfl, rfl, rfl⟩ := H
  go_enter Try.func13, Try.ntmps13
  go_wp2_with (first | ((with_reducible refine gate_dst (N := 2) rfl ?_); refine box_event ?hg (N := 2) ?hd (cs := #[.bool a0_0, .int .u8 a0_1, .int .u8 a0_2, .int .u8 a0_3, .int .u8 a0_4]) (t := 27) ?hr ?_; (case hd => rfl); (case hg => rfl); (case hr => first | (go_simp; done) | (go_simp; rfl)); intro gb101 hg w3 hbox hb; have n0_ := Aside0.mk (below_step (by repeat (first | (with_reducible first | exact HB.out | apply below_alloc | apply pw_below_drewN | apply below_drew1) | exact HB.out)) hb); have n1_ := Aside0.mk (hbox); have n2_ := Aside0.mk ((by rw [hg]; exact (below_size (by repeat (first | (with_reducible first | exact HB.out | apply below_alloc | apply pw_below_drewN | apply below_drew1) | exact HB.out))) : w.heap.size ≤ gb101)); have n3_ := Aside0.mk ((by rw [hg]; exact (below_size (by repeat (first | (with_reducible first | exact HB.out | apply below_alloc | apply pw_below_drewN | apply below_drew1) | exact HB.out))) : w.heap.size ≤ gb101)); clear HB; have HB := n0_; have BK101 := n1_; have GW101 := n2_; have GE101 := n3_; clear n0_ n1_ n2_ n3_; clear hb hbox hg) | ((with_reducible refine gate_dst (N := 4) rfl ?_); refine box_event ?hg (N := 4) ?hd (cs := #[.bool false, .int .u8 0, .int .u8 0, .int .u8 0, .int .u8 0]) (t := 27) ?hr ?_; (case hd => rfl); (case hg => rfl); (case hr => first | (go_simp; done) | (go_simp; rfl)); intro gb102 hg w4 hbox hb; have n0_ := Aside0.mk (blk_below (g := gb101) (o := .cells #[.bool a0_0, .int .u8 a0_1, .int .u8 a0_2, .int .u8 a0_3, .int .u8 a0_4] 27 (0, 0)) (by (with_reducible repeat (first | refine blk_drewN ?_ _ | refine blk_drew ?_ | refine blk_alloc ?_ _)); exact BK101.out) hb); have n1_ := Aside0.mk (below_step (by repeat (first | (with_reducible first | exact HB.out | apply below_alloc | apply pw_below_drewN | apply below_drew1 | refine below_set ?_ GE101.out) | exact HB.out)) hb); have n2_ := Aside0.mk (hbox); have n3_ := Aside0.mk ((by rw [hg]; exact (below_size (by repeat (first | (with_reducible first | exact HB.out | apply below_alloc | apply pw_below_drewN | apply below_drew1 | refine below_set ?_ GE101.out) | exact HB.out))) : w.heap.size ≤ gb102)); have n4_ := Aside0.mk ((by rw [hg]; exact (below_size (by repeat (first | (with_reducible first | exact HB.out | apply below_alloc | apply pw_below_drewN | apply below_drew1 | refine below_set ?_ GE101.out) | exact HB.out))) : w.heap.size ≤ gb102)); have n5_ := Aside0.mk ((by rw [hg]; exact Nat.ne_of_lt (blk_lt (g := gb101) (o := .cells #[.bool a0_0, .int .u8 a0_1, .int .u8 a0_2, .int .u8 a0_3, .int .u8 a0_4] 27 (0, 0)) (by (with_reducible repeat (first | refine blk_drewN ?_ _ | refine blk_drew ?_ | refine blk_alloc ?_ _)); exact BK101.out)) : gb101 ≠ gb102)); have n6_ := Aside0.mk ((by rw [hg]; exact Nat.ne_of_gt (blk_lt (g := gb101) (o := .cells #[.bool a0_0, .int .u8 a0_1, .int .u8 a0_2, .int .u8 a0_3, .int .u8 a0_4] 27 (0, 0)) (by (with_reducible repeat (first | refine blk_drewN ?_ _ | refine blk_drew ?_ | refine blk_alloc ?_ _)); exact BK101.out)) : gb102 ≠ gb101)); clear BK101; clear HB; have BK101 := n0_; have HB := n1_; have BK102 := n2_; have GW102 := n3_; have GE102 := n4_; have NB101_102 := n5_; have NB102_101 := n6_; clear n0_ n1_ n2_ n3_ n4_ n5_ n6_; clear hb hbox hg; have hnb5 := NB101_102.out; have hnc5 := NB102_101.out; have hcz6_0 : w4.cell? ⟨gb101, 0, none⟩ = some (.bool a0_0) := (blk_cell BK101.out 0).trans rfl; have hcz6_1 : w4.cell? ⟨gb101, 1, none⟩ = some (.int .u8 a0_1) := (blk_cell BK101.out 1).trans rfl; have hcz6_2 : w4.cell? ⟨gb101, 2, none⟩ = some (.int .u8 a0_2) := (blk_cell BK101.out 2).trans rfl; have hcz6_3 : w4.cell? ⟨gb101, 3, none⟩ = some (.int .u8 a0_3) := (blk_cell BK101.out 3).trans rfl; have hcz6_4 : w4.cell? ⟨gb101, 4, none⟩ = some (.int .u8 a0_4) := (blk_cell BK101.out 4).trans rfl; have hfz6_0 := blk_frozen BK101.out 0; have hfz6_1 := blk_frozen BK101.out 1; have hfz6_2 := blk_frozen BK101.out 2; have hfz6_3 := blk_frozen BK101.out 3; have hfz6_4 := blk_frozen BK101.out 4; have hcz7_0 : w4.cell? ⟨gb102, 0, none⟩ = some (.bool false) := (blk_cell BK102.out 0).trans rfl; have hcz7_1 : w4.cell? ⟨gb102, 1, none⟩ = some (.int .u8 0) := (blk_cell BK102.out 1).trans rfl; have hcz7_2 : w4.cell? ⟨gb102, 2, none⟩ = some (.int .u8 0) := (blk_cell BK102.out 2).trans rfl; have hcz7_3 : w4.cell? ⟨gb102, 3, none⟩ = some (.int .u8 0) := (blk_cell BK102.out 3).trans rfl; have hcz7_4 : w4.cell? ⟨gb102, 4, none⟩ = some (.int .u8 0) := (blk_cell BK102.out 4).trans rfl; have hfz7_0 := blk_frozen BK102.out 0; have hfz7_1 := blk_frozen BK102.out 1; have hfz7_2 := blk_frozen BK102.out 2; have hfz7_3 := blk_frozen BK102.out 3; have hfz7_4 := blk_frozen BK102.out 4))
  refine bodyPost_ret (results_cell_row rfl _ _ gb102 27 #[.bool a0_0, .int .u8 a0_1, .int .u8 a0_2, .int .u8 2, .int .u8 a1] (0, 0) _ rfl (by (with_reducible repeat (first | refine blk_drewN ?_ _ | refine blk_drew ?_ | refine blk_alloc ?_ _)); refine blk_put (cs := #[.bool a0_0, .int .u8 a0_1, .int .u8 a0_2, .int .u8 2, .int .u8 0]) ?_ 4 _ rfl; (with_reducible repeat (first | refine blk_drewN ?_ _ | refine blk_drew ?_ | refine blk_alloc ?_ _)); refine blk_put (cs := #[.bool a0_0, .int .u8 a0_1, .int .u8 a0_2, .int .u8 0, .int .u8 0]) ?_ 3 _ rfl; (with_reducible repeat (first | refine blk_drewN ?_ _ | refine blk_drew ?_ | refine blk_alloc ?_ _)); refine blk_put (cs := #[.bool a0_0, .int .u8 a0_1, .int .u8 0, .int .u8 0, .int .u8 0]) ?_ 2 _ rfl; (with_reducible repeat (first | refine blk_drewN ?_ _ | refine blk_drew ?_ | refine blk_alloc ?_ _)); refine blk_put (cs := #[.bool a0_0, .int .u8 0, .int .u8 0, .int .u8 0, .int .u8 0]) ?_ 1 _ rfl; (with_reducible repeat (first | refine blk_drewN ?_ _ | refine blk_drew ?_ | refine blk_alloc ?_ _)); refine blk_put (cs := #[.bool false, .int .u8 0, .int .u8 0, .int .u8 0, .int .u8 0]) ?_ 0 _ rfl; (with_reducible repeat (first | refine blk_drewN ?_ _ | refine blk_drew ?_ | refine blk_alloc ?_ _)); refine blk_far ?_ NB102_101.out _; (with_reducible repeat (first | refine blk_drewN ?_ _ | refine blk_drew ?_ | refine blk_alloc ?_ _)); refine blk_far ?_ NB102_101.out _; (with_reducible repeat (first | refine blk_drewN ?_ _ | refine blk_drew ?_ | refine blk_alloc ?_ _)); exact BK102.out) Try.underlying27 rfl (by kernel_rfl)) rfl ?_
  exact ⟨by first | rfl | (simp [errW_none, errW_some] <;> rfl) | (simp [*, errW_none, errW_some] <;> rfl), by repeat (first | (with_reducible first | exact HB.out | apply below_alloc | apply pw_below_drewN | apply below_drew1 | refine below_set ?_ GE101.out | refine below_set ?_ GE102.out) | exact HB.out)⟩

end Go.Proofs.Ytofcicdomkaigaa.P
