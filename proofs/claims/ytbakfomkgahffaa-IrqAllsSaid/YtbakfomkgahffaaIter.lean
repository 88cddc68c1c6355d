/- irq.All: what it hands over. -/
import Derived.RangeFuncFrom
import Derived.RangeFuncLeaves
import Derived.Shelf.Abstract
import Derived.Shelf.RegionOpen
import Derived.WalkKit
import Derived.OwnWalkIn
import Derived.TacticsInMore
import Derived.LoopNIn
import Derived.LoopIn
import Derived.Test.YtbakfomkgahffaaProg
namespace Go.Proofs.Ytbakfomkgahffaa.It
open Go.RowKit Go.Shelf
set_option linter.unusedVariables false
set_option linter.unusedSimpArgs false
attribute [local go_sem] Oper.semAt_some

theorem cell_of_box_l {W : World} {B : Nat} {v : Value} {t : TypeId} (h : W.heap[B]? = some (.cells #[v] t (0, 0))) : W.cell? ⟨B, 0, none⟩ = some v ∧ W.frozen? ⟨B, 0, none⟩ = false := by
  constructor <;> simp [World.cell?, World.frozen?, h]
theorem cell_new_l (W : World) (v : Value) (t : TypeId) : (W.alloc (.cells #[v] t)).cell? ⟨W.heap.size, 0, none⟩ = some v ∧ (W.alloc (.cells #[v] t)).frozen? ⟨W.heap.size, 0, none⟩ = false :=
  cell_of_box_l (World.alloc_heap_new W _)
theorem cell_alloc_l {W : World} {a : Addr} {v : Value} (o : Obj) (h : W.cell? a = some v) : (W.alloc o).cell? a = some v := cell_kept h (World.grownBy_alloc W o none) (fun r e => by cases e)
theorem frozen_alloc_l {W : World} {a : Addr} {v : Value} (o : Obj) (h : W.cell? a = some v) (hf : W.frozen? a = false) : (W.alloc o).frozen? a = false := (frozen_kept h (World.grownBy_alloc W o none) (fun r e => by cases e)).trans hf
/-- Is bit k set, in the walk's own form? -/
def bit (p : Int) (k : Nat) : Bool := Go.bits .and .u8 (p / 2 ^ k) 1 == 1
/-- The numbers below k of the bits that are set. -/
def bits (p : Int) (k : Nat) : List Int := ((List.range k).filter (bit p)).map (fun (i : Nat) => (i : Int))
theorem bits_yes {p : Int} {k : Nat} (h : Go.bits .and .u8 (p / 2 ^ k) 1 = 1) : bits p (k + 1) = bits p k ++ [(k : Int)] := by
  have : bit p k = true := by unfold bit; rw [h]; rfl
  simp [bits, List.range_succ, List.filter_append, this]
theorem bits_no {p : Int} {k : Nat} (h : ¬ Go.bits .and .u8 (p / 2 ^ k) 1 = 1) : bits p (k + 1) = bits p k := by
  have : bit p k = false := by unfold bit; simpa using h
  simp [bits, List.range_succ, List.filter_append, this]
theorem bits_length (p : Int) (k : Nat) : (bits p k).length ≤ k := by
  have := List.length_filter_le (bit p) (List.range k)
  simpa [bits] using this
theorem bits_prefix (p : Int) {k m : Nat} (h : k ≤ m) : bits p k <+: bits p m := by
  induction m with
  | zero => obtain rfl : k = 0 := by omega
            exact List.prefix_refl _
  | succ m ih =>
    by_cases e : k = m + 1
    · subst e; exact List.prefix_refl _
    · refine (ih (by omega)).trans ?_
      by_cases hb : Go.bits .and .u8 (p / 2 ^ m) 1 = 1
      · rw [bits_yes hb]; exact List.prefix_append _ _
      · rw [bits_no hb]; exact List.prefix_refl _

set_option maxRecDepth 100000 in
set_option maxHeartbeats 2000000 in
theorem all1 (F : Fence) (n : Nat) (h28 : F.fn 28) (hro : F.round = none) (hn : 1 ≤ n) (l Bn : Nat) (p : Int) (J Jx : List Int → World → Prop)
    (hY : ∀ pre x W, J pre W → pre.length < 5 → YieldAt F (n - 1) Try.prog l #[.int .i64 x] W fun e W' =>
      (e = .returned (.bool true) ∧ J (pre ++ [x]) W' ∧ (∀ v, W.cell? ⟨Bn, 0, none⟩ = some v → W'.cell? ⟨Bn, 0, none⟩ = some v)) ∨ (e = .returned (.bool false) ∧ Jx (pre ++ [x]) W'))
    (W : World) (hBn : W.cell? ⟨Bn, 0, none⟩ = some (.int .u8 p)) (h0 : J [] W) :
    CallsIn F n Try.prog 28 #[.func (.yield l) #[] #[], .pointer (some ⟨Bn, 0, none⟩)] W fun e W' => (∃ v, e = .returned v) ∧
      ((∃ ys, ys = bits p 5 ∧ J ys W') ∨ (∃ pre, (pre <+: bits p 5) ∧ Jx pre W')) := by
  refine callsIn_of_wp Try.func28 rfl h28 ?_ hro
  simp only [Try.ntmps28, List.size_toArray, List.length_cons, List.length_nil, Nat.reduceAdd, Nat.reduceSub, Array.replicate_succ, Array.replicate_zero, List.push_toArray, List.append_toArray, List.nil_append, List.cons_append]
  gi_wp2
  gi_loopw [4] (fun i wr => ∃ k : Nat, k ≤ 5 ∧ i = .int .i64 k ∧ J (bits p k) wr ∧ wr.cell? ⟨Bn, 0, none⟩ = some (.int .u8 p)) (fun i wr => 5 - (intOf i).toNat)
  case atStart =>
    exact ⟨0, by omega, rfl, h0, hBn⟩
  case round =>
    obtain ⟨k, hk, rfl, hJ, hc⟩ := hrel
    have hlen := bits_length p k
    by_cases hlt : k < 5
    · by_cases hb : Go.bits .and .u8 (p / 2 ^ k) 1 = 1
      · obtain ⟨fn, tmps, assign, body, hy, hR⟩ := hY (bits p k) k wr hJ (by omega)
        have hJ' := bits_yes hb
        gi_wp2
        refine hR.mono ?_
        rintro e W3 (⟨rfl, hJ3, hk3⟩ | ⟨rfl, hJx3⟩)
        · have hc3 := hk3 _ hc
          gi_wp2
          go_roundw
          case rel => exact ⟨k + 1, by omega, by go_num, by rw [hJ']; exact hJ3, hc3⟩
          case measure => simp [intOf]; omega
        · gi_wp2
          refine bodyPost_ret (results_none rfl _ _ _) rfl ?_
          exact ⟨⟨_, rfl⟩, .inr ⟨_, by rw [← hJ']; exact bits_prefix p (by omega), hJx3⟩⟩
      · have hJ' := bits_no hb
        gi_wp2
        refine ⟨fun _ h => (by cases h), ?_⟩
        gi_wp2
        go_roundw
        case rel => exact ⟨k + 1, by omega, by go_num, by rw [hJ']; exact hJ, hc⟩
        case measure => simp [intOf]; omega
    · obtain rfl : k = 5 := by omega
      gi_wp2
      go_end0
      exact ⟨⟨_, rfl⟩, .inl ⟨_, rfl, hJ⟩⟩

theorem all_stops (F : Fence) (n : Nat) (h28 : F.fn 28) (hro : F.round = none) (hn : 1 ≤ n) (Bn : Nat) (p : Int) (w : World) (hlt : Bn < w.heap.size) (hBn : w.cell? ⟨Bn, 0, none⟩ = some (.int .u8 p)) :
    SeqStopsK F n Try.prog 28 #[.pointer (some ⟨Bn, 0, none⟩)] (fun x : Int => #[.int .i64 x]) (fun W W' => ∀ v, W.cell? ⟨Bn, 0, none⟩ = some v → W'.cell? ⟨Bn, 0, none⟩ = some v)
      (fun xs => xs = bits p 5) (fun pre => pre <+: bits p 5) 5 w := fun l J Jx W hW _ _ hY h0 =>
  all1 F n h28 hro hn l Bn p J Jx hY W ((hW.cell (p := ⟨Bn, 0, none⟩) hlt).trans hBn) h0

theorem all_in (F : Fence) (n : Nat) (h15 : F.fn 15) (hro : F.round = none) (p : Int) (w : World) :
    CallsIn F n Try.prog 15 #[.int .u8 p] w fun e w' => e = .returned (.func (.func 28) #[] #[.pointer (some ⟨w.heap.size, 0, none⟩)]) ∧ w' = w.alloc (.cells #[.int .u8 p] 5) := by
  refine callsIn_of_wp Try.func15 rfl h15 ?_ hro
  simp only [Try.ntmps15, List.size_toArray, List.length_cons, List.length_nil, Nat.reduceAdd, Nat.reduceSub, Array.replicate_succ, Array.replicate_zero, List.push_toArray, List.append_toArray, List.nil_append, List.cons_append]
  have hmf : ∀ (fn : Fn) (first cap : Array Value) (w : World), (Instr.makeFunc fn first cap).run Try.prog w = .ok (.func fn first cap) w := fun _ _ _ _ => rfl
  gi_wp2
  go_ret
  exact ⟨rfl, rfl⟩
end Go.Proofs.Ytbakfomkgahffaa.It
