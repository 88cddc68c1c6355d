/- irq.First and the range over a function that it calls. No condition but the hypotheses that stand in each. -/
import Derived.RangeFuncFrom
import Derived.RangeFuncLeaves
import Derived.Shelf.Abstract
import Derived.Shelf.RegionOpen
import Derived.WalkKit
import Derived.OwnWalkIn
import Derived.TacticsInMore
import Derived.LoopNIn
import Derived.LoopIn
import Derived.Test.YtgkoghgiclkbhaaGreatDoorProg
namespace Go.Proofs.YtgkoghgiclkbhaaGreatDoor.It
open Go.RowKit Go.Shelf
set_option linter.unusedVariables false
set_option linter.unusedSimpArgs false
attribute [local go_sem] Oper.semAt_some

theorem cell_of_box_l {W : World} {B : Nat} {v : Value} {t : TypeId} (h : W.heap[B]? = some (.cells #[v] t (0, 0))) : W.cell? ⟨B, 0, none⟩ = some v ∧ W.frozen? ⟨B, 0, none⟩ = false := by
  constructor <;> simp [World.cell?, World.frozen?, h]
theorem cell_new_l (W : World) (v : Value) (t : TypeId) : (W.alloc (.cells #[v] t)).cell? ⟨W.heap.size, 0, none⟩ = some v ∧ (W.alloc (.cells #[v] t)).frozen? ⟨W.heap.size, 0, none⟩ = false :=
  cell_of_box_l (World.alloc_heap_new W _)
theorem cell_alloc_l {W : World} {a : Addr} {v : Value} (o : Obj) (h : W.cell? a = some v) : (W.alloc o).cell? a = some v := cell_kept h (World.grownBy_alloc W o none) (fun r e => by cases e)
theorem frozen_alloc_l {W : World} {a : Addr} {v : Value} (o : Obj) (h : W.cell? a = some v) (hf : W.frozen? a = false) : (W.alloc o).frozen? a = false := (frozen_kept h (World.grownBy_alloc W o none) (fun r e => by cases e)).trans hf
/-- Is bit k set, in the walk's own form? -/
def bit (p : Int) (k : Nat) : Bool := Go.bits .and .u8 (p / 2 ^ k) 1 == 1
/-- The numbers below k of the bits that are set. -/
def bits (p : Int) (k : Nat) : List Int := ((List.range k).filter (bit p)).map (fun (i : Nat) => (i : Int))
theorem bits_yes {p : Int} {k : Nat} (h : Go.bits .and .u8 (p / 2 ^ k) 1 = 1) : bits p (k + 1) = bits p k ++ [(k : Int)] := by
  have : bit p k = true := by unfold bit; rw [h]; rfl
  simp [bits, List.range_succ, List.filter_append, this]
theorem bits_no {p : Int} {k : Nat} (h : ¬ Go.bits .and .u8 (p / 2 ^ k) 1 = 1) : bits p (k + 1) = bits p k := by
  have : bit p k = false := by unfold bit; simpa using h
  simp [bits, List.range_succ, List.filter_append, this]
theorem bits_length (p : Int) (k : Nat) : (bits p k).length ≤ k := by
  have := List.length_filter_le (bit p) (List.range k)
  simpa [bits] using this
theorem bits_prefix (p : Int) {k m : Nat} (h : k ≤ m) : bits p k <+: bits p m := by
  induction m with
  | zero => obtain rfl : k = 0 := by omega
            exact List.prefix_refl _
  | succ m ih =>
    by_cases e : k = m + 1
    · subst e; exact List.prefix_refl _
    · refine (ih (by omega)).trans ?_
      by_cases hb : Go.bits .and .u8 (p / 2 ^ m) 1 = 1
      · rw [bits_yes hb]; exact List.prefix_append _ _
      · rw [bits_no hb]; exact List.prefix_refl _

set_option maxRecDepth 100000 in
set_option maxHeartbeats 2000000 in
theorem all1 (F : Fence) (n : Nat) (h203 : F.fn 203) (hro : F.round = none) (hn : 1 ≤ n) (l Bn : Nat) (p : Int) (J Jx : List Int → World → Prop)
    (hY : ∀ pre x W, J pre W → pre.length < 5 → YieldAt F (n - 1) Tryz.prog l #[.int .i64 x] W fun e W' =>
      (e = .returned (.bool true) ∧ J (pre ++ [x]) W' ∧ (∀ v, W.cell? ⟨Bn, 0, none⟩ = some v → W'.cell? ⟨Bn, 0, none⟩ = some v)) ∨ (e = .returned (.bool false) ∧ Jx (pre ++ [x]) W'))
    (W : World) (hBn : W.cell? ⟨Bn, 0, none⟩ = some (.int .u8 p)) (h0 : J [] W) :
    CallsIn F n Tryz.prog 203 #[.func (.yield l) #[] #[], .pointer (some ⟨Bn, 0, none⟩)] W fun e W' => (∃ v, e = .returned v) ∧
      ((∃ ys, ys = bits p 5 ∧ J ys W') ∨ (∃ pre, (pre <+: bits p 5) ∧ Jx pre W')) := by
  refine callsIn_of_wp Tryz.func203 rfl h203 ?_ hro
  simp only [Tryz.ntmps203, List.size_toArray, List.length_cons, List.length_nil, Nat.reduceAdd, Nat.reduceSub, Array.replicate_succ, Array.replicate_zero, List.push_toArray, List.append_toArray, List.nil_append, List.cons_append]
  gi_wp2
  gi_loopw [4] (fun i wr => ∃ k : Nat, k ≤ 5 ∧ i = .int .i64 k ∧ J (bits p k) wr ∧ wr.cell? ⟨Bn, 0, none⟩ = some (.int .u8 p)) (fun i wr => 5 - (intOf i).toNat)
  case atStart =>
    exact ⟨0, by omega, rfl, h0, hBn⟩
  case round =>
    obtain ⟨k, hk, rfl, hJ, hc⟩ := hrel
    have hlen := bits_length p k
    by_cases hlt : k < 5
    · by_cases hb : Go.bits .and .u8 (p / 2 ^ k) 1 = 1
      · obtain ⟨fn, tmps, assign, body, hy, hR⟩ := hY (bits p k) k wr hJ (by omega)
        have hJ' := bits_yes hb
        gi_wp2
        refine hR.mono ?_
        rintro e W3 (⟨rfl, hJ3, hk3⟩ | ⟨rfl, hJx3⟩)
        · have hc3 := hk3 _ hc
          gi_wp2
          go_roundw
          case rel => exact ⟨k + 1, by omega, by go_num, by rw [hJ']; exact hJ3, hc3⟩
          case measure => simp [intOf]; omega
        · gi_wp2
          refine bodyPost_ret (results_none rfl _ _ _) rfl ?_
          exact ⟨⟨_, rfl⟩, .inr ⟨_, by rw [← hJ']; exact bits_prefix p (by omega), hJx3⟩⟩
      · have hJ' := bits_no hb
        gi_wp2
        refine ⟨fun _ h => (by cases h), ?_⟩
        gi_wp2
        go_roundw
        case rel => exact ⟨k + 1, by omega, by go_num, by rw [hJ']; exact hJ, hc⟩
        case measure => simp [intOf]; omega
    · obtain rfl : k = 5 := by omega
      gi_wp2
      go_end0
      exact ⟨⟨_, rfl⟩, .inl ⟨_, rfl, hJ⟩⟩

theorem all_stops (F : Fence) (n : Nat) (h203 : F.fn 203) (hro : F.round = none) (hn : 1 ≤ n) (Bn : Nat) (p : Int) (w : World) (hlt : Bn < w.heap.size) (hBn : w.cell? ⟨Bn, 0, none⟩ = some (.int .u8 p)) :
    SeqStopsK F n Tryz.prog 203 #[.pointer (some ⟨Bn, 0, none⟩)] (fun x : Int => #[.int .i64 x]) (fun W W' => ∀ v, W.cell? ⟨Bn, 0, none⟩ = some v → W'.cell? ⟨Bn, 0, none⟩ = some v)
      (fun xs => xs = bits p 5) (fun pre => pre <+: bits p 5) 5 w := fun l J Jx W hW _ _ hY h0 =>
  all1 F n h203 hro hn l Bn p J Jx hY W ((hW.cell (p := ⟨Bn, 0, none⟩) hlt).trans hBn) h0

theorem all_in (F : Fence) (n : Nat) (h146 : F.fn 146) (hro : F.round = none) (p : Int) (w : World) :
    CallsIn F n Tryz.prog 146 #[.int .u8 p] w fun e w' => e = .returned (.func (.func 203) #[] #[.pointer (some ⟨w.heap.size, 0, none⟩)]) ∧ w' = w.alloc (.cells #[.int .u8 p] 5) := by
  refine callsIn_of_wp Tryz.func146 rfl h146 ?_ hro
  simp only [Tryz.ntmps146, List.size_toArray, List.length_cons, List.length_nil, Nat.reduceAdd, Nat.reduceSub, Array.replicate_succ, Array.replicate_zero, List.push_toArray, List.append_toArray, List.nil_append, List.cons_append]
  have hmf : ∀ (fn : Fn) (first cap : Array Value) (w : World), (Instr.makeFunc fn first cap).run Tryz.prog w = .ok (.func fn first cap) w := fun _ _ _ _ => rfl
  gi_wp2
  go_ret
  exact ⟨rfl, rfl⟩
end Go.Proofs.YtgkoghgiclkbhaaGreatDoor.It
namespace Go.Proofs.YtgkoghgiclkbhaaGreatDoor.It
open Go.RowKit Go.Shelf
set_option linter.unusedVariables false
set_option linter.unusedSimpArgs false
attribute [local go_sem] Oper.semAt_some

set_option maxRecDepth 100000 in
set_option maxHeartbeats 4000000 in
theorem first_in (F : Fence) (n : Nat) (h90 : F.fn 90) (h146 : F.fn 146) (h203 : F.fn 203) (hro : F.round = none) (hn : 3 ≤ n) (p : Int) (w : World) :
    CallsIn F n Tryz.prog 90 #[.int .u8 p] w fun e W' => e = .returned (.tuple #[.int .i64 ((bits p 5).headD 0), .bool (!(bits p 5).isEmpty)]) ∧ Below w.heap.size w W' := by
  have h1 : 1 ≤ n := by omega
  refine callsIn_of_wp_marks Tryz.func90 rfl h90 ?_ hro
  simp only [Tryz.ntmps90, List.size_toArray, List.length_cons, List.length_nil, Nat.reduceAdd, Nat.reduceSub, Array.replicate_succ, Array.replicate_zero, List.push_toArray, List.append_toArray, List.nil_append, List.cons_append]
  gi_wp2_with (gi_at_call 146; refine (all_in F (n - 1) h146 hro _ _).mono ?_; rintro e w' ⟨rfl, rfl⟩)
  have c0 := cell_new_l w (.int .i64 0) 3
  have c1 := cell_new_l (w.alloc (.cells #[.int .i64 0] 3)) (.bool false) 4
  have c2 := cell_new_l ((w.alloc (.cells #[.int .i64 0] 3)).alloc (.cells #[.bool false] 4)) (.int .u8 p) 5
  simp only [World.size_alloc] at c1 c2
  have hB0 : Below w.heap.size w (((w.alloc (.cells #[.int .i64 0] 3)).alloc (.cells #[.bool false] 4)).alloc (.cells #[.int .u8 p] 5)) := (((Below.refl _ w).alloc (Nat.le_refl _) _).alloc (by simp) _).alloc (by simp; omega) _
  refine wpIn_rangeFunc_ownF hro h1 (gf := 203) (lb := #[.pointer (some ⟨w.heap.size + 1 + 1, 0, none⟩)]) rfl h203 (enters_of Tryz.func203 (by kernel_rfl) rfl)
    (all_stops F (n - 1) h203 hro (by omega) (w.heap.size + 1 + 1) p _ (by simp) c2.1)
    (fun h k v e => k v (h v e)) (fun W l o o' hl ho hc _ v e => (World.cell?_of_block (World.putObj_heap_other (by simp at hl ⊢; omega))).trans e) (Below.refl _ _) (fun _ => rfl)
    (fun pre W => (pre = [] ∧ W.cell? ⟨w.heap.size, 0, none⟩ = some (.int .i64 0) ∧ W.frozen? ⟨w.heap.size, 0, none⟩ = false ∧ W.cell? ⟨w.heap.size + 1, 0, none⟩ = some (.bool false) ∧ W.frozen? ⟨w.heap.size + 1, 0, none⟩ = false) ∧ Below w.heap.size w W)
    (fun c pre W => (c = .ret ∧ ∃ x, pre = [x] ∧ W.cell? ⟨w.heap.size, 0, none⟩ = some (.int .i64 x) ∧ W.cell? ⟨w.heap.size + 1, 0, none⟩ = some (.bool true)) ∧ Below w.heap.size w W)
    (OwnFrom.and (Own.from (fun s A B row hs hg hr => ⟨hs.1, cell_kept hs.2.1 hg hr, (frozen_kept hs.2.1 hg hr).trans hs.2.2.1, cell_kept hs.2.2.2.1 hg hr, (frozen_kept hs.2.2.2.1 hg hr).trans hs.2.2.2.2⟩) _) (ownFrom_below (Nat.le_refl _) (by simp; omega)))
    (fun c => OwnFrom.and (Own.from (fun s A B row hs hg hr => by obtain ⟨h1, x, h2, h3, h4⟩ := hs; exact ⟨h1, x, h2, cell_kept h3 hg hr, cell_kept h4 hg hr⟩) _) (ownFrom_below (Nat.le_refl _) (by simp; omega)))
    ⟨⟨rfl, cell_alloc_l _ (cell_alloc_l _ c0.1), frozen_alloc_l _ (cell_alloc_l _ c0.1) (frozen_alloc_l _ c0.1 c0.2), cell_alloc_l _ c1.1, frozen_alloc_l _ c1.1 c1.2⟩, hB0⟩
    (fun x => { tmps := #[.int .u8 p, undef, .pointer (some ⟨w.heap.size, 0, none⟩), .pointer (some ⟨w.heap.size + 1, 0, none⟩), .int .i64 x, .int .u8 p, .func (.func 203) #[] #[.pointer (some ⟨w.heap.size + 1 + 1, 0, none⟩)], .int .i64 x, undef], defers := [] }) ?assign ?body ?done ?stop
  case assign =>
    intro l x W K hK
    gi_wp2
    exact hK
  case body =>
    rintro l pre x W ⟨⟨rfl, hc0, hf0, hc1, hf1⟩, hB⟩ _
    gi_wp2
    refine ⟨(KeepsOthers.setCell _ _ _).trans (KeepsOthers.setCell _ _ _), ⟨rfl, x, rfl, ?_, ?_⟩, (hB.setCell (p := ⟨w.heap.size, 0, none⟩) (by simp) _).setCell (p := ⟨w.heap.size + 1, 0, none⟩) (by simp) _⟩
    · exact (World.cell?_setCell_other _ _ _ _ (by simp)).trans (World.cell?_setCell_same' _ _ _ (by rw [hc0]; rfl))
    · exact World.cell?_setCell_same' _ _ _ (by rw [World.cell?_setCell_other _ _ _ _ (by simp), hc1]; rfl)
  case done =>
    rintro D ys W hD hys ⟨⟨rfl, hc0, hf0, hc1, hf1⟩, hB⟩ hK
    gi_wp2
    have hK' := ((KeepsOthers.setCell W ⟨w.heap.size, 0, none⟩ (.int .i64 0)).trans (KeepsOthers.setCell _ ⟨w.heap.size + 1, 0, none⟩ (.bool false))).same D _ hK rfl
    refine ⟨by simp, .inl ⟨_, _, rfl, run_takeDeferred hK', ?_⟩⟩
    have d0 := cell_kept ((World.cell?_setCell_other (W.setCell ⟨w.heap.size, 0, none⟩ (.int .i64 0)) ⟨w.heap.size + 1, 0, none⟩ ⟨w.heap.size, 0, none⟩ (.bool false) (by simp)).trans (World.cell?_setCell_same' W ⟨w.heap.size, 0, none⟩ (.int .i64 0) (by rw [hc0]; rfl))) (grownBy_putObj' _ D (.deferred none)) (fun r e => by cases e; exact ⟨_, hK', rfl⟩)
    have d1 := cell_kept (World.cell?_setCell_same' (W.setCell ⟨w.heap.size, 0, none⟩ (.int .i64 0)) ⟨w.heap.size + 1, 0, none⟩ (.bool false) (by rw [World.cell?_setCell_other _ _ _ _ (by simp), hc1]; rfl)) (grownBy_putObj' _ D (.deferred none)) (fun r e => by cases e; exact ⟨_, hK', rfl⟩)
    refine ⟨.tuple #[.int .i64 0, .bool false], ?_, by rw [← hys]; rfl, ((hB.setCell (p := ⟨w.heap.size, 0, none⟩) (by simp) _).setCell (p := ⟨w.heap.size + 1, 0, none⟩) (by simp) _).trans (belowK_b (w := w) (Nat.le_refl _) _ D _ _ (by simp at hD; omega) hK' rfl rfl)⟩
    simp [results, Tryz.f90, go_sem, d0, d1]
  case stop =>
    rintro D c pre W hD hpre ⟨⟨rfl, x, rfl, hc0, hc1⟩, hB⟩ hK
    gi_wp2
    refine ⟨by simp, .inl ⟨_, _, rfl, run_takeDeferred hK, ?_⟩⟩
    have d0 := cell_kept hc0 (grownBy_putObj' _ D (.deferred none)) (fun r e => by cases e; exact ⟨_, hK, rfl⟩)
    have d1 := cell_kept hc1 (grownBy_putObj' _ D (.deferred none)) (fun r e => by cases e; exact ⟨_, hK, rfl⟩)
    obtain ⟨ys, hys⟩ := hpre
    refine ⟨.tuple #[.int .i64 x, .bool true], ?_, by rw [← hys]; rfl, hB.trans (belowK_b (w := w) (Nat.le_refl _) W D _ _ (by simp at hD; omega) hK rfl rfl)⟩
    simp [results, Tryz.f90, go_sem, d0, d1]

theorem first_calls (p : Int) (w : World) : Calls Tryz.prog 90 #[.int .u8 p] w fun e W' => e = .returned (.tuple #[.int .i64 ((bits p 5).headD 0), .bool (!(bits p 5).isEmpty)]) ∧ Below w.heap.size w W' :=
  callsIn_wide.1 (first_in Fence.wide 3 trivial trivial trivial rfl (Nat.le_refl _) p w)
end Go.Proofs.YtgkoghgiclkbhaaGreatDoor.It
