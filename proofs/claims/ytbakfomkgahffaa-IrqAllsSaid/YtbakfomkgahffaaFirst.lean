/- irq.First: it hands back the least number of a bit that is set, or that there is none. No condition. -/
import Derived.Test.YtbakfomkgahffaaIter
namespace Go.Proofs.Ytbakfomkgahffaa.It
open Go.RowKit Go.Shelf
set_option linter.unusedVariables false
set_option linter.unusedSimpArgs false
attribute [local go_sem] Oper.semAt_some

set_option maxRecDepth 100000 in
set_option maxHeartbeats 4000000 in
theorem first_in (F : Fence) (n : Nat) (h10 : F.fn 10) (h15 : F.fn 15) (h28 : F.fn 28) (hro : F.round = none) (hn : 3 ≤ n) (p : Int) (w : World) :
    CallsIn F n Try.prog 10 #[.int .u8 p] w fun e W' => e = .returned (.tuple #[.int .i64 ((bits p 5).headD 0), .bool (!(bits p 5).isEmpty)]) ∧ Below w.heap.size w W' := by
  have h1 : 1 ≤ n := by omega
  refine callsIn_of_wp_marks Try.func10 rfl h10 ?_ hro
  simp only [Try.ntmps10, List.size_toArray, List.length_cons, List.length_nil, Nat.reduceAdd, Nat.reduceSub, Array.replicate_succ, Array.replicate_zero, List.push_toArray, List.append_toArray, List.nil_append, List.cons_append]
  gi_wp2_with (gi_at_call 15; refine (all_in F (n - 1) h15 hro _ _).mono ?_; rintro e w' ⟨rfl, rfl⟩)
  have c0 := cell_new_l w (.int .i64 0) 3
  have c1 := cell_new_l (w.alloc (.cells #[.int .i64 0] 3)) (.bool false) 4
  have c2 := cell_new_l ((w.alloc (.cells #[.int .i64 0] 3)).alloc (.cells #[.bool false] 4)) (.int .u8 p) 5
  simp only [World.size_alloc] at c1 c2
  have hB0 : Below w.heap.size w (((w.alloc (.cells #[.int .i64 0] 3)).alloc (.cells #[.bool false] 4)).alloc (.cells #[.int .u8 p] 5)) := (((Below.refl _ w).alloc (Nat.le_refl _) _).alloc (by simp) _).alloc (by simp; omega) _
  refine wpIn_rangeFunc_ownF hro h1 (gf := 28) (lb := #[.pointer (some ⟨w.heap.size + 1 + 1, 0, none⟩)]) rfl h28 (enters_of Try.func28 (by kernel_rfl) rfl)
    (all_stops F (n - 1) h28 hro (by omega) (w.heap.size + 1 + 1) p _ (by simp) c2.1)
    (fun h k v e => k v (h v e)) (fun W l o o' hl ho hc _ v e => (World.cell?_of_block (World.putObj_heap_other (by simp at hl ⊢; omega))).trans e) (Below.refl _ _) (fun _ => rfl)
    (fun pre W => (pre = [] ∧ W.cell? ⟨w.heap.size, 0, none⟩ = some (.int .i64 0) ∧ W.frozen? ⟨w.heap.size, 0, none⟩ = false ∧ W.cell? ⟨w.heap.size + 1, 0, none⟩ = some (.bool false) ∧ W.frozen? ⟨w.heap.size + 1, 0, none⟩ = false) ∧ Below w.heap.size w W)
    (fun c pre W => (c = .ret ∧ ∃ x, pre = [x] ∧ W.cell? ⟨w.heap.size, 0, none⟩ = some (.int .i64 x) ∧ W.cell? ⟨w.heap.size + 1, 0, none⟩ = some (.bool true)) ∧ Below w.heap.size w W)
    (OwnFrom.and (Own.from (fun s A B row hs hg hr => ⟨hs.1, cell_kept hs.2.1 hg hr, (frozen_kept hs.2.1 hg hr).trans hs.2.2.1, cell_kept hs.2.2.2.1 hg hr, (frozen_kept hs.2.2.2.1 hg hr).trans hs.2.2.2.2⟩) _) (ownFrom_below (Nat.le_refl _) (by simp; omega)))
    (fun c => OwnFrom.and (Own.from (fun s A B row hs hg hr => by obtain ⟨h1, x, h2, h3, h4⟩ := hs; exact ⟨h1, x, h2, cell_kept h3 hg hr, cell_kept h4 hg hr⟩) _) (ownFrom_below (Nat.le_refl _) (by simp; omega)))
    ⟨⟨rfl, cell_alloc_l _ (cell_alloc_l _ c0.1), frozen_alloc_l _ (cell_alloc_l _ c0.1) (frozen_alloc_l _ c0.1 c0.2), cell_alloc_l _ c1.1, frozen_alloc_l _ c1.1 c1.2⟩, hB0⟩
    (fun x => { tmps := #[.int .u8 p, undef, .pointer (some ⟨w.heap.size, 0, none⟩), .pointer (some ⟨w.heap.size + 1, 0, none⟩), .int .i64 x, .int .u8 p, .func (.func 28) #[] #[.pointer (some ⟨w.heap.size + 1 + 1, 0, none⟩)], .int .i64 x, undef], defers := [] }) ?assign ?body ?done ?stop
  case assign =>
    intro l x W K hK
    gi_wp2
    exact hK
  case body =>
    rintro l pre x W ⟨⟨rfl, hc0, hf0, hc1, hf1⟩, hB⟩ _
    gi_wp2
    refine ⟨(KeepsOthers.setCell _ _ _).trans (KeepsOthers.setCell _ _ _), ⟨rfl, x, rfl, ?_, ?_⟩, (hB.setCell (p := ⟨w.heap.size, 0, none⟩) (by simp) _).setCell (p := ⟨w.heap.size + 1, 0, none⟩) (by simp) _⟩
    · exact (World.cell?_setCell_other _ _ _ _ (by simp)).trans (World.cell?_setCell_same' _ _ _ (by rw [hc0]; rfl))
    · exact World.cell?_setCell_same' _ _ _ (by rw [World.cell?_setCell_other _ _ _ _ (by simp), hc1]; rfl)
  case done =>
    rintro D ys W hD hys ⟨⟨rfl, hc0, hf0, hc1, hf1⟩, hB⟩ hK
    gi_wp2
    have hK' := ((KeepsOthers.setCell W ⟨w.heap.size, 0, none⟩ (.int .i64 0)).trans (KeepsOthers.setCell _ ⟨w.heap.size + 1, 0, none⟩ (.bool false))).same D _ hK rfl
    refine ⟨by simp, .inl ⟨_, _, rfl, run_takeDeferred hK', ?_⟩⟩
    have d0 := cell_kept ((World.cell?_setCell_other (W.setCell ⟨w.heap.size, 0, none⟩ (.int .i64 0)) ⟨w.heap.size + 1, 0, none⟩ ⟨w.heap.size, 0, none⟩ (.bool false) (by simp)).trans (World.cell?_setCell_same' W ⟨w.heap.size, 0, none⟩ (.int .i64 0) (by rw [hc0]; rfl))) (grownBy_putObj' _ D (.deferred none)) (fun r e => by cases e; exact ⟨_, hK', rfl⟩)
    have d1 := cell_kept (World.cell?_setCell_same' (W.setCell ⟨w.heap.size, 0, none⟩ (.int .i64 0)) ⟨w.heap.size + 1, 0, none⟩ (.bool false) (by rw [World.cell?_setCell_other _ _ _ _ (by simp), hc1]; rfl)) (grownBy_putObj' _ D (.deferred none)) (fun r e => by cases e; exact ⟨_, hK', rfl⟩)
    refine ⟨.tuple #[.int .i64 0, .bool false], ?_, by rw [← hys]; rfl, ((hB.setCell (p := ⟨w.heap.size, 0, none⟩) (by simp) _).setCell (p := ⟨w.heap.size + 1, 0, none⟩) (by simp) _).trans (belowK_b (w := w) (Nat.le_refl _) _ D _ _ (by simp at hD; omega) hK' rfl rfl)⟩
    simp [results, Try.f10, go_sem, d0, d1]
  case stop =>
    rintro D c pre W hD hpre ⟨⟨rfl, x, rfl, hc0, hc1⟩, hB⟩ hK
    gi_wp2
    refine ⟨by simp, .inl ⟨_, _, rfl, run_takeDeferred hK, ?_⟩⟩
    have d0 := cell_kept hc0 (grownBy_putObj' _ D (.deferred none)) (fun r e => by cases e; exact ⟨_, hK, rfl⟩)
    have d1 := cell_kept hc1 (grownBy_putObj' _ D (.deferred none)) (fun r e => by cases e; exact ⟨_, hK, rfl⟩)
    obtain ⟨ys, hys⟩ := hpre
    refine ⟨.tuple #[.int .i64 x, .bool true], ?_, by rw [← hys]; rfl, hB.trans (belowK_b (w := w) (Nat.le_refl _) W D _ _ (by simp at hD; omega) hK rfl rfl)⟩
    simp [results, Try.f10, go_sem, d0, d1]

theorem first_calls (p : Int) (w : World) : Calls Try.prog 10 #[.int .u8 p] w fun e W' => e = .returned (.tuple #[.int .i64 ((bits p 5).headD 0), .bool (!(bits p 5).isEmpty)]) ∧ Below w.heap.size w W' :=
  callsIn_wide.1 (first_in Fence.wide 3 trivial trivial trivial rfl (Nat.le_refl _) p w)
end Go.Proofs.Ytbakfomkgahffaa.It
