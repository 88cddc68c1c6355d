/- Contracts of Go functions of this seat: each Lean function here is what the Go function of its name answers, in every memory; no condition but the equations that each theorem states. Written by a program of this session (wip/given.py); Lean checks it. -/
import Derived.Test.YtmigbinllnejoaaPx0
import Derived.Test.YtmigbinllnejoaaPx1
import Derived.Test.YtmigbinllnejoaaPx3
import Derived.Test.YtmigbinllnejoaaPx4
import Derived.Test.YtmigbinllnejoaaPx5
namespace Go.Proofs.Ytmigbinllnejoaa.P
open Go.RowKit Go.Proofs.YtmigbinllnejoaaW.PrintWords Go.Proofs.YtmigbinllnejoaaW.PrintLast Go.Proofs.YtmigbinllnejoaaW.PrintMore
attribute [local go_sem] max2_int min2_int max_two min_two max_three min_three max_four min_four   -- for this text's walks alone
set_option linter.unusedVariables false
set_option linter.unusedSimpArgs false

/-! ### whirligiglaw17_shown: function 10 -/
theorem at_world {P : Program} {c : Code} {Q : Exit → Act → World → Prop} {a : Act} (W : World) (F : World → Prop) (hf : F W) (h : ∀ W', F W' → c.wp P Q a W') : c.wp P Q a W := h W hf
theorem at_end {P : Program} {fn : Func} {R : Ending → World → Prop} {x : Exit} {a : Act} (W : World) (F : World → Prop) (hf : F W) (h : ∀ W', F W' → bodyPost P fn R x a W') : bodyPost P fn R x a W := h W hf
theorem via {w : World} {g : Nat} {t : TypeId} {cs cs' : Array Value} (h : w.heap[g]? = some (.cells cs t (0, 0))) (e : cs = cs') : w.heap[g]? = some (.cells cs' t (0, 0)) := e ▸ h
theorem blk_new_at (w : World) (o : Obj) (g : Nat) (hg : w.heap.size = g) : (w.alloc o).heap[g]? = some o := hg ▸ blk_new w o
def px (lo hi n : Int) : Int := (tiles_Pixel.f lo hi n).getD 0
theorem px_some (lo hi n : Int) (h0 : 0 ≤ n) (h1 : n ≤ 7) : tiles_Pixel.f lo hi n = some (px lo hi n) := by
  have e : wrap64 (7 - n) = 7 - n := by unfold wrap64; omega
  unfold px tiles_Pixel.f
  rw [if_neg (by omega), if_neg (by omega), e, if_pos (by omega)]
  rfl
set_option maxHeartbeats 4000000 in
set_option maxRecDepth 100000 in
theorem row_calls (lo hi : Int) (w : World) :
    Calls Try.prog 13 #[.int .u8 lo, .int .u8 hi] w fun e w' => e = .returned (.agg #[.int .u8 (px lo hi 0), .int .u8 (px lo hi 1), .int .u8 (px lo hi 2), .int .u8 (px lo hi 3), .int .u8 (px lo hi 4), .int .u8 (px lo hi 5), .int .u8 (px lo hi 6), .int .u8 (px lo hi 7)]) ∧ Below w.heap.size w w' := by
  go_enter Try.func13, Try.ntmps13
  go_wp2
  refine wp_loop_rounds 9 ?_
  rw [rounds_succ]
  go_wp2_with fail
  refine (tiles_Pixel.calls lo hi 0 (px lo hi 0) _ (px_some lo hi 0 (by omega) (by omega))).mono ?_
  rintro e w0 ⟨rfl, ⟨nd0, rfl⟩⟩
  go_wp2_with fail
  rw [rounds_succ]
  go_wp2_with fail
  refine (tiles_Pixel.calls lo hi 1 (px lo hi 1) _ (px_some lo hi 1 (by omega) (by omega))).mono ?_
  rintro e w1 ⟨rfl, ⟨nd1, rfl⟩⟩
  go_wp2_with fail
  rw [rounds_succ]
  go_wp2_with fail
  refine (tiles_Pixel.calls lo hi 2 (px lo hi 2) _ (px_some lo hi 2 (by omega) (by omega))).mono ?_
  rintro e w2 ⟨rfl, ⟨nd2, rfl⟩⟩
  go_wp2_with fail
  rw [rounds_succ]
  go_wp2_with fail
  refine (tiles_Pixel.calls lo hi 3 (px lo hi 3) _ (px_some lo hi 3 (by omega) (by omega))).mono ?_
  rintro e w3 ⟨rfl, ⟨nd3, rfl⟩⟩
  go_wp2_with fail
  rw [rounds_succ]
  go_wp2_with fail
  refine (tiles_Pixel.calls lo hi 4 (px lo hi 4) _ (px_some lo hi 4 (by omega) (by omega))).mono ?_
  rintro e w4 ⟨rfl, ⟨nd4, rfl⟩⟩
  go_wp2_with fail
  rw [rounds_succ]
  go_wp2_with fail
  refine (tiles_Pixel.calls lo hi 5 (px lo hi 5) _ (px_some lo hi 5 (by omega) (by omega))).mono ?_
  rintro e w5 ⟨rfl, ⟨nd5, rfl⟩⟩
  go_wp2_with fail
  rw [rounds_succ]
  go_wp2_with fail
  refine (tiles_Pixel.calls lo hi 6 (px lo hi 6) _ (px_some lo hi 6 (by omega) (by omega))).mono ?_
  rintro e w6 ⟨rfl, ⟨nd6, rfl⟩⟩
  go_wp2_with fail
  rw [rounds_succ]
  go_wp2_with fail
  refine (tiles_Pixel.calls lo hi 7 (px lo hi 7) _ (px_some lo hi 7 (by omega) (by omega))).mono ?_
  rintro e w7 ⟨rfl, ⟨nd7, rfl⟩⟩
  go_wp2_with fail
  rw [rounds_succ]
  go_wp2
  refine at_end _ (fun W2 => W2.heap[w.heap.size]? = some (.cells #[.int .u8 (px lo hi 0), .int .u8 (px lo hi 1), .int .u8 (px lo hi 2), .int .u8 (px lo hi 3), .int .u8 (px lo hi 4), .int .u8 (px lo hi 5), .int .u8 (px lo hi 6), .int .u8 (px lo hi 7)] 24 (0, 0)) ∧ Below w.heap.size w W2) ?hf2 ?hg2
  case hf2 =>
    refine ⟨?_, ?_⟩
    · (apply via; (focus (repeat first | (with_reducible assumption) | (with_reducible apply blk_drew) | (with_reducible apply blk_drewN) | (focus ((with_reducible apply blk_new_at); first | rfl | (simp; done))) | (with_reducible apply blk_alloc) | (focus ((with_reducible apply blk_far); rotate_left; first | omega | (dsimp only; omega))) | (with_reducible apply blk_set))); all_goals rfl)
    · (repeat first | (with_reducible assumption) | (with_reducible exact Below.refl _ _) | (with_reducible refine Below.drew ?_) | (with_reducible apply pw_below_drewN) | ((with_reducible refine Below.alloc ?_ ?_ _); rotate_left; first | omega | (focus (simp; done)) | (focus (simp; omega))) | ((with_reducible refine Below.setCell ?_ ?_ _); rotate_left; first | omega | (dsimp only; omega)))
  case hg2 =>
    rintro W2 ⟨r1, hB2⟩
    refine bodyPost_ret (results_cell_row rfl _ _ w.heap.size 24 _ (0, 0) _ rfl r1 Try.underlying24 rfl (by kernel_rfl)) rfl ?_
    exact ⟨rfl, hB2⟩
theorem px60 : px 60 126 0 = 0 ∧ px 60 126 1 = 2 ∧ px 60 126 2 = 3 ∧ px 60 126 3 = 3 ∧ px 60 126 4 = 3 ∧ px 60 126 5 = 3 ∧ px 60 126 6 = 2 ∧ px 60 126 7 = 0 := by decide +kernel
theorem row60 (w : World) : Calls Try.prog 13 #[.int .u8 60, .int .u8 126] w fun e w' => e = .returned (.agg #[.int .u8 0, .int .u8 2, .int .u8 3, .int .u8 3, .int .u8 3, .int .u8 3, .int .u8 2, .int .u8 0]) ∧ Below w.heap.size w w' := by
  have h := row_calls 60 126 w
  obtain ⟨h0, h1, h2, h3, h4, h5, h6, h7⟩ := px60
  rw [h0, h1, h2, h3, h4, h5, h6, h7] at h
  exact h
def whirligiglaw17_shown.f : Option (Bool) := some true
set_option maxHeartbeats 1000000 in
set_option maxRecDepth 100000 in
theorem whirligiglaw17_shown.calls (r : Bool) (w : World) (h : whirligiglaw17_shown.f = some r) :
    Calls Try.prog 10 #[] w fun e w' => e = .returned (.bool r) ∧ Below w.heap.size w w' := by
  obtain rfl := Option.some.inj h
  have heq : ∀ w : World, (Op.equalIn 10000 24 (.agg #[.int .u8 0, .int .u8 2, .int .u8 3, .int .u8 3, .int .u8 3, .int .u8 3, .int .u8 2, .int .u8 0]) (.agg #[.int .u8 0, .int .u8 2, .int .u8 3, .int .u8 3, .int .u8 3, .int .u8 3, .int .u8 2, .int .u8 0])).run Try.prog w = .ok true w := fun _ => by kernel_rfl
  go_enter Try.func10, Try.ntmps10
  go_wp2_with fail
  refine (row60 _).mono ?_
  rintro e w1 ⟨rfl, hb⟩
  go_wp2_with fail
  refine (tiles_Place.calls 1 false 3 22 _ (by decide +kernel)).mono ?_
  rintro e w2 ⟨rfl, ⟨n2, rfl⟩⟩
  go_wp2_with fail
  refine (tiles_Place.calls 255 true 0 4080 _ (by decide +kernel)).mono ?_
  rintro e w3 ⟨rfl, ⟨n3, rfl⟩⟩
  go_wp2_with fail
  refine (tiles_Cell.calls true 8 16 7233 _ (by decide +kernel)).mono ?_
  rintro e w4 ⟨rfl, ⟨n4, rfl⟩⟩
  go_wp2_with fail
  refine (tiles_Shade.calls 228 2 2 _ (by decide +kernel)).mono ?_
  rintro e w5 ⟨rfl, ⟨n5, rfl⟩⟩
  go_wp2
  go_ret
  exact ⟨rfl, by repeat (first | exact hb | apply pw_below_drewN | apply below_drew1)⟩

end Go.Proofs.Ytmigbinllnejoaa.P
