/- The walk of whirligiglaw17.TilesBack. No condition but the equations that stand in it. -/
import Derived.Test.YtmigbinllnejoaaPx6
import Derived.Deep.RegionHeld3
namespace Go.Proofs.Ytmigbinllnejoaa.P
open Go.RowKit Go.Proofs.YtmigbinllnejoaaW.PrintWords Go.Proofs.YtmigbinllnejoaaW.PrintLast Go.Proofs.YtmigbinllnejoaaW.PrintMore
set_option linter.unusedVariables false
set_option linter.unusedSimpArgs false
set_option maxHeartbeats 4000000 in
set_option maxRecDepth 100000 in
theorem back_walk (lo hi : Int) (w : World) (hs : whirligiglaw17_shown.f = some true)
    (g0 : decide (3 < px lo hi 0) = false) (A1 B1 : Int) (hB0 : Int.tdiv (px lo hi 0) 2 % 256 = B1) (hA0 : wrap64 (wrap64 (Int.tmod (px lo hi 0) 2)) = A1)
    (g1 : decide (3 < px lo hi 1) = false) (A2 B2 : Int) (hB1 : 2 * B1 + Int.tdiv (px lo hi 1) 2 % 256 = B2) (hA1 : wrap64 (wrap64 (2 * A1) + wrap64 (Int.tmod (px lo hi 1) 2)) = A2)
    (g2 : decide (3 < px lo hi 2) = false) (A3 B3 : Int) (hB2 : 2 * B2 + Int.tdiv (px lo hi 2) 2 % 256 = B3) (hA2 : wrap64 (wrap64 (2 * A2) + wrap64 (Int.tmod (px lo hi 2) 2)) = A3)
    (g3 : decide (3 < px lo hi 3) = false) (A4 B4 : Int) (hB3 : 2 * B3 + Int.tdiv (px lo hi 3) 2 % 256 = B4) (hA3 : wrap64 (wrap64 (2 * A3) + wrap64 (Int.tmod (px lo hi 3) 2)) = A4)
    (g4 : decide (3 < px lo hi 4) = false) (A5 B5 : Int) (hB4 : 2 * B4 + Int.tdiv (px lo hi 4) 2 % 256 = B5) (hA4 : wrap64 (wrap64 (2 * A4) + wrap64 (Int.tmod (px lo hi 4) 2)) = A5)
    (g5 : decide (3 < px lo hi 5) = false) (A6 B6 : Int) (hB5 : 2 * B5 + Int.tdiv (px lo hi 5) 2 % 256 = B6) (hA5 : wrap64 (wrap64 (2 * A5) + wrap64 (Int.tmod (px lo hi 5) 2)) = A6)
    (g6 : decide (3 < px lo hi 6) = false) (A7 B7 : Int) (hB6 : 2 * B6 + Int.tdiv (px lo hi 6) 2 % 256 = B7) (hA6 : wrap64 (wrap64 (2 * A6) + wrap64 (Int.tmod (px lo hi 6) 2)) = A7)
    (g7 : decide (3 < px lo hi 7) = false) (A8 B8 : Int) (hB7 : 2 * B7 + Int.tdiv (px lo hi 7) 2 % 256 = B8) (hA7 : wrap64 (wrap64 (2 * A7) + wrap64 (Int.tmod (px lo hi 7) 2)) = A8)
    (eA : (A8 == wrap64 lo) = true) (eB : (B8 == wrap64 hi) = true) :
    Calls Try.prog 5 #[.int .u8 lo, .int .u8 hi] w fun e w' => e = .returned (.bool true) ∧ Below w.heap.size w w' := by
  go_enter Try.func5, Try.ntmps5
  go_wp2_with fail
  refine (whirligiglaw17_shown.calls true _ hs).mono ?_
  rintro e w1 ⟨rfl, b1⟩
  go_wp2_with fail
  refine (row_calls lo hi _).mono ?_
  rintro e w2 ⟨rfl, b2⟩
  go_wp2_with fail
  have hB := below_step b1 b2
  have hW := blk_new w2 (.cells #[.int .u8 (px lo hi 0), .int .u8 (px lo hi 1), .int .u8 (px lo hi 2), .int .u8 (px lo hi 3), .int .u8 (px lo hi 4), .int .u8 (px lo hi 5), .int .u8 (px lo hi 6), .int .u8 (px lo hi 7)] 24 (0, 0))
  have hB2 : Below w.heap.size w (w2.alloc (.cells #[.int .u8 (px lo hi 0), .int .u8 (px lo hi 1), .int .u8 (px lo hi 2), .int .u8 (px lo hi 3), .int .u8 (px lo hi 4), .int .u8 (px lo hi 5), .int .u8 (px lo hi 6), .int .u8 (px lo hi 7)] 24 (0, 0))) := below_alloc hB _
  generalize hWW : w2.alloc (.cells #[.int .u8 (px lo hi 0), .int .u8 (px lo hi 1), .int .u8 (px lo hi 2), .int .u8 (px lo hi 3), .int .u8 (px lo hi 4), .int .u8 (px lo hi 5), .int .u8 (px lo hi 6), .int .u8 (px lo hi 7)] 24 (0, 0)) = W at hW hB2 ⊢
  clear hWW hB
  generalize w2.heap.size = g at hW ⊢
  have c0 : W.cell? ⟨g, 0, none⟩ = some (.int .u8 (px lo hi 0)) := by rw [blk_cell hW 0]; rfl
  have c1 : W.cell? ⟨g, 1, none⟩ = some (.int .u8 (px lo hi 1)) := by rw [blk_cell hW 1]; rfl
  have c2 : W.cell? ⟨g, 2, none⟩ = some (.int .u8 (px lo hi 2)) := by rw [blk_cell hW 2]; rfl
  have c3 : W.cell? ⟨g, 3, none⟩ = some (.int .u8 (px lo hi 3)) := by rw [blk_cell hW 3]; rfl
  have c4 : W.cell? ⟨g, 4, none⟩ = some (.int .u8 (px lo hi 4)) := by rw [blk_cell hW 4]; rfl
  have c5 : W.cell? ⟨g, 5, none⟩ = some (.int .u8 (px lo hi 5)) := by rw [blk_cell hW 5]; rfl
  have c6 : W.cell? ⟨g, 6, none⟩ = some (.int .u8 (px lo hi 6)) := by rw [blk_cell hW 6]; rfl
  have c7 : W.cell? ⟨g, 7, none⟩ = some (.int .u8 (px lo hi 7)) := by rw [blk_cell hW 7]; rfl
  refine wp_loop_rounds 9 ?_
  rw [rounds_succ]
  go_wp2_with fail
  go_region_held3 (fun w' => w'.cell? ⟨g, 0, none⟩ = some (.int .u8 (px lo hi 0))) (first | assumption | go_keep) (first | (go_at_call 11; refine (tiles_Pixel.calls lo hi 0 (px lo hi 0) _ (px_some lo hi 0 (by omega) (by omega))).mono ?_; rintro e w' ⟨rfl, ⟨nd0, rfl⟩⟩))
  go_wp2_with fail
  rw [rounds_succ]
  go_wp2_with fail
  go_region_held3 (fun w' => w'.cell? ⟨g, 1, none⟩ = some (.int .u8 (px lo hi 1))) (first | assumption | go_keep) (first | (go_at_call 11; refine (tiles_Pixel.calls lo hi 1 (px lo hi 1) _ (px_some lo hi 1 (by omega) (by omega))).mono ?_; rintro e w' ⟨rfl, ⟨nd1, rfl⟩⟩))
  go_wp2_with fail
  rw [rounds_succ]
  go_wp2_with fail
  go_region_held3 (fun w' => w'.cell? ⟨g, 2, none⟩ = some (.int .u8 (px lo hi 2))) (first | assumption | go_keep) (first | (go_at_call 11; refine (tiles_Pixel.calls lo hi 2 (px lo hi 2) _ (px_some lo hi 2 (by omega) (by omega))).mono ?_; rintro e w' ⟨rfl, ⟨nd2, rfl⟩⟩))
  go_wp2_with fail
  rw [rounds_succ]
  go_wp2_with fail
  go_region_held3 (fun w' => w'.cell? ⟨g, 3, none⟩ = some (.int .u8 (px lo hi 3))) (first | assumption | go_keep) (first | (go_at_call 11; refine (tiles_Pixel.calls lo hi 3 (px lo hi 3) _ (px_some lo hi 3 (by omega) (by omega))).mono ?_; rintro e w' ⟨rfl, ⟨nd3, rfl⟩⟩))
  go_wp2_with fail
  rw [rounds_succ]
  go_wp2_with fail
  go_region_held3 (fun w' => w'.cell? ⟨g, 4, none⟩ = some (.int .u8 (px lo hi 4))) (first | assumption | go_keep) (first | (go_at_call 11; refine (tiles_Pixel.calls lo hi 4 (px lo hi 4) _ (px_some lo hi 4 (by omega) (by omega))).mono ?_; rintro e w' ⟨rfl, ⟨nd4, rfl⟩⟩))
  go_wp2_with fail
  rw [rounds_succ]
  go_wp2_with fail
  go_region_held3 (fun w' => w'.cell? ⟨g, 5, none⟩ = some (.int .u8 (px lo hi 5))) (first | assumption | go_keep) (first | (go_at_call 11; refine (tiles_Pixel.calls lo hi 5 (px lo hi 5) _ (px_some lo hi 5 (by omega) (by omega))).mono ?_; rintro e w' ⟨rfl, ⟨nd5, rfl⟩⟩))
  go_wp2_with fail
  rw [rounds_succ]
  go_wp2_with fail
  go_region_held3 (fun w' => w'.cell? ⟨g, 6, none⟩ = some (.int .u8 (px lo hi 6))) (first | assumption | go_keep) (first | (go_at_call 11; refine (tiles_Pixel.calls lo hi 6 (px lo hi 6) _ (px_some lo hi 6 (by omega) (by omega))).mono ?_; rintro e w' ⟨rfl, ⟨nd6, rfl⟩⟩))
  go_wp2_with fail
  rw [rounds_succ]
  go_wp2_with fail
  go_region_held3 (fun w' => w'.cell? ⟨g, 7, none⟩ = some (.int .u8 (px lo hi 7))) (first | assumption | go_keep) (first | (go_at_call 11; refine (tiles_Pixel.calls lo hi 7 (px lo hi 7) _ (px_some lo hi 7 (by omega) (by omega))).mono ?_; rintro e w' ⟨rfl, ⟨nd7, rfl⟩⟩))
  go_wp2_with fail
  rw [rounds_succ]
  go_wp2_with fail
  go_ret
  exact ⟨rfl, pw_below_drewN hB2 _⟩
end Go.Proofs.Ytmigbinllnejoaa.P
