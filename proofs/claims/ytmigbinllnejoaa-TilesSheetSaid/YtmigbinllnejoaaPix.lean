/- The reference's row of eight pixels, equality of rows, and the walk of whirligiglaw17.TilesPixels. No condition but the equations that stand in each. -/
import Derived.Test.YtmigbinllnejoaaPx6
import Derived.Test.YtmigbinllnejoaaPx10
namespace Go.Proofs.Ytmigbinllnejoaa.P
open Go.RowKit Go.Proofs.YtmigbinllnejoaaW.PrintWords Go.Proofs.YtmigbinllnejoaaW.PrintLast Go.Proofs.YtmigbinllnejoaaW.PrintMore
set_option linter.unusedVariables false
set_option linter.unusedSimpArgs false
def wx (q : Int → Int) (lo hi n : Int) : Int := q n
set_option maxHeartbeats 4000000 in
set_option maxRecDepth 100000 in
theorem rrow_calls (lo hi : Int) (w : World) (k : Nat) (q : Int → Int) (hq : ∀ n : Int, 0 ≤ n → n ≤ 7 → whirligigref17_Pixel.f k lo hi n = some (q n)) :
    Calls Try.prog 14 #[.int .u8 lo, .int .u8 hi] w fun e w' => e = .returned (.agg #[.int .u8 (wx q lo hi 0), .int .u8 (wx q lo hi 1), .int .u8 (wx q lo hi 2), .int .u8 (wx q lo hi 3), .int .u8 (wx q lo hi 4), .int .u8 (wx q lo hi 5), .int .u8 (wx q lo hi 6), .int .u8 (wx q lo hi 7)]) ∧ Below w.heap.size w w' := by
  go_enter Try.func14, Try.ntmps14
  go_wp2
  refine wp_loop_rounds 9 ?_
  rw [rounds_succ]
  go_wp2_with fail
  refine (whirligigref17_Pixel.calls k lo hi 0 (wx q lo hi 0) _ (hq 0 (by omega) (by omega))).mono ?_
  rintro e w0 ⟨rfl, ⟨nd0, rfl⟩⟩
  go_wp2_with fail
  rw [rounds_succ]
  go_wp2_with fail
  refine (whirligigref17_Pixel.calls k lo hi 1 (wx q lo hi 1) _ (hq 1 (by omega) (by omega))).mono ?_
  rintro e w1 ⟨rfl, ⟨nd1, rfl⟩⟩
  go_wp2_with fail
  rw [rounds_succ]
  go_wp2_with fail
  refine (whirligigref17_Pixel.calls k lo hi 2 (wx q lo hi 2) _ (hq 2 (by omega) (by omega))).mono ?_
  rintro e w2 ⟨rfl, ⟨nd2, rfl⟩⟩
  go_wp2_with fail
  rw [rounds_succ]
  go_wp2_with fail
  refine (whirligigref17_Pixel.calls k lo hi 3 (wx q lo hi 3) _ (hq 3 (by omega) (by omega))).mono ?_
  rintro e w3 ⟨rfl, ⟨nd3, rfl⟩⟩
  go_wp2_with fail
  rw [rounds_succ]
  go_wp2_with fail
  refine (whirligigref17_Pixel.calls k lo hi 4 (wx q lo hi 4) _ (hq 4 (by omega) (by omega))).mono ?_
  rintro e w4 ⟨rfl, ⟨nd4, rfl⟩⟩
  go_wp2_with fail
  rw [rounds_succ]
  go_wp2_with fail
  refine (whirligigref17_Pixel.calls k lo hi 5 (wx q lo hi 5) _ (hq 5 (by omega) (by omega))).mono ?_
  rintro e w5 ⟨rfl, ⟨nd5, rfl⟩⟩
  go_wp2_with fail
  rw [rounds_succ]
  go_wp2_with fail
  refine (whirligigref17_Pixel.calls k lo hi 6 (wx q lo hi 6) _ (hq 6 (by omega) (by omega))).mono ?_
  rintro e w6 ⟨rfl, ⟨nd6, rfl⟩⟩
  go_wp2_with fail
  rw [rounds_succ]
  go_wp2_with fail
  refine (whirligigref17_Pixel.calls k lo hi 7 (wx q lo hi 7) _ (hq 7 (by omega) (by omega))).mono ?_
  rintro e w7 ⟨rfl, ⟨nd7, rfl⟩⟩
  go_wp2_with fail
  rw [rounds_succ]
  go_wp2
  refine at_end _ (fun W2 => W2.heap[w.heap.size]? = some (.cells #[.int .u8 (wx q lo hi 0), .int .u8 (wx q lo hi 1), .int .u8 (wx q lo hi 2), .int .u8 (wx q lo hi 3), .int .u8 (wx q lo hi 4), .int .u8 (wx q lo hi 5), .int .u8 (wx q lo hi 6), .int .u8 (wx q lo hi 7)] 24 (0, 0)) ∧ Below w.heap.size w W2) ?hf2 ?hg2
  case hf2 =>
    refine ⟨?_, ?_⟩
    · (apply via; (focus (repeat first | (with_reducible assumption) | (with_reducible apply blk_drew) | (with_reducible apply blk_drewN) | (focus ((with_reducible apply blk_new_at); first | rfl | (simp; done))) | (with_reducible apply blk_alloc) | (focus ((with_reducible apply blk_far); rotate_left; first | omega | (dsimp only; omega))) | (with_reducible apply blk_set))); all_goals rfl)
    · (repeat first | (with_reducible assumption) | (with_reducible exact Below.refl _ _) | (with_reducible refine Below.drew ?_) | (with_reducible apply pw_below_drewN) | ((with_reducible refine Below.alloc ?_ ?_ _); rotate_left; first | omega | (focus (simp; done)) | (focus (simp; omega))) | ((with_reducible refine Below.setCell ?_ ?_ _); rotate_left; first | omega | (dsimp only; omega)))
  case hg2 =>
    rintro W2 ⟨r1, hB2⟩
    refine bodyPost_ret (results_cell_row rfl _ _ w.heap.size 24 _ (0, 0) _ rfl r1 Try.underlying24 rfl (by kernel_rfl)) rfl ?_
    exact ⟨rfl, hB2⟩
set_option maxHeartbeats 4000000 in
theorem eq24 (x0 x1 x2 x3 x4 x5 x6 x7 : Int) (w : World) : (Op.equalIn 10000 24 (.agg #[.int .u8 x0, .int .u8 x1, .int .u8 x2, .int .u8 x3, .int .u8 x4, .int .u8 x5, .int .u8 x6, .int .u8 x7]) (.agg #[.int .u8 x0, .int .u8 x1, .int .u8 x2, .int .u8 x3, .int .u8 x4, .int .u8 x5, .int .u8 x6, .int .u8 x7])).run Try.prog w = .ok true w := by
  have u5 := Try.underlying5
  have a5 := Try.isAgg5
  have z5 := Try.sizeOf5
  rw [show (10000 : Nat) = 9999 + 1 from rfl, Op.equalIn]
  simp only [Sem.run_bind, run_underlying Try.underlying24, Result.andThen_ok]
  simp only [Std.Legacy.Range.forIn_eq_forIn_range', Std.Legacy.Range.size, Nat.sub_zero, Nat.add_sub_cancel, Nat.div_one, List.range'_succ, List.range'_zero, List.forIn_cons, List.forIn_nil]
  go_simp
  try simp
set_option maxHeartbeats 4000000 in
set_option maxRecDepth 100000 in
theorem pixels_walk (lo hi n p : Int) (w : World) (k : Nat) (hs : whirligiglaw17_shown.f = some true) (h1 : tiles_Pixel.f lo hi n = some p) (h2 : whirligigref17_Pixel.f k lo hi n = some p)
    (hq : ∀ n : Int, 0 ≤ n → n ≤ 7 → whirligigref17_Pixel.f k lo hi n = some (px lo hi n)) :
    Calls Try.prog 3 #[.int .u8 lo, .int .u8 hi, .int .i64 n] w fun e w' => e = .returned (.bool true) ∧ Below w.heap.size w w' := by
  go_enter Try.func3, Try.ntmps3
  go_wp2_with fail
  refine (whirligiglaw17_shown.calls true _ hs).mono ?_
  rintro e w1 ⟨rfl, b1⟩
  go_wp2_with fail
  refine (tiles_Pixel.calls _ _ _ p _ h1).mono ?_
  rintro e w2 ⟨rfl, ⟨nd2, rfl⟩⟩
  go_wp2_with fail
  refine (whirligigref17_Pixel.calls k _ _ _ p _ h2).mono ?_
  rintro e w2 ⟨rfl, ⟨nd3, rfl⟩⟩
  go_wp2_with fail
  refine (row_calls lo hi _).mono ?_
  rintro e w2 ⟨rfl, b2⟩
  go_wp2_with fail
  refine (rrow_calls lo hi _ k (px lo hi) hq).mono ?_
  rintro e w3 ⟨rfl, b3⟩
  have heq := eq24 (px lo hi 0) (px lo hi 1) (px lo hi 2) (px lo hi 3) (px lo hi 4) (px lo hi 5) (px lo hi 6) (px lo hi 7)
  simp only [wx]
  go_wp2
  go_ret
  exact ⟨rfl, below_step (below_step (pw_below_drewN b1 _) b2) b3⟩
end Go.Proofs.Ytmigbinllnejoaa.P
