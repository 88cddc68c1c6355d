/- The walk of whirligiglaw17.TilesApart: with the answers of the calls and of the tests given as equations, the call returns true. No condition but the equations that stand in each. -/
import Derived.Test.YtmigbinllnejoaaPx0
import Derived.Test.YtmigbinllnejoaaPx3
import Derived.Test.YtmigbinllnejoaaPx4
import Derived.Test.YtmigbinllnejoaaPx6
namespace Go.Proofs.Ytmigbinllnejoaa.P
open Go.RowKit Go.Proofs.YtmigbinllnejoaaW.PrintWords Go.Proofs.YtmigbinllnejoaaW.PrintLast Go.Proofs.YtmigbinllnejoaaW.PrintMore
set_option linter.unusedVariables false
set_option linter.unusedSimpArgs false
set_option maxHeartbeats 4000000 in
set_option maxRecDepth 100000 in
theorem apart_same (a0 a1 a2 a3 a4 p q s t c d : Int) (w : World) (hs : whirligiglaw17_shown.f = some true)
    (hp : tiles_Place.f a0 false (wrap64 (Int.tmod a2 8)) = some p) (hq : tiles_Place.f a1 false (Int.tdiv a2 8 % 8) = some q)
    (ht : tiles_Place.f a0 true (wrap64 (Int.tmod a2 8)) = some s) (hu : tiles_Place.f a1 true (Int.tdiv a2 8 % 8) = some t)
    (hc : tiles_Cell.f false a3 a4 = some c) (hd : tiles_Cell.f true a3 a4 = some d) (hab : (a0 == a1) = true)
    (g1 : decide (0 ≤ p) = true) (g2 : decide (p < 4096) = true) (g3 : decide (2048 ≤ s) = true) (g4 : decide (s < 6144) = true)
    (g5 : (Int.tmod p 2 == 0) = true) (g6 : (Int.tmod s 2 == 0) = true)
    (g7 : ((p == q) == (Int.tmod a2 8 == Int.tdiv a2 8 % 8)) = true) (g8 : ((s == t) == (Int.tmod a2 8 == Int.tdiv a2 8 % 8)) = true) (g9 : ((p == s) == decide (127 < a0)) = true)
    (g10 : decide (6144 ≤ c) = true) (g11 : decide (c < 7168) = true) (g12 : (wrap64 (d - c) == 1024) = true) :
    Calls Try.prog 6 #[.int .u8 a0, .int .u8 a1, .int .u8 a2, .int .u8 a3, .int .u8 a4] w fun e w' => e = .returned (.bool true) ∧ Below w.heap.size w w' := by
  go_enter Try.func6, Try.ntmps6
  go_wp2_with fail
  refine (whirligiglaw17_shown.calls true _ hs).mono ?_
  rintro e w1 ⟨rfl, b1⟩
  go_wp2_with fail
  refine (tiles_Place.calls _ _ _ p _ hp).mono ?_
  rintro e w2 ⟨rfl, ⟨nd2, rfl⟩⟩
  go_wp2_with fail
  refine (tiles_Place.calls _ _ _ q _ hq).mono ?_
  rintro e w2 ⟨rfl, ⟨nd3, rfl⟩⟩
  go_wp2_with fail
  refine (tiles_Place.calls _ _ _ s _ ht).mono ?_
  rintro e w2 ⟨rfl, ⟨nd4, rfl⟩⟩
  go_wp2_with fail
  refine (tiles_Place.calls _ _ _ t _ hu).mono ?_
  rintro e w2 ⟨rfl, ⟨nd5, rfl⟩⟩
  go_wp2_with fail
  refine (tiles_Cell.calls _ _ _ c _ hc).mono ?_
  rintro e w2 ⟨rfl, ⟨nd6, rfl⟩⟩
  go_wp2_with fail
  refine (tiles_Cell.calls _ _ _ d _ hd).mono ?_
  rintro e w2 ⟨rfl, ⟨nd7, rfl⟩⟩
  go_wp2_with fail
  go_ret
  exact ⟨rfl, pw_below_drewN b1 _⟩
set_option maxHeartbeats 4000000 in
set_option maxRecDepth 100000 in
theorem apart_other (a0 a1 a2 a3 a4 p q s t c d : Int) (w : World) (hs : whirligiglaw17_shown.f = some true)
    (hp : tiles_Place.f a0 false (wrap64 (Int.tmod a2 8)) = some p) (hq : tiles_Place.f a1 false (Int.tdiv a2 8 % 8) = some q)
    (ht : tiles_Place.f a0 true (wrap64 (Int.tmod a2 8)) = some s) (hu : tiles_Place.f a1 true (Int.tdiv a2 8 % 8) = some t)
    (hc : tiles_Cell.f false a3 a4 = some c) (hd : tiles_Cell.f true a3 a4 = some d) (hab : (a0 == a1) = false)
    (g1 : decide (0 ≤ p) = true) (g2 : decide (p < 4096) = true) (g3 : decide (2048 ≤ s) = true) (g4 : decide (s < 6144) = true)
    (g5 : (Int.tmod p 2 == 0) = true) (g6 : (Int.tmod s 2 == 0) = true)
    (g7 : ((p == q) == false) = true) (g8 : ((s == t) == false) = true) (g9 : ((p == s) == decide (127 < a0)) = true)
    (g10 : decide (6144 ≤ c) = true) (g11 : decide (c < 7168) = true) (g12 : (wrap64 (d - c) == 1024) = true) :
    Calls Try.prog 6 #[.int .u8 a0, .int .u8 a1, .int .u8 a2, .int .u8 a3, .int .u8 a4] w fun e w' => e = .returned (.bool true) ∧ Below w.heap.size w w' := by
  go_enter Try.func6, Try.ntmps6
  go_wp2_with fail
  refine (whirligiglaw17_shown.calls true _ hs).mono ?_
  rintro e w1 ⟨rfl, b1⟩
  go_wp2_with fail
  refine (tiles_Place.calls _ _ _ p _ hp).mono ?_
  rintro e w2 ⟨rfl, ⟨nd2, rfl⟩⟩
  go_wp2_with fail
  refine (tiles_Place.calls _ _ _ q _ hq).mono ?_
  rintro e w2 ⟨rfl, ⟨nd3, rfl⟩⟩
  go_wp2_with fail
  refine (tiles_Place.calls _ _ _ s _ ht).mono ?_
  rintro e w2 ⟨rfl, ⟨nd4, rfl⟩⟩
  go_wp2_with fail
  refine (tiles_Place.calls _ _ _ t _ hu).mono ?_
  rintro e w2 ⟨rfl, ⟨nd5, rfl⟩⟩
  go_wp2_with fail
  refine (tiles_Cell.calls _ _ _ c _ hc).mono ?_
  rintro e w2 ⟨rfl, ⟨nd6, rfl⟩⟩
  go_wp2_with fail
  refine (tiles_Cell.calls _ _ _ d _ hd).mono ?_
  rintro e w2 ⟨rfl, ⟨nd7, rfl⟩⟩
  go_wp2_with fail
  go_ret
  exact ⟨rfl, pw_below_drewN b1 _⟩
end Go.Proofs.Ytmigbinllnejoaa.P
