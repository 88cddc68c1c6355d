/- The processor's methods by contracts; what it wants, and what is done. No condition but the hypotheses that stand in each. -/
import Derived.Test.YtgkoghgiclkbhaaGreatDoorA04XaHw
namespace Go.Proofs.YtgkoghgiclkbhaaGreatDoor.Sx
open Go
noncomputable section
set_option maxRecDepth 100000
/-- The processor's block: of the kinds of its cells alone. -/
def coreL : List Sh := [u8, u8, u8, u8, u8, u8, u8, u8, u16, u16, bo, bo, bo, u8, u8, bo, u8, u8, u8]
def coreB : AB := ⟨.leaf, coreL, 19, 132⟩
def HC (rs : List (Int × Int)) (bs : List AB) : AH := { rng := setL .leaf 0 rs, nn := rs.length, lts := [], hp := setL .leaf 0 bs, nb := bs.length, fx := [], fm := false, n0 := rs.length }
def mcC (f : FuncId) (rs : List (Int × Int)) (bs : List AB) (args : List AV) (res : AV) (wr : List Nat) : MC := { f, H0 := HC rs bs, args, H1 := HC rs bs, res, wr }
def M91 : MC := mcC 91 [] [coreB] [.ptr 0 0] (.any (bo)) []
def CM91 : List MC := M91 :: []
def M96 : MC := mcC 96 [] [coreB] [.ptr 0 0] (.agg [.any (i64), .any (i64), .any (i64), .any (i64), .any (i64), .any (i64)]) []
def CM96 : List MC := M96 :: CM91
def M93 : MC := mcC 93 [] [coreB] [.ptr 0 0] (.any (bo)) []
def CM93 : List MC := M93 :: CM96
def M49 : MC := mcC 49 [] [coreB] [.ptr 0 0] (.tup [.agg [.any (i64), .any (i64), .any (i64)], .any (bo)]) []
def CM49 : List MC := M49 :: CM93
def M48 : MC := mcC 48 [] [coreB] [.ptr 0 0] (.any (bo)) []
def CM48 : List MC := M48 :: CM49
def M60 : MC := mcC 60 [] [coreB] [.ptr 0 0] (.any (bo)) []
def CM60 : List MC := M60 :: CM48
def M45 : MC := mcC 45 [] [coreB] [.ptr 0 0] (.any (bo)) []
def CM45 : List MC := M45 :: CM60
def M94 : MC := mcC 94 [i64R] [coreB] [.ptr 0 0, nm .i64 0] (.any (u16)) []
def CM94 : List MC := M94 :: CM45
def M106 : MC := mcC 106 [i64R, (0, 65535)] [coreB] [.ptr 0 0, nm .i64 0, nm .u16 1] (.tup []) [0]
def CM106 : List MC := M106 :: CM94
def M95 : MC := mcC 95 [] [coreB] [.ptr 0 0] (.any (u16)) []
def CM95 : List MC := M95 :: CM106
def M50 : MC := mcC 50 [i64R] [coreB] [.ptr 0 0, nm .i64 0] (.any (u16)) []
def CM50 : List MC := M50 :: CM95
def M97 : MC := mcC 97 [i64R] [coreB] [.ptr 0 0, nm .i64 0] (.any (u8)) []
def CM97 : List MC := M97 :: CM50
def M98 : MC := mcC 98 [i64R, i64R, i64R, i64R, i64R, i64R] [coreB] [.ptr 0 0, .agg [nm .i64 0, nm .i64 1, nm .i64 2, nm .i64 3, nm .i64 4, nm .i64 5]] (.tup [.any (u8), .agg [.any (bo), .any (bo), .any (bo), .any (bo)]]) []
def CM98 : List MC := M98 :: CM97
def M51 : MC := mcC 51 [i64R] [coreB] [.ptr 0 0, nm .i64 0] (.any (u8)) []
def CM51 : List MC := M51 :: CM98
def M46 : MC := mcC 46 [(0, 255)] [coreB] [.ptr 0 0, nm .u8 0] (.agg [.any (i64), .any (u16), .any (u8)]) [0]
def CM46 : List MC := M46 :: CM51
def M47 : MC := mcC 47 [(0, 255)] [coreB] [.ptr 0 0, nm .u8 0] (.tup [.agg [.any (i64), .any (u16), .any (u8)], .any (i64)]) [0]
def CM47 : List MC := M47 :: CM46
def M61 : MC := mcC 61 [] [coreB] [.ptr 0 0] (.tup []) [0]
def CM61 : List MC := M61 :: CM47
def M62 : MC := mcC 62 [(0, 255)] [coreB] [.ptr 0 0, nm .u8 0] (.tup []) [0]
def CM62 : List MC := M62 :: CM61
def M63 : MC := mcC 63 [(0, 255)] [coreB] [.ptr 0 0, nm .u8 0] (.tup []) [0]
def CM63 : List MC := M63 :: CM62
def M172 : MC := mcC 172 [i64R, (0, 255)] [coreB] [.ptr 0 0, nm .i64 0, nm .u8 1] (.tup []) [0]
def CM172 : List MC := M172 :: CM63
def M107 : MC := mcC 107 [i64R, i64R, i64R, i64R, i64R, i64R] [coreB] [.ptr 0 0, .agg [nm .i64 0, nm .i64 1, nm .i64 2, nm .i64 3, nm .i64 4, nm .i64 5]] (.tup []) [0]
def CM107 : List MC := M107 :: CM172
def M108 : MC := mcC 108 [i64R, i64R, i64R, i64R, i64R, i64R] [coreB] [.ptr 0 0, .agg [nm .i64 0, nm .i64 1, nm .i64 2, nm .i64 3, nm .i64 4, nm .i64 5]] (.tup []) [0]
def CM108 : List MC := M108 :: CM107
def M181 : MC := mcC 181 [i64R, i64R, i64R, i64R, i64R, i64R] [coreB, ⟨setL .leaf 0 [.any (bo), .any (bo), .any (bo), .any (bo)], [], 4, 194⟩] [.ptr 0 0, .agg [nm .i64 0, nm .i64 1, nm .i64 2, nm .i64 3, nm .i64 4, nm .i64 5], .ptr 1 0] (.any (bo)) [0, 1]
def CM181 : List MC := M181 :: CM108
def M109 : MC := mcC 109 [i64R, i64R, i64R, i64R, i64R, i64R] [coreB] [.ptr 0 0, .agg [nm .i64 0, nm .i64 1, nm .i64 2, nm .i64 3, nm .i64 4, nm .i64 5]] (.tup []) [0]
def CM109 : List MC := M109 :: CM181
def M64 : MC := mcC 64 [(0, 255)] [coreB] [.ptr 0 0, nm .u8 0] (.tup []) [0]
def CM64 : List MC := M64 :: CM109
theorem mC91_ok (h : Sums Tryz.prog L36) (hl : MsOk []) : MsOk CM91 := moreM (h := how) h hl (by kernel_rfl)
theorem mC96_ok (h : Sums Tryz.prog L36) (hl : MsOk CM91) : MsOk CM96 := moreM (h := how) h hl (by kernel_rfl)
theorem mC93_ok (h : Sums Tryz.prog L36) (hl : MsOk CM96) : MsOk CM93 := moreM (h := how) h hl (by kernel_rfl)
theorem mC49_ok (h : Sums Tryz.prog L36) (hl : MsOk CM93) : MsOk CM49 := moreM (h := how) h hl (by kernel_rfl)
theorem mC48_ok (h : Sums Tryz.prog L36) (hl : MsOk CM49) : MsOk CM48 := moreM (h := how) h hl (by kernel_rfl)
theorem mC60_ok (h : Sums Tryz.prog L36) (hl : MsOk CM48) : MsOk CM60 := moreM (h := how) h hl (by kernel_rfl)
theorem mC45_ok (h : Sums Tryz.prog L36) (hl : MsOk CM60) : MsOk CM45 := moreM (h := how) h hl (by kernel_rfl)
theorem mC94_ok (h : Sums Tryz.prog L36) (hl : MsOk CM45) : MsOk CM94 := moreM (h := how) h hl (by kernel_rfl)
theorem mC106_ok (h : Sums Tryz.prog L36) (hl : MsOk CM94) : MsOk CM106 := moreM (h := how) h hl (by kernel_rfl)
theorem mC95_ok (h : Sums Tryz.prog L36) (hl : MsOk CM106) : MsOk CM95 := moreM (h := how) h hl (by kernel_rfl)
theorem mC50_ok (h : Sums Tryz.prog L36) (hl : MsOk CM95) : MsOk CM50 := moreM (h := how) h hl (by kernel_rfl)
theorem mC97_ok (h : Sums Tryz.prog L36) (hl : MsOk CM50) : MsOk CM97 := moreM (h := how) h hl (by kernel_rfl)
theorem mC98_ok (h : Sums Tryz.prog L36) (hl : MsOk CM97) : MsOk CM98 := moreM (h := how) h hl (by kernel_rfl)
theorem mC51_ok (h : Sums Tryz.prog L36) (hl : MsOk CM98) : MsOk CM51 := moreM (h := how) h hl (by kernel_rfl)
theorem mC46_ok (h : Sums Tryz.prog L36) (hl : MsOk CM51) : MsOk CM46 := moreM (h := how) h hl (by kernel_rfl)
theorem mC47_ok (h : Sums Tryz.prog L36) (hl : MsOk CM46) : MsOk CM47 := moreM (h := how) h hl (by kernel_rfl)
theorem mC61_ok (h : Sums Tryz.prog L36) (hl : MsOk CM47) : MsOk CM61 := moreM (h := how) h hl (by kernel_rfl)
theorem mC62_ok (h : Sums Tryz.prog L36) (hl : MsOk CM61) : MsOk CM62 := moreM (h := how) h hl (by kernel_rfl)
theorem mC63_ok (h : Sums Tryz.prog L36) (hl : MsOk CM62) : MsOk CM63 := moreM (h := how) h hl (by kernel_rfl)
theorem mC172_ok (h : Sums Tryz.prog L36) (hl : MsOk CM63) : MsOk CM172 := moreM (h := how) h hl (by kernel_rfl)
theorem mC107_ok (h : Sums Tryz.prog L36) (hl : MsOk CM172) : MsOk CM107 := moreM (h := how) h hl (by kernel_rfl)
theorem mC108_ok (h : Sums Tryz.prog L36) (hl : MsOk CM107) : MsOk CM108 := moreM (h := how) h hl (by kernel_rfl)
theorem mC181_ok (h : Sums Tryz.prog L36) (hl : MsOk CM108) : MsOk CM181 := moreM (h := how) h hl (by kernel_rfl)
theorem mC109_ok (h : Sums Tryz.prog L36) (hl : MsOk CM181) : MsOk CM109 := moreM (h := how) h hl (by kernel_rfl)
theorem mC64_ok (h : Sums Tryz.prog L36) (hl : MsOk CM109) : MsOk CM64 := moreM (h := how) h hl (by kernel_rfl)
theorem core_ok (h : Sums Tryz.prog L36) : MsOk CM64 := mC64_ok h ( mC109_ok h ( mC181_ok h ( mC108_ok h ( mC107_ok h ( mC172_ok h ( mC63_ok h ( mC62_ok h ( mC61_ok h ( mC47_ok h ( mC46_ok h ( mC51_ok h ( mC98_ok h ( mC97_ok h ( mC50_ok h ( mC95_ok h ( mC106_ok h ( mC94_ok h ( mC45_ok h ( mC60_ok h ( mC48_ok h ( mC49_ok h ( mC93_ok h ( mC96_ok h ( mC91_ok h (.nil)))))))))))))))))))))))))
theorem T17 (h : Sums Tryz.prog L36) : Sums Tryz.prog L17 := moreX (h := how) h (core_ok h) (by kernel_rfl) (by kernel_rfl)
theorem T23 (h : Sums Tryz.prog L36) : Sums Tryz.prog L23 := moreX (h := how) (L := L17) (T17 h) (core_ok h) (by kernel_rfl) (by kernel_rfl)
end
end Go.Proofs.YtgkoghgiclkbhaaGreatDoor.Sx
