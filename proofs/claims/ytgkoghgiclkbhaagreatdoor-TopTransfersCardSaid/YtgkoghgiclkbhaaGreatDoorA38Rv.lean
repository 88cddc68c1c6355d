/- What the row's reading of the arguments gives the walk: their shapes. No condition but the hypotheses that stand in each. -/
import Derived.Test.YtgkoghgiclkbhaaGreatDoorChecked
import Derived.WalkKit
import Derived.ProofKit
import Derived.Deep.Slices
import Derived.Test.YtgkoghgiclkbhaaGreatDoorA37Fc
namespace Go.Proofs.YtgkoghgiclkbhaaGreatDoor.Sx
open Go
open Go.ChangeShapes Go.WideShapes Go.ChangeAt Go.RowKit
set_option maxRecDepth 100000
set_option linter.unusedVariables false
theorem rowAt_off {P : Program} {fits : TypeId → Bool} : ∀ (d : Nat) (e : TypeId) (count off n : Nat), rowAt P fits d e count off n = true → off ≤ count * P.cellsOf e := by
  intro d e count off n h
  cases d with
  | zero => simp [rowAt] at h
  | succ d =>
    simp only [rowAt] at h
    by_cases hs : P.cellsOf e = 0
    · simp [hs] at h
    · rw [if_neg hs] at h
      have hm := Nat.div_add_mod off (P.cellsOf e)
      have hlt := Nat.mod_lt off (Nat.pos_of_ne_zero hs)
      rw [Bool.or_eq_true] at h
      rcases h with h | h
      · simp only [Bool.and_eq_true, beq_iff_eq, decide_eq_true_eq] at h
        obtain ⟨⟨h1, h2⟩, _⟩ := h
        have : P.cellsOf e * (off / P.cellsOf e) ≤ P.cellsOf e * count := Nat.mul_le_mul_left _ (by omega)
        rw [Nat.mul_comm count]; omega
      · rw [Bool.and_eq_true, decide_eq_true_eq] at h
        have : P.cellsOf e * (off / P.cellsOf e + 1) ≤ P.cellsOf e * count := Nat.mul_le_mul_left _ h.1
        rw [Nat.mul_add, Nat.mul_one] at this
        rw [Nat.mul_comm count]; omega
theorem liesAt_off {P : Program} : ∀ (d : Nat) (e : TypeId) (count off : Nat) (u : TypeId) (n : Nat), liesAt P d e count off u n = true → off ≤ count * P.cellsOf e
  | 0, e, count, off, u, n, h => by simp [liesAt] at h
  | d + 1, e, count, off, u, n, h => by
    simp only [liesAt, Bool.or_eq_true] at h
    rcases h with h | h
    · exact rowAt_off _ _ _ _ _ h
    · split at h
      · exact liesAt_off d _ _ _ _ _ h
      · cases h
/-- A slice that came in: where it stands. -/
theorem slice_at {W : World} {base : Nat} {t e : TypeId} {a : Addr} {len cap : Nat} (ht : Tryz.prog.underlying t = some (.slice e)) (h : Value.okWide Tryz.prog W .any base t (.slice (some a) len cap)) :
    len ≤ cap ∧ (cap : Int) ≤ 9223372036854775807 ∧ a.spot = none ∧ ∃ c e' fr, W.heap[a.block]? = some (.cells c e' fr) ∧ a.off ≤ c.size := by
  simp only [Value.okWide, ht, Cell.okWide, Cell.ok, World.has] at h
  obtain ⟨h1, h2, _, h3, row, cells, h4, h5⟩ := h
  refine ⟨h1, h2, h3, ?_⟩
  unfold World.shape? at h4
  split at h4
  · rename_i c el fr hc
    cases h4
    refine ⟨c, _, fr, hc, ?_⟩
    have := liesAt_off _ _ _ _ _ _ h5
    exact Nat.le_trans this (Nat.div_mul_le_self _ _)
  · cases h4
theorem cell_get {W : World} {a : Addr} {c : Array Value} {e : TypeId} {fr : Nat × Nat} (hs : a.spot = none) (hc : W.heap[a.block]? = some (.cells c e fr)) {v : Value} (h : W.cell? a = some v) : c[a.off]? = some v := by
  unfold World.cell? at h
  rw [hc] at h
  simpa [hs] using h
theorem add_at {a : Addr} (h : a.spot = none) (j : Nat) : a.add j = ⟨a.block, a.off + j, none⟩ := by
  unfold Addr.add
  cases a
  simp only at h
  subst h
  by_cases hj : j = 0
  · subst hj; simp
  · simp [hj]
theorem sat_bytes {W : World} {base : Nat} {a : Option Addr} {len cap : Nat} {H : Type} {enc : TypeId × Value → H} {fuel : Nat} {x : DataW H × List MemPlace} (hv : Value.okWide Tryz.prog W .any base 22 (.slice a len cap))
    (h : DataW.trod enc Tryz.prog W 0 (fun _ => true) true fuel 22 [.slice a len cap] = some x) : SatSh (fun b => W.heap[b]?) u8s (.slice a len cap) := by
  unfold u8s
  simp only [SatSh]
  rcases open_ints Tryz.underlying22 Tryz.underlying5 (by kernel_rfl) h with ⟨hcs, _⟩ | ⟨y, l, c, zs, hcs, _, hl, hm, hz, _, hcell, hwz⟩
  · simp at hcs
    obtain ⟨rfl, rfl, rfl⟩ := hcs
    exact ⟨none, 0, 0, rfl, Nat.le_refl _, by omega, Nat.le_refl _, .inl ⟨rfl, rfl⟩⟩
  · simp at hcs
    obtain ⟨rfl, rfl, rfl⟩ := hcs
    obtain ⟨k1, k2, k3, cc, e', fr, k4, k5⟩ := slice_at Tryz.underlying22 hv
    have hz : zs.length = cap := by simpa using hz
    have cell : ∀ j, j < len → cc[y.off + j]? = some (.int .u8 (zs.getD j 0)) := by
      intro j hj
      have hc := hcell j (by omega)
      rw [add_at k3] at hc
      exact cell_get (a := ⟨y.block, y.off + j, none⟩) rfl k4 hc
    refine ⟨some y, len, cap, rfl, Nat.zero_le _, by omega, k1, .inr ⟨y.block, y.off, cc, e', fr, ?_, k4, ?_, ?_⟩⟩
    · cases y; simp at k3; subst k3; rfl
    · simp only [List.length_singleton, Nat.mul_one]
      rcases Nat.eq_zero_or_pos len with h0 | h0
      · omega
      · have := (Array.getElem?_eq_some_iff.1 (cell (len - 1) (by omega))).1
        omega
    · intro j v hj hv'
      simp only [List.length_singleton, Nat.mul_one, Nat.mod_one] at hj ⊢
      rw [cell j hj] at hv'; cases hv'
      simp only [SatShAt, u8, SatSh]
      have hmem : zs.getD j 0 ∈ zs := by
        rw [List.getD_eq_getElem?_getD, List.getElem?_eq_getElem (by omega)]
        exact List.getElem_mem _
      have hw := hwz _ hmem
      have hmin : IntKind.u8.min = 0 := rfl
      have hmax : IntKind.u8.max = 255 := rfl
      simp only [Lit.wf, Bool.and_eq_true, decide_eq_true_eq, hmin, hmax] at hw
      exact ⟨_, rfl, hw.1, hw.2⟩
theorem sat_lit8 {imm : Imm} {z : Int} (hw : (Lit.int .u8 z).wf = true) : SatSh imm u8 (.int .u8 z) := by
  have hmin : IntKind.u8.min = 0 := rfl
  have hmax : IntKind.u8.max = 255 := rfl
  simp only [Lit.wf, Bool.and_eq_true, decide_eq_true_eq, hmin, hmax] at hw
  simp only [u8, SatSh]
  exact ⟨_, rfl, hw.1, hw.2⟩
theorem sat_lit16 {imm : Imm} {z : Int} (hw : (Lit.int .u16 z).wf = true) : SatSh imm u16 (.int .u16 z) := by
  have hmin : IntKind.u16.min = 0 := rfl
  have hmax : IntKind.u16.max = 65535 := rfl
  simp only [Lit.wf, Bool.and_eq_true, decide_eq_true_eq, hmin, hmax] at hw
  simp only [u16, SatSh]
  exact ⟨_, rfl, hw.1, hw.2⟩
/-- A span's five cells. -/
theorem span_cells {H : Type} {enc : TypeId × Value → H} {W : World} {fuel : Nat} {cs : List Value} {x : DataW H × List MemPlace} (h : DataW.trod enc Tryz.prog W 0 (fun _ => true) true fuel 77 cs = some x) :
    ∃ a b c d n, cs = [.int .u8 a, .bool b, .bool c, .bool d, .int .u16 n] ∧ (Lit.int .u8 a).wf = true ∧ (Lit.int .u16 n).wf = true := by
  have e77 : Tryz.prog.cellsOf 77 = 5 := by kernel_rfl
  have e39 : Tryz.prog.cellsOf 39 = 4 := by kernel_rfl
  have e31 : Tryz.prog.cellsOf 31 = 1 := by kernel_rfl
  have e5 : Tryz.prog.cellsOf 5 = 1 := by kernel_rfl
  have e4 : Tryz.prog.cellsOf 4 = 1 := by kernel_rfl
  obtain ⟨xs, n, _, _, hl, hxl, hf⟩ := DataW.trod_struct Tryz.underlying77 h
  rw [e77] at hl
  have f0 := hf 0 { name := "In", type := 39, offset := 0, embedded := false, tag := "", pkgPath := "", byteOffset := 0 } rfl
  have f1 := hf 1 { name := "N", type := 31, offset := 4, embedded := false, tag := "", pkgPath := "", byteOffset := 4 } rfl
  have hxl : xs.length = 2 := hxl
  match cs, hl, xs, hxl with
  | [c0, c1, c2, c3, c4], _, [y0, y1], _ =>
    simp only [e39, e31, List.drop_zero, List.drop_succ_cons, List.take_succ_cons, List.take_zero, List.getElem?_cons_zero, List.getElem?_cons_succ] at f0 f1
    obtain ⟨n4, q1, _, w4⟩ := DataW.trod_int Tryz.underlying31 f1
    obtain ⟨ys, m, _, _, _, hyl, hg⟩ := DataW.trod_struct Tryz.underlying39 f0
    have g0 := hg 0 { name := "Keys", type := 5, offset := 0, embedded := false, tag := "", pkgPath := "", byteOffset := 0 } rfl
    have g1 := hg 1 { name := "Bit", type := 4, offset := 1, embedded := false, tag := "", pkgPath := "", byteOffset := 1 } rfl
    have g2 := hg 2 { name := "Clock", type := 4, offset := 2, embedded := false, tag := "", pkgPath := "", byteOffset := 2 } rfl
    have g3 := hg 3 { name := "Tick", type := 4, offset := 3, embedded := false, tag := "", pkgPath := "", byteOffset := 3 } rfl
    have hyl : ys.length = 4 := hyl
    match ys, hyl with
    | [z0, z1, z2, z3], _ =>
      simp only [e5, e4, List.drop_zero, List.drop_succ_cons, List.take_succ_cons, List.take_zero, List.getElem?_cons_zero, List.getElem?_cons_succ] at g0 g1 g2 g3
      obtain ⟨a, r0, _, w0⟩ := DataW.trod_int Tryz.underlying5 g0
      obtain ⟨b1, r1, _⟩ := DataW.trod_bool Tryz.underlying4 g1
      obtain ⟨b2, r2, _⟩ := DataW.trod_bool Tryz.underlying4 g2
      obtain ⟨b3, r3, _⟩ := DataW.trod_bool Tryz.underlying4 g3
      simp at q1 r0 r1 r2 r3
      subst q1 r0 r1 r2 r3
      exact ⟨_, _, _, _, _, rfl, w0, w4⟩
theorem sat_spans {W : World} {base : Nat} {a : Option Addr} {len cap : Nat} {H : Type} {enc : TypeId × Value → H} {fuel : Nat} {x : DataW H × List MemPlace} (hv : Value.okWide Tryz.prog W .any base 23 (.slice a len cap))
    (h : DataW.trod enc Tryz.prog W 0 (fun _ => true) true fuel 23 [.slice a len cap] = some x) : SatSh (fun b => W.heap[b]?) (.slice spSh 0 9223372036854775807) (.slice a len cap) := by
  have e77 : Tryz.prog.cellsOf 77 = 5 := by kernel_rfl
  simp only [SatSh]
  rcases Go.Deep.open_slice Tryz.underlying23 h with ⟨hcs, _⟩ | ⟨y, l, c, m, n, D, Pl, hcs, _, hl, hm, hmm, _, he⟩
  · simp at hcs
    obtain ⟨rfl, rfl, rfl⟩ := hcs
    exact ⟨none, 0, 0, rfl, Nat.le_refl _, by omega, Nat.le_refl _, .inl ⟨rfl, rfl⟩⟩
  · simp at hcs
    obtain ⟨rfl, rfl, rfl⟩ := hcs
    obtain ⟨k1, k2, k3, cc, e', fr, k4, k5⟩ := slice_at Tryz.underlying23 hv
    have hmm : m = cap := by simpa using hmm
    have cell : ∀ i, i < len → ∀ q, q < 5 → ∃ v, cc[y.off + (i * 5 + q)]? = some v ∧ SatShAt (fun b => W.heap[b]?) spSh q v := by
      intro i hi q hq
      obtain ⟨cs', h1, h2⟩ := he i (by omega)
      rw [e77] at h1
      obtain ⟨_, hlen, hc⟩ := World.cells?_some h1
      obtain ⟨z0, z1, z2, z3, z4, rfl, w0, w4⟩ := span_cells h2
      have hcq := hc q hq
      rw [add_at k3, add_at rfl] at hcq
      have key : ∀ v, ([.int .u8 z0, .bool z1, .bool z2, .bool z3, .int .u16 z4] : List Value)[q]? = some v → cc[y.off + (i * 5 + q)]? = some v := by
        intro v hv
        rw [hv] at hcq
        have := cell_get (a := ⟨y.block, y.off + i * 5 + q, none⟩) rfl k4 hcq
        rwa [Nat.add_assoc] at this
      have hq5 : q = 0 ∨ q = 1 ∨ q = 2 ∨ q = 3 ∨ q = 4 := by omega
      rcases hq5 with rfl | rfl | rfl | rfl | rfl
      · exact ⟨_, key _ rfl, by simp only [spSh, SatShAt]; exact sat_lit8 w0⟩
      · exact ⟨_, key _ rfl, by simp only [spSh, SatShAt, bo, SatSh]; exact ⟨_, rfl⟩⟩
      · exact ⟨_, key _ rfl, by simp only [spSh, SatShAt, bo, SatSh]; exact ⟨_, rfl⟩⟩
      · exact ⟨_, key _ rfl, by simp only [spSh, SatShAt, bo, SatSh]; exact ⟨_, rfl⟩⟩
      · exact ⟨_, key _ rfl, by simp only [spSh, SatShAt]; exact sat_lit16 w4⟩
    have hsl : spSh.length = 5 := rfl
    refine ⟨some y, len, cap, rfl, Nat.zero_le _, by omega, k1, .inr ⟨y.block, y.off, cc, e', fr, ?_, k4, ?_, ?_⟩⟩
    · cases y; simp at k3; subst k3; rfl
    · rw [hsl]
      rcases Nat.eq_zero_or_pos len with h0 | h0
      · omega
      · obtain ⟨v, hv, _⟩ := cell (len - 1) (by omega) 4 (by omega)
        have := (Array.getElem?_eq_some_iff.1 hv).1
        omega
    · intro j v hj hv'
      rw [hsl] at hj ⊢
      obtain ⟨v2, hv2, hs2⟩ := cell (j / 5) (by omega) (j % 5) (Nat.mod_lt _ (by omega))
      rw [show j / 5 * 5 + j % 5 = j by omega] at hv2
      rw [hv2] at hv'; cases hv'
      exact hs2
end Go.Proofs.YtgkoghgiclkbhaaGreatDoor.Sx
