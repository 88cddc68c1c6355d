/- The given statement of TilesSheet is proved: for every input the law returns true and leaves its arguments as they were. No condition. -/
import Derived.Test.YtmigbinllnejoaaRows
import Derived.Test.YtmigbinllnejoaaLaw3
import Derived.WalkKit
import Derived.ProofKit
import Derived.OpenShut
import Derived.ShutString
import Derived.ChangeOld
import Derived.Below
import Derived.SizedLaws
import Derived.Deep.Slices
import Derived.Test.YtmigbinllnejoaaWSized
namespace Go.Proofs.Ytmigbinllnejoaa.tilesSheet
open Go.ChangeShapes Go.WideShapes Go.ChangeAt Go.RowKit
open Go.ChangeMaps (open_string shut_string)
set_option linter.unusedVariables false
theorem own : ownKnob Try.prog.godebug = none := by kernel_rfl
theorem laidOut : laidOutB Try.prog = true := by kernel_rfl
theorem field_int {H : Type} {enc : TypeId × Value → H} {base : Nat} {sp : Nat → Bool} {held : Bool} {W : World} {fuel : Nat} {t : TypeId} {k : IntKind} {cs : List Value} {y : Option (DataW H × List MemPlace)} (ht : Try.prog.underlying t = some (.int k)) (hy : y.isSome = true) (h : DataW.trod enc Try.prog W base sp held fuel t cs = y) : ∃ a, cs = [.int k a] ∧ (Lit.int k a).wf = true := by
  obtain ⟨x, rfl⟩ := Option.isSome_iff_exists.1 hy
  obtain ⟨a, e, _, w⟩ := DataW.trod_int ht h
  exact ⟨a, e, w⟩
theorem asks_open {H : Type} {enc : TypeId × Value → H} {held : Bool} {W : World} {fuel : Nat} {a : Option Addr} {len cap : Nat} {x : DataW H × List MemPlace} (h : DataW.trod enc Try.prog W 0 (fun _ => true) held fuel 37 [.slice a len cap] = some x) : P.AsksAt W a len ∧ len ≤ cap := by
  rcases Go.Deep.open_slice Try.underlying37 h with ⟨hcs, _⟩ | ⟨al, l, c, m, n, D, Pl, hcs, _, hl, hm, hmm, hx, he⟩
  · simp at hcs
    obtain ⟨rfl, rfl, rfl⟩ := hcs
    refine ⟨?_, Nat.le_refl _⟩
    intro i hi
    exact absurd hi (Nat.not_lt_zero i)
  · simp at hcs
    obtain ⟨rfl, rfl, rfl⟩ := hcs
    refine ⟨?_, hl⟩
    intro i hi
    have hs : Try.prog.cellsOf 42 = 3 := by kernel_rfl
    have h3 : Try.prog.cellsOf 3 = 1 := by kernel_rfl
    obtain ⟨cs', h1, h2⟩ := he i (by rw [hmm]; simp; omega)
    rw [hs] at h1
    obtain ⟨_, hlen, hc⟩ := World.cells?_some h1
    obtain ⟨xs, n', _, _, _, hxl, hf⟩ := DataW.trod_struct Try.underlying42 h2
    have f0 := hf 0 { name := "Tile", type := 3, offset := 0, embedded := false, tag := "", pkgPath := "", byteOffset := 0 } rfl
    have f1 := hf 1 { name := "X", type := 3, offset := 1, embedded := false, tag := "", pkgPath := "", byteOffset := 8 } rfl
    have f2 := hf 2 { name := "Y", type := 3, offset := 2, embedded := false, tag := "", pkgPath := "", byteOffset := 16 } rfl
    have hxl' : xs.length = 3 := hxl
    match cs', hlen, xs, hxl' with
    | [c0, c1, c2], _, [y0, y1, y2], _ =>
      simp only [h3, List.drop_zero, List.drop_succ_cons, List.take_succ_cons, List.take_zero] at f0 f1 f2
      obtain ⟨K, e0, w0⟩ := field_int Try.underlying3 rfl f0
      obtain ⟨A, e1, w1⟩ := field_int Try.underlying3 rfl f1
      obtain ⟨V, e2, w2⟩ := field_int Try.underlying3 rfl f2
      simp at e0 e1 e2
      subst e0 e1 e2
      refine ⟨al, K, A, V, rfl, ⟨hc 0 (by omega), hc 1 (by omega), hc 2 (by omega), ?_⟩⟩
      have := World.block_lt_of_cell? W _ (hc 0 (by omega))
      rw [P.add_block, P.add_block] at this
      exact this
theorem sheet_walk (w₀ : World) (V : Option Addr) (cv : Nat) (l : List Int) (hcv : l.length ≤ cv) (hlen : l.length ≤ 140737488351232) (hl : ∀ x ∈ l, 0 ≤ x ∧ x < 256) (hV : Go.Proofs.YtmigbinllnejoaaW.PrintWords.Kd.C (Go.Proofs.YtmigbinllnejoaaW.PrintWords.Kd.int .u8) w₀ V l.length l) (B : Option Addr) (m c : Nat) (hmc : m ≤ c) (hasks : P.AsksAt w₀ B m) :
    Calls Try.prog 9 #[.slice V l.length cv, .slice B m c] w₀ fun e w' => e = .returned (.bool true) ∧ Below w₀.heap.size w₀ w' := by
  by_cases h : 200 < m
  · exact P.sheet_long w₀ V cv l hcv hlen hl hV B m c hmc hasks h
  · exact P.sheet_short w₀ V cv l hcv hlen hl hV B m c hmc hasks (by omega)
def IsRow (k : IntKind) (w : World) (a : Option Addr) (len cap : Nat) (zs : List Int) : Prop :=
  (a = none ∧ len = 0 ∧ cap = 0 ∧ zs = []) ∨
  ∃ x, a = some x ∧ len ≤ cap ∧ cap ≤ maxLen ∧ zs.length = cap ∧ (∀ i, i < zs.length → w.cell? (x.add i) = some (.int k (zs.getD i 0))) ∧ ∀ n ∈ zs, (Lit.int k n).wf = true
set_option maxRecDepth 100000 in
theorem lifted (os : Os) (started : os.Started) (H : Type) (enc : TypeId × Value → H) :
    ReturnsInHanded {} Try.checked os 9 .any (Rows.tilesSheetSpec.pre6 enc Try.prog Try.f9 Rows.tilesSheetRow.domain false) (Rows.tilesSheetSpec.post enc Try.prog Try.f9 false true false false) := by
  refine returnsInHanded_of_change_sized (C := Try.checked) own started (by kernel_rfl) Try.func9
    (ChangeSpec.witness6 (enc := enc) (C := Try.checked) false ⟨#[], #[.slice none 0 0, .slice none 0 0], []⟩ 8 (by kernel_rfl) (by kernel_rfl) (by kernel_rfl) (by kernel_rfl)) ?_
  intro W base args ds gs before hval0 hW hcnd hsz0 _
  have hsz : (DataW.weightsEach Try.prog (Try.f9.params.toList ++ Rows.tilesSheetSpec.plain.varTypes Try.prog) (ds ++ gs)).all (· ≤ reachBytes) = true := hsz0
  have hval : ∀ (j : Nat) t v, Try.f9.params[j]? = some t → args[j]? = some v → Value.okWide Try.prog W .any base t v := hval0
  have hW' := hW
  obtain ⟨p, q, hA0, hV, rfl, hfz, hnd⟩ := hW
  have hA : DataW.TrodAll enc Try.prog W 0 (fun _ => true) true Try.f9.params.toList args.toList ds p := hA0
  rw [Try.params9] at hA hval hsz
  obtain ⟨v0, vs0, d0, ds0, p0, q0, hargs, rfl, rfl, h0, r0⟩ := trodAll_cons hA
  obtain ⟨v1, vs1, d1, ds1, p1, q1, rfl, rfl, rfl, h1, r1⟩ := trodAll_cons r0
  obtain ⟨rfl, rfl, rfl⟩ := trodAll_nil r1
  obtain rfl : args = #[v0, v1] := by cases args; simp_all
  obtain ⟨rfl, rfl⟩ := trodVars_none hV
  obtain ⟨a2, len2, cap2, rfl⟩ := okWide_slice Try.underlying34 (hval 0 34 v0 rfl rfl)
  have k2 := h0
  have lt2 : ∀ x ∈ p0, x.block < W.heap.size := by obtain ⟨m, hm⟩ := k2; exact DataW.trod_lt m _ _ _ hm
  obtain ⟨z2, w2⟩ : ∃ zs, IsRow .u8 W a2 len2 cap2 zs := by
    obtain ⟨fuel, hf⟩ := h0
    rcases open_ints Try.underlying34 Try.underlying5 (by kernel_rfl) hf with ⟨hcs, _⟩ | ⟨x, l, c, zs, hcs, _, hl, hm, hz, _, hcell, hwz⟩
    · simp [Value.cells] at hcs
      obtain ⟨rfl, rfl, rfl⟩ := hcs
      exact ⟨[], .inl ⟨rfl, rfl, rfl, rfl⟩⟩
    · simp [Value.cells] at hcs
      obtain ⟨rfl, rfl, rfl⟩ := hcs
      exact ⟨zs, .inr ⟨_, rfl, hl, hm, by simpa using hz, hcell, hwz⟩⟩
  have y2 : len2 * 1 ≤ 140737488351232 := Go.Proofs.YtmigbinllnejoaaW.PrintWords.sized_ints hsz (j := 0) (t := 34) rfl rfl Try.underlying34 Try.underlying5 (by kernel_rfl) (by kernel_rfl) h0
  obtain ⟨a3, len3, cap3, rfl⟩ := okWide_slice Try.underlying37 (hval 1 37 v1 rfl rfl)
  have k3 := h1
  have lt3 : ∀ x ∈ p1, x.block < W.heap.size := by obtain ⟨m, hm⟩ := k3; exact DataW.trod_lt m _ _ _ hm
  obtain ⟨fuel, hf3⟩ := h1
  obtain ⟨hasks, hmc⟩ := asks_open hf3
  obtain ⟨l2, rfl, hr2, hm2, hw2, hc2⟩ := Go.Proofs.YtmigbinllnejoaaW.PrintWords.ReadsInt.ofRowC w2
  have hl2 : ∀ x ∈ l2, 0 ≤ x ∧ x < 256 := fun x hx => by
    have h := hw2 x hx
    have hmin : IntKind.u8.min = 0 := rfl
    have hmax : IntKind.u8.max = 255 := rfl
    simp only [Lit.wf, Bool.and_eq_true, decide_eq_true_eq] at h
    omega
  clear hA0 hval0 hsz0 hsz
  refine (Calls.mono (sheet_walk W a2 cap2 l2 hc2 (by omega) hl2 (Go.Proofs.YtmigbinllnejoaaW.PrintWords.Kd.C_of_reads (d := (0 : Int)) (h1 := fun _ => rfl) hr2) a3 len3 cap3 hmc hasks)) fun e W' ⟨he, bel⟩ => ?_
  subst he
  exact ⟨_, rfl, _, _, _, [], _, [], hW', trodAll_mk1 (shut_bool Try.underlying4 _), (trodAll_cons_mk (Below.trod laidOut (by kernel_rfl) (of_decide_eq_true (by kernel_rfl)) k2 bel lt2) (trodAll_cons_mk (Below.trod laidOut (by kernel_rfl) (of_decide_eq_true (by kernel_rfl)) k3 bel lt3) trodAll_mk0)), rfl, bel.frame _, fun h => by cases h⟩
theorem over : Rows.tilesSheetRow.holds Try.pinned (OpenSpec.ofChange Rows.tilesSheetSpec) :=
  OpenClaim.holds_of_wide 9 Try.f9 rfl rfl rfl rfl rfl rfl rfl ⟨rfl, rfl, rfl, rfl, rfl⟩ rfl rfl rfl rfl rfl (by kernel_rfl) Try.func9 (by kernel_rfl)
    (of_decide_eq_true (by kernel_rfl)) (by unfold Func.isWrapper; first | (rw [if_pos (by decide +kernel)]; kernel_rfl) | (rw [if_neg (by decide +kernel)]; exact ⟨rfl, rfl⟩))
    (fun os started H enc _ => lifted os started H enc)
theorem proved : Rows.TilesSheetSaid := over
#print axioms proved
end Go.Proofs.Ytmigbinllnejoaa.tilesSheet
namespace Go.Proofs.Ytmigbinllnejoaa
/-- The row, under a short name, for the claim. -/
theorem tilesSheet_holds : Rows.TilesSheetSaid := tilesSheet.proved
end Go.Proofs.Ytmigbinllnejoaa
