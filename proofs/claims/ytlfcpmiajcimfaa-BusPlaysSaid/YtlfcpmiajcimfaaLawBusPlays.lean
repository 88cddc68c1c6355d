/- The given statement of BusPlays is proved: for every input the law returns true and leaves its arguments as they were. No condition. -/
import Derived.Test.YtlfcpmiajcimfaaRows
import Derived.Test.YtlfcpmiajcimfaaPlays6
import Derived.Test.YtlfcpmiajcimfaaPureBusBack
import Derived.WalkKit
import Derived.ProofKit
import Derived.OpenShut
import Derived.ShutString
import Derived.ChangeOld
import Derived.Below
import Derived.SizedLaws
import Derived.Deep.Slices
namespace Go.Proofs.Ytlfcpmiajcimfaa.busPlays
open Go.ChangeShapes Go.WideShapes Go.ChangeAt Go.RowKit
open Go.ChangeMaps (open_string shut_string)
set_option linter.unusedVariables false
theorem own : ownKnob Try.prog.godebug = none := by kernel_rfl
theorem laidOut : laidOutB Try.prog = true := by kernel_rfl
theorem field_int {H : Type} {enc : TypeId × Value → H} {base : Nat} {sp : Nat → Bool} {held : Bool} {W : World} {fuel : Nat} {t : TypeId} {k : IntKind} {cs : List Value} {y : Option (DataW H × List MemPlace)} (ht : Try.prog.underlying t = some (.int k)) (hy : y.isSome = true) (h : DataW.trod enc Try.prog W base sp held fuel t cs = y) : ∃ a, cs = [.int k a] ∧ (Lit.int k a).wf = true := by
  obtain ⟨x, rfl⟩ := Option.isSome_iff_exists.1 hy
  obtain ⟨a, e, _, w⟩ := DataW.trod_int ht h
  exact ⟨a, e, w⟩
theorem acts_open {H : Type} {enc : TypeId × Value → H} {held : Bool} {W : World} {fuel : Nat} {a : Option Addr} {len cap : Nat} {x : DataW H × List MemPlace} (h : DataW.trod enc Try.prog W 0 (fun _ => true) held fuel 35 [.slice a len cap] = some x) : P.ActsAt W a len := by
  rcases Go.Deep.open_slice Try.underlying35 h with ⟨hcs, _⟩ | ⟨al, l, c, m, n, D, Pl, hcs, _, hl, hm, hmm, hx, he⟩
  · simp at hcs
    obtain ⟨rfl, rfl, rfl⟩ := hcs
    intro i hi
    exact absurd hi (Nat.not_lt_zero i)
  · simp at hcs
    obtain ⟨rfl, rfl, rfl⟩ := hcs
    intro i hi
    have hs : Try.prog.cellsOf 41 = 3 := by kernel_rfl
    have h3 : Try.prog.cellsOf 3 = 1 := by kernel_rfl
    have h22 : Try.prog.cellsOf 22 = 1 := by kernel_rfl
    have h5 : Try.prog.cellsOf 5 = 1 := by kernel_rfl
    obtain ⟨cs', h1, h2⟩ := he i (by rw [hmm]; simp; omega)
    rw [hs] at h1
    obtain ⟨_, hlen, hc⟩ := World.cells?_some h1
    obtain ⟨xs, n', _, _, _, hxl, hf⟩ := DataW.trod_struct Try.underlying41 h2
    have f0 := hf 0 { name := "Kind", type := 3, offset := 0, embedded := false, tag := "", pkgPath := "", byteOffset := 0 } rfl
    have f1 := hf 1 { name := "Addr", type := 22, offset := 1, embedded := false, tag := "", pkgPath := "", byteOffset := 8 } rfl
    have f2 := hf 2 { name := "V", type := 5, offset := 2, embedded := false, tag := "", pkgPath := "", byteOffset := 10 } rfl
    have hxl' : xs.length = 3 := hxl
    match cs', hlen, xs, hxl' with
    | [c0, c1, c2], _, [y0, y1, y2], _ =>
      simp only [h3, h22, h5, List.drop_zero, List.drop_succ_cons, List.take_succ_cons, List.take_zero] at f0 f1 f2
      obtain ⟨K, e0, w0⟩ := field_int Try.underlying3 rfl f0
      obtain ⟨A, e1, w1⟩ := field_int Try.underlying22 rfl f1
      obtain ⟨V, e2, w2⟩ := field_int Try.underlying5 rfl f2
      simp at e0 e1 e2
      subst e0 e1 e2
      obtain ⟨A, hA, rfl⟩ := P.u8wf w1
      refine ⟨al, K, V, A, rfl, hA, ⟨hc 0 (by omega), hc 1 (by omega), hc 2 (by omega), ?_⟩⟩
      have := World.block_lt_of_cell? W _ (hc 0 (by omega))
      rw [P.add_block, P.add_block] at this
      exact this
set_option maxRecDepth 100000 in
theorem lifted (os : Os) (started : os.Started) (H : Type) (enc : TypeId × Value → H) :
    ReturnsInHanded {} Try.checked os 8 .any (Rows.busPlaysSpec.pre6 enc Try.prog Try.f8 Rows.busPlaysRow.domain false) (Rows.busPlaysSpec.post enc Try.prog Try.f8 false true false false) := by
  refine returnsInHanded_of_change_sized (C := Try.checked) own started (by kernel_rfl) Try.func8
    (ChangeSpec.witness6 (enc := enc) (C := Try.checked) false ⟨#[], #[.slice none 0 0], []⟩ 8 (by kernel_rfl) (by kernel_rfl) (by kernel_rfl) (by kernel_rfl)) ?_
  intro W base args ds gs before hval0 hW hcnd hsz0 _
  have hval : ∀ (j : Nat) t v, Try.f8.params[j]? = some t → args[j]? = some v → Value.okWide Try.prog W .any base t v := hval0
  have hW' := hW
  obtain ⟨p, q, hA0, hV, rfl, hfz, hnd⟩ := hW
  have hA : DataW.TrodAll enc Try.prog W 0 (fun _ => true) true Try.f8.params.toList args.toList ds p := hA0
  rw [Try.params8] at hA hval
  obtain ⟨v0, vs0, d0, ds0, p0, q0, hargs, rfl, rfl, h0, r0⟩ := trodAll_cons hA
  obtain ⟨rfl, rfl, rfl⟩ := trodAll_nil r0
  obtain rfl : args = #[v0] := by cases args; simp_all
  obtain ⟨rfl, rfl⟩ := trodVars_none hV
  obtain ⟨a0, len0, cap0, rfl⟩ := okWide_slice Try.underlying35 (hval 0 35 v0 rfl rfl)
  have k0 := h0
  have lt0 : ∀ x ∈ p0, x.block < W.heap.size := by obtain ⟨m, hm⟩ := k0; exact DataW.trod_lt m _ _ _ hm
  obtain ⟨fuel, hf⟩ := h0
  have hact := acts_open hf
  clear hA0 hval0 hsz0
  refine (Ytlfcpmiajcimfaa.P.plays_walk W a0 len0 cap0 hact).mono fun e W' ⟨he, bel⟩ => ?_
  subst he
  exact ⟨_, rfl, _, _, _, [], _, [], hW', trodAll_mk1 (shut_bool Try.underlying4 _), (trodAll_cons_mk (Below.trod laidOut (by kernel_rfl) (of_decide_eq_true (by kernel_rfl)) k0 bel lt0) trodAll_mk0), rfl, bel.frame _, fun h => by cases h⟩
theorem over : Rows.busPlaysRow.holds Try.pinned (OpenSpec.ofChange Rows.busPlaysSpec) :=
  OpenClaim.holds_of_wide 8 Try.f8 rfl rfl rfl rfl rfl rfl rfl ⟨rfl, rfl, rfl, rfl, rfl⟩ rfl rfl rfl rfl rfl (by kernel_rfl) Try.func8 (by kernel_rfl)
    (of_decide_eq_true (by kernel_rfl)) (by unfold Func.isWrapper; first | (rw [if_pos (by decide +kernel)]; kernel_rfl) | (rw [if_neg (by decide +kernel)]; exact ⟨rfl, rfl⟩))
    (fun os started H enc _ => lifted os started H enc)
theorem proved : Rows.BusPlaysSaid := over
#print axioms proved
end Go.Proofs.Ytlfcpmiajcimfaa.busPlays
namespace Go.Proofs.Ytlfcpmiajcimfaa
theorem busPlays_holds : Rows.BusPlaysSaid := busPlays.proved
end Go.Proofs.Ytlfcpmiajcimfaa
