/- The given statement of TopTransfers, its tied card, is proved: for every input the law returns true and leaves its arguments as they were. No condition. -/
import Derived.OpenShut
import Derived.Test.YtgkoghgiclkbhaaGreatDoorA39Rw
import Derived.Test.YtgkoghgiclkbhaaGreatDoorA40Rj
namespace Go.Proofs.YtgkoghgiclkbhaaGreatDoor.Sx
open Go
open Go.ChangeShapes Go.WideShapes Go.ChangeAt Go.RowKit
set_option linter.unusedVariables false
set_option maxRecDepth 100000
theorem lifted (os : Os) (started : os.Started) (H : Type) (enc : TypeId × Value → H) :
    ReturnsInHanded {} Tryz.checked os 3 .any (fun w args => (Rows.topTransfersSpec.pre enc Tryz.prog Tryz.f3 [] false w args ∧ laidMetH Tryz.prog Rows.topTransfersRow.laid w) ∧ sizedMet enc Tryz.prog Tryz.f3 (OpenSpec.ofChange Rows.topTransfersSpec) false w args)
      (Rows.topTransfersSpec.post enc Tryz.prog Tryz.f3 false true false false) := by
  refine returnsInHanded_of_change_and (C := Tryz.checked) (X := fun w _ => laidMetH Tryz.prog Rows.topTransfersRow.laid w) (fun _ _ _ hh h => h.of_heap hh) own started (by kernel_rfl) Tryz.func3
    (ChangeSpec.witness_shaped (enc := enc) (C := Tryz.checked) (os := os) (X := fun w _ => laidMetH Tryz.prog Rows.topTransfersRow.laid w) false (laidW os) #[.slice none 0 0, .slice none 0 0] 8 ((World.layVars_os _ _ _).trans rfl)
      (World.shaped_of_ZipB (by kernel_rfl) (by kernel_rfl)) (by kernel_rfl) (by kernel_rfl) (by kernel_rfl) (laidW_met os _)) ?_
  intro W base args ds gs before hval0 hW _ _ hL _
  have hval : ∀ (j : Nat) t v, Tryz.f3.params[j]? = some t → args[j]? = some v → Value.okWide Tryz.prog W .any base t v := hval0
  have hW' := hW
  obtain ⟨p, q, hA0, hV, rfl, hfz, hnd⟩ := hW
  have hA : DataW.TrodAll enc Tryz.prog W 0 (fun _ => true) true Tryz.f3.params.toList args.toList ds p := hA0
  rw [Tryz.params3] at hA hval
  obtain ⟨v0, vs0, d0, ds0, p0, q0, hargs, rfl, rfl, h0, r0⟩ := trodAll_cons hA
  obtain ⟨v1, vs1, d1, ds1, p1, q1, rfl, rfl, rfl, h1, r1⟩ := trodAll_cons r0
  obtain ⟨rfl, rfl, rfl⟩ := trodAll_nil r1
  obtain rfl : args = #[v0, v1] := by cases args; simp_all
  obtain ⟨rfl, rfl⟩ := trodVars_none hV
  have hv0 := hval 0 22 v0 rfl rfl
  have hv1 := hval 1 23 v1 rfl rfl
  obtain ⟨a2, len2, cap2, rfl⟩ := okWide_slice Tryz.underlying22 hv0
  obtain ⟨a3, len3, cap3, rfl⟩ := okWide_slice Tryz.underlying23 hv1
  have k2 := h0
  have lt2 : ∀ x ∈ p0, x.block < W.heap.size := by obtain ⟨m, hm⟩ := k2; exact DataW.trod_lt m _ _ _ hm
  have k3 := h1
  have lt3 : ∀ x ∈ p1, x.block < W.heap.size := by obtain ⟨m, hm⟩ := k3; exact DataW.trod_lt m _ _ _ hm
  obtain ⟨fuel0, hf0⟩ := h0
  obtain ⟨fuel1, hf1⟩ := h1
  have s0 : SatSh (fun b => W.heap[b]?) u8s (.slice a2 len2 cap2) := sat_bytes hv0 (by simpa [Value.cells] using hf0)
  have s1 : SatSh (fun b => W.heap[b]?) (.slice spSh 0 9223372036854775807) (.slice a3 len3 cap3) := sat_spans hv1 (by simpa [Value.cells] using hf1)
  have hsat : SatShL (fun b => W.heap[b]?) lawSh [.slice a2 len2 cap2, .slice a3 len3 cap3] := by
    unfold lawSh
    rw [SatShL]
    refine ⟨_, _, rfl, s0, ?_⟩
    rw [SatShL]
    refine ⟨_, _, rfl, s1, ?_⟩
    rw [SatShL]
  clear hA0 hval0 hV
  refine (top_calls W _ hsat).mono fun e W' ⟨he, hg⟩ => ?_
  subst he
  have same : ∀ (p : MemPlace), p.block < W.heap.size → W.sameAt W' p := fun p hp => by
    cases p with
    | cell b o => exact World.cell?_of_block (w := W) (hg.2.1 b hp)
    | map b => exact hg.2.1 b hp
  have kept : W.keptBut W' (fun _ => False) := ⟨hg.2.2.1, hg.2.2.2, fun i hi => by
    rw [hg.2.1 i hi]
    split <;> simp_all⟩
  have frame : ∀ may, W.keptBut W' may := fun may => ⟨hg.2.2.1, hg.2.2.2, fun i hi => by
    rw [hg.2.1 i hi]
    split <;> simp_all⟩
  exact ⟨_, rfl, _, _, _, [], _, [], hW', trodAll_mk1 (shut_bool Tryz.underlying4 _), (trodAll_cons_mk (WideElems.Trod_stays laidOut (by kernel_rfl) (of_decide_eq_true (by kernel_rfl)) k2 (fun x hx => same x (lt2 x hx)) (fun x hx => by simpa using lt2 x hx)) (trodAll_cons_mk (WideElems.Trod_stays laidOut (by kernel_rfl) (of_decide_eq_true (by kernel_rfl)) k3 (fun x hx => same x (lt3 x hx)) (fun x hx => by simpa using lt3 x hx)) trodAll_mk0)), rfl, frame _, fun h => by cases h⟩
theorem row_holds : Rows.topTransfersRow.holds Tryz.pinned (OpenSpec.ofChange Rows.topTransfersSpec) :=
  OpenClaim.holds_of_wide 3 Tryz.f3 rfl rfl rfl rfl rfl rfl rfl ⟨rfl, rfl, rfl, rfl, rfl⟩ rfl rfl rfl rfl rfl (by kernel_rfl) Tryz.func3 joined
    (of_decide_eq_true (by kernel_rfl)) (by unfold Func.isWrapper; first | (rw [if_pos (by decide +kernel)]; kernel_rfl) | (rw [if_neg (by decide +kernel)]; exact ⟨rfl, rfl⟩))
    (fun os started H enc _ => lifted os started H enc)
theorem cw : Rows.topTransfersRow.wfByText (OpenSpec.ofChange Rows.topTransfersSpec) = true := by kernel_rfl
theorem cm : Tryz.prog.mainIs = some (true, "14253a32373910eaf04d8021de4efa61d29be782a3f3d4abb109e763abbcb8b6".toList) := by kernel_rfl
theorem cf : Tryz.prog.funcNamed "whirligig/whirligigtop.TopTransfers" = some 3 := by kernel_rfl
theorem cl : true = Tryz.prog.looks [] := by kernel_rfl
theorem ch : ([22, 23].all fun u => !Tryz.prog.wantsStandIn u) = true := by kernel_rfl
theorem cg : false = Rows.topTransfersRow.goesBy Tryz.prog := by kernel_rfl
theorem card_holds : Rows.TopTransfersCardSaid :=
  Claim7.holds_tied_plain_at .later [] [.data, .data, .data, .handle] true (true, "14253a32373910eaf04d8021de4efa61d29be782a3f3d4abb109e763abbcb8b6") true
    row_holds (fun _ h => by cases h) cw (fun _ h => by cases h) topTransfers_row_tie rfl ⟨rfl, rfl⟩ cm rfl
    (fun f fn hf hfn => by
      obtain rfl : f = 3 := Option.some.inj (cf.symm.trans hf) |>.symm
      obtain rfl : fn = Tryz.f3 := (Option.some.inj (Tryz.func3.symm.trans hfn)).symm
      exact ⟨cl, fun j t ht => by
        rw [Tryz.params3] at ht
        have hm : t ∈ [22, 23] := by simpa using Array.mem_of_getElem? ht
        exact (show Tryz.prog.wantsStandIn t = false by simpa using List.all_eq_true.1 ch t hm)⟩)
    cg
end Go.Proofs.YtgkoghgiclkbhaaGreatDoor.Sx
namespace Go.Proofs.YtgkoghgiclkbhaaGreatDoor
/-- The given statement, for the claim. -/
theorem topTransfers_holds : Rows.TopTransfersCardSaid := Sx.card_holds
end Go.Proofs.YtgkoghgiclkbhaaGreatDoor
#print axioms Go.Proofs.YtgkoghgiclkbhaaGreatDoor.topTransfers_holds
