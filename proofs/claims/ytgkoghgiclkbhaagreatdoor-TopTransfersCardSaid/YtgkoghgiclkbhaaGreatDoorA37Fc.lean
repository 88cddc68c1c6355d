/- The law whole: whatever image and whatever inputs, it returns true. No condition but the hypotheses that stand in each. -/
import Derived.Test.YtgkoghgiclkbhaaGreatDoorA36Fb
namespace Go.Proofs.YtgkoghgiclkbhaaGreatDoor.Sx
open Go
set_option maxRecDepth 100000
set_option linter.unusedVariables false
theorem sums_ok : Sums Tryz.prog L117 := Cf_all (Ce_all (Cd_all (T23 (Cc_all (Cb_all (Ca_all L0_ok))))))
theorem hcL_ok : CallOk Tryz.prog hcL := by
  obtain ⟨fi, h⟩ := fn_ok 16 (by kernel_rfl)
  exact orHook_ok (hookK_ok stab3 (by kernel_rfl) (k := true) h) (orHook_ok (anyPlace_ok (hookM_ok (read_ok sums_ok _ (List.mem_cons_self ..))))
    (orHook_ok (hookM_ok (act_ok sums_ok _ (List.mem_cons_self ..))) (hookM_ok (others_ok sums_ok _ (List.mem_cons_self ..)))))
theorem XL_ok : XL.Ok := envL_ok (sums_ok.filter _) hcL_ok mrgLawS_ok mrrLaw_ok
/-- All forgotten. -/
theorem Rel.none {ro : Nat → Bool} {g : Gh} {σ : Env} {H : AH} {w : World} (R : Rel ro g σ H w) : Rel ro g (Env.base σ.imm) AH.empty w := by
  refine ⟨rfl, fun i r h => by simp [AH.empty, Tr.get] at h, fun p hp => by simp [AH.empty] at hp, rfl, fun b ab h => by simp [AH.empty, Tr.get] at h, fun b b' ab ab' n sz sz' h => by simp [AH.empty, Tr.get] at h, R.imm, fun b ab n sz h => by simp [AH.empty, Tr.get] at h,
    R.frame, R.sz, fun b n sz _ h => by simp [Env.base] at h, fun b n sz h => by simp [Env.base] at h, R.immo, fun f hf => by simp [AH.empty] at hf⟩
theorem law_round {J : St} (h : lawChk XL lawBody J = true) : ∃ l, exec XL 400 3 ro1 105 lawBody J = some l ∧ jChk ro1 7 10 lawJs l = true ∧
    ∀ (g : Gh) (imm0 : Imm) (Q : Exit → Act → World → Prop), GoodQ 105 [] ro1 g (Env.base imm0) lawE Q → GoodQ 105 [] ro1 g (Env.base imm0) (exits l) Q := by
  unfold lawChk at h
  split at h
  · rename_i l hl
    rw [Bool.and_eq_true, List.all_eq_true] at h
    refine ⟨l, hl, h.1, fun g imm0 Q hq p hp σ' a' w' e l1 R1 f1 x1 => ?_⟩
    have hx := h.2 p hp
    cases hp1 : p.1 with
    | exit id =>
      rw [hp1] at hx x1
      dsimp only at hx
      rw [Nat.beq_eq] at hx
      subst hx
      refine hq (.exit 0, ⟨.leaf, AH.empty⟩) (List.mem_singleton.2 rfl) (Env.base σ'.imm) a' w' e (Env.base_le l1.imm) R1.none ⟨fun i av hi => ?_, f1.size, f1.defers⟩ x1
      have hi : (Tr.leaf : Tr AV).get i = some av := hi
      simp [Tr.get] at hi
    | _ => rw [hp1] at hx; cases hx
  · cases h
theorem law_ok : ∀ J ∈ lawJs, lawChk XL lawBody J = true := by
  intro J hJ
  simp only [lawJs, List.mem_cons, List.not_mem_nil, or_false] at hJ
  rcases hJ with rfl | rfl | rfl | rfl | rfl
  · exact lawOk0
  · exact lawOk1
  · exact lawOk2
  · exact lawOk3
  · exact lawOk4
theorem law_rng : ∀ J ∈ lawJs, ∃ lo, J.H.rng.get 10 = some (lo, (3000 : Int)) := by
  intro J hJ
  simp only [lawJs, List.mem_cons, List.not_mem_nil, or_false] at hJ
  rcases hJ with rfl | rfl | rfl | rfl | rfl <;> exact ⟨0, by kernel_rfl⟩
/-- Whatever image, whatever inputs: true, and all that was there is as it was. -/
theorem top_calls (w : World) (vs : List Value) (hs : SatShL (fun b => w.heap[b]?) lawSh vs) : Calls Tryz.prog 3 ⟨vs⟩ w fun e w' => e = .returned (.bool true) ∧ Grown w w' := by
  have R0 := Rel.empty ro1 w (fun b => w.heap[b]?) (fun b o h => h)
  obtain ⟨σ1, l1, R1, s1⟩ := R0.open1L (satL_openSh lawSh vs hs)
  have h := topOk
  unfold topChk at h
  rw [Bool.and_eq_true, Nat.ble_eq] at h
  obtain ⟨hlen, h⟩ := h
  split at h
  · rename_i outs ho
    unfold outTrue at h
    rw [List.all_eq_true] at h
    refine callO (XT_ok sums_ok) rfl (f := 3) (fi := lawFi) (show XT.tbl 3 = some lawFi from lawFi_ok) (lf := lfL) (imm0 := fun b => w.heap[b]?) (fun b hb S outs h σ a w' Q hQ hi R hf hq => ?_) ho hlen R1 s1 l1.imm _ fun p hp => ?_
    · rw [law_loops, List.mem_singleton] at hb
      subst hb
      rw [law_nt] at hf hq
      exact lfJ_ok (X := XT) (NB := 7) (f := exec XL 400 3 ro1 105 lawBody) (hi := 3000) (fun S outs h σ a w Q hQ R hf hq => (exec_sound XL_ok 400).1 3 ro1 105 lawBody S outs h _ [] σ a w Q hQ R hf hq)
        (fun J hJ => by obtain ⟨l, h1, h2, h3⟩ := law_round (law_ok J hJ); exact ⟨l, h1, h2, fun Q hQ => h3 _ _ Q hQ⟩) law_rng S outs h σ a w' Q hQ hi R hf hq
    · have hk := h p hp
      rw [Bool.and_eq_true] at hk
      obtain ⟨k1, k2⟩ := hk
      refine ⟨?_, ?_⟩
      · cases hp1 : p.1 <;> rw [hp1] at k1 <;> first | exact .inl rfl | exact .inr rfl | cases k1
      · split at k2
        · rename_i hv
          refine ⟨_, hv, fun σ' w' l2 R2 V hV => ?_⟩
          simp only [Sat, BE.den] at hV
          refine ⟨?_, R2.size, fun n hn => R2.frame n hn (by simp), R2.sz.os, R2.sz.out⟩
          obtain ⟨b, hb, rfl⟩ := hV
          cases hb; rfl
        · cases k2
  · cases h
end Go.Proofs.YtgkoghgiclkbhaaGreatDoor.Sx
