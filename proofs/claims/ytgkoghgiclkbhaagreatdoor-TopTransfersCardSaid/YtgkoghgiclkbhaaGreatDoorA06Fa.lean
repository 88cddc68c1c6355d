/- The law's inputs: a list of at most 3000. No condition but the hypotheses that stand in each. -/
import Derived.Test.YtgkoghgiclkbhaaGreatDoorA03ShHn
import Derived.Test.YtgkoghgiclkbhaaGreatDoorA05Vb
namespace Go.Proofs.YtgkoghgiclkbhaaGreatDoor.Sx
open Go
noncomputable section
set_option maxRecDepth 100000
set_option linter.unusedVariables false
def spSh : List Sh := [u8, bo, bo, bo, u16]
def nilS : AV := .lit (.slice none 0 0)
def inF (o : AV) : Tr AV := (((((Tr.leaf : Tr AV).set 0 (some (.osl spSh ⟨some 0, 0⟩))).set 1 (some (nm .i64 2))).set 5 (some o)).set 6 (some (nm .i64 1)))
def inJA : St := ⟨inF nilS, { rng := setL .leaf 0 [(0, big), (0, 60), (3000, 3000)], nn := 3, lts := [], hp := .leaf, nb := 0, fx := [], fm := false, n0 := 3 }⟩
def inJB : St := ⟨inF (.sl 0 0 4 ⟨some 3, 0⟩ ⟨some 4, 0⟩), { rng := setL .leaf 0 [(0, big), (0, 60), (3000, 3000), (1, 3000), (1, big)], nn := 5, lts := [], hp := setL .leaf 0 [⟨.leaf, inSh, 0, 39⟩], nb := 1, fx := [], fm := false, n0 := 5 }⟩
def inEx : Outs := [(.exit 0, ⟨(Tr.leaf : Tr AV).set 5 (some nilS), AH.empty⟩),
  (.exit 0, ⟨(Tr.leaf : Tr AV).set 5 (some (.sl 0 0 4 ⟨some 0, 0⟩ ⟨some 1, 0⟩)), { rng := setL .leaf 0 [(1, 3000), (1, big)], nn := 2, lts := [], hp := setL .leaf 0 [⟨.leaf, inSh, 0, 39⟩], nb := 1, fx := [], fm := false, n0 := 2 }⟩)]
def howI : How := { lp := [(6, 3000)], ms := [], ds := [], pl := [(6, 1)] }
def mrgI (_ : FuncId) (l : Outs) : Outs := mrgL [0, 1, 5, 6, 7, 15, 31] 1000 l
def XI : Env1 := { envS Tryz.prog methT [] howI with hc := hookNo, mrg := mrgI }
theorem XI_ok : XI.Ok :=
  let e := envS_ok (h := howI) tbl_ok meth_ok (Sums.nil Tryz.prog) mixed_ok
  ⟨e.tbl, e.meth, e.sum, hookNo_ok, e.mixed, fun _ l => mrgL_ok _ _ l, e.mrr, e.mrl⟩
def inFi : FnI := (tblP Tryz.prog 6).getD ⟨0, [], .skip⟩
theorem inFi_ok : tblP Tryz.prog 6 = some inFi := by kernel_rfl
def inBody : Code := match loopBody inFi.body with
  | some b => b
  | none => .skip
theorem in_loops : loopsOf 100 inFi.body = [inBody] := by kernel_rfl
theorem inA_ok : lfChk XI 6 inFi.nt ro1 0 1 [inJA, inJB] inEx inBody inJA = true := by kernel_rfl
theorem inB_ok : lfChk XI 6 inFi.nt ro1 0 1 [inJA, inJB] inEx inBody inJB = true := by kernel_rfl
/-- The answers are of the shape. -/
def outSh (P : Program) (ro : Nat → Bool) (res : List ResultVar) (r : Sh) (outs : Outs) : Bool :=
  outs.all fun p => (match p.1 with | .normal => true | .ret => true | _ => false) && (match resV P p.2.H p.2.F res with | some v => (toSh ro 6 p.2.H v r).isSome | none => false)
def sumChkO (X : Env1) (lf : Code → St → Option Outs) (f : FuncId) (fi : FnI) (n : Nat) (shs : List Sh) (r : Sh) : Bool :=
  Nat.ble (startS shs).2.length fi.nt && (match execO X lf f ro1 fi.nt n fi.body ⟨argsF 0 (startS shs).2, (startS shs).1⟩ with
    | some outs => outSh X.P ro1 fi.res r outs
    | none => false)
theorem sumO_of {X : Env1} (hX : X.Ok) (hpr : X.pr = []) {f : FuncId} {fi : FnI} (hfi : X.tbl f = some fi) {lf : Code → St → Option Outs} {n : Nat} {shs : List Sh} {r : Sh}
    (hl : ∀ (g : Gh) (imm0 : Imm), ∀ b ∈ loopsOf n fi.body, ∀ S outs, lf b S = some outs → ∀ σ a w (Q : Exit → Act → World → Prop), PF X.pr Q → Imm.le imm0 σ.imm → Rel ro1 g σ S.H w → Fr fi.nt [] σ S.F a → GoodQ fi.nt [] ro1 g (Env.base imm0) outs Q → (Code.loop b).wp X.P Q a w)
    (h : sumChkO X lf f fi n shs r = true) : SumOk X.P f shs r := by
  intro w imm vs himm hs
  have R0 := Rel.empty ro1 w imm himm
  obtain ⟨σ1, l1, R1, s1⟩ := R0.open1L (satL_openSh shs vs hs)
  unfold sumChkO at h
  rw [Bool.and_eq_true, Nat.ble_eq] at h
  obtain ⟨hlen, h⟩ := h
  split at h
  · rename_i outs ho
    unfold outSh at h
    rw [List.all_eq_true] at h
    refine callO hX hpr hfi (hl ⟨w, [], imm⟩ imm) ho hlen R1 s1 l1.imm _ fun p hp => ?_
    have hk := h p hp
    rw [Bool.and_eq_true] at hk
    obtain ⟨k1, k2⟩ := hk
    refine ⟨?_, ?_⟩
    · cases hp1 : p.1 <;> rw [hp1] at k1 <;> first | exact .inl rfl | exact .inr rfl | cases k1
    · split at k2
      · rename_i v hv
        refine ⟨v, hv, fun σ' w' l2 R2 V hV => ?_⟩
        obtain ⟨H'', hH⟩ := Option.isSome_iff_exists.1 k2
        obtain ⟨σ3, l3, _, _, R3, s3, _⟩ := toSh_sound 6 R2 hV hH
        exact ⟨V, σ3.imm, rfl, ⟨R3.size, fun n hn => R3.frame n hn (by simp), R3.sz.os, R3.sz.out⟩, fun b o hb => l3.imm b o (l2.imm b o hb), R3.imm, fun b o hb hlt => R3.immo b o hb hlt (by simp), s3⟩
      · cases k2
  · cases h
def lfI : Code → St → Option Outs := lfJ ro1 0 1 [inJA, inJB] inEx
theorem inChk : sumChkO XI lfI 6 inFi 100 [.slice spSh 0 9223372036854775807, .int .i64 3000 3000] (.slice inSh 0 3000) = true := by kernel_rfl
theorem inputs_ok : SumOk Tryz.prog 6 [.slice spSh 0 9223372036854775807, .int .i64 3000 3000] (.slice inSh 0 3000) := by
  refine sumO_of (X := XI) (f := 6) (fi := inFi) XI_ok rfl (show XI.tbl 6 = some inFi from inFi_ok) (lf := lfI) (fun g imm0 b hb S outs h σ a w Q hQ hi R hf hq => ?_) inChk
  rw [in_loops, List.mem_singleton] at hb
  subst hb
  refine lf_ok (fid := 6) (NB := 0) XI_ok (fun J hJ => ?_) (hi := 60) (fun J hJ => ?_) S outs h σ a w Q hQ hi R hf hq
  · simp only [List.mem_cons, List.not_mem_nil, or_false] at hJ
    rcases hJ with rfl | rfl
    · exact inA_ok
    · exact inB_ok
  · simp only [List.mem_cons, List.not_mem_nil, or_false] at hJ
    rcases hJ with rfl | rfl <;> exact ⟨0, by kernel_rfl⟩
end
end Go.Proofs.YtgkoghgiclkbhaaGreatDoor.Sx
