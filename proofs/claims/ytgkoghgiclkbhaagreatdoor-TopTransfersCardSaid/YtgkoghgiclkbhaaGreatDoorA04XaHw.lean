/- The tables and settings of this claim's walks. No condition but the hypotheses that stand in each. -/
import Derived.Test.YtgkoghgiclkbhaaGreatDoorProg
import Derived.KernelRfl
import Derived.Test.YtgkoghgiclkbhaaGreatDoorA03ShHn
namespace Go.Proofs.YtgkoghgiclkbhaaGreatDoor.Sx
open Go
noncomputable section
set_option linter.unusedVariables false

def tblP (P : Program) (f : FuncId) : Option FnI := match P.funcs[f]? with
  | some fn => match fn.body with
    | some b => some ⟨fn.ntmps, fn.results.toList, b⟩
    | none => none
  | none => none
theorem tblP_ok {P : Program} (h : P.funcs.toList.all (fun fn => !(fn.name == "runtime.NumGoroutine")) = true) : ∀ f fi, tblP P f = some fi → FnOk P f fi := by
  intro f fi hf
  unfold tblP at hf
  split at hf
  · rename_i fn hfn
    split at hf
    · rename_i b hb
      cases hf
      refine ⟨fn, hfn, hb, rfl, rfl, ?_⟩
      have := List.all_eq_true.1 h fn (by
        rw [Array.getElem?_eq_some_iff] at hfn
        obtain ⟨hlt, rfl⟩ := hfn
        exact Array.getElem_mem_toList hlt)
      simpa using this
    · cases hf
  · cases hf
def AH.empty : AH := ⟨.leaf, 0, [], .leaf, 0, [], false, 0⟩
def startS (shs : List Sh) : AH × List AV := open1L AH.empty (openShL shs)
abbrev SumT := List (FuncId × List Sh × Sh)
def sumOf : SumT → FuncId → Option (List Sh × Sh)
  | [], _ => none
  | p :: l, f => bif Nat.beq p.1 f then some p.2 else sumOf l f
def lookN : List (FuncId × Nat) → FuncId → Option Nat
  | [], _ => none
  | p :: l, f => bif Nat.beq p.1 f then some p.2 else lookN l f
def lookL : List (FuncId × List Nat) → FuncId → Option (List Nat)
  | [], _ => none
  | p :: l, f => bif Nat.beq p.1 f then some p.2 else lookL l f
def lookS : List (FuncId × Sh) → FuncId → Option Sh
  | [], _ => none
  | p :: l, f => bif Nat.beq p.1 f then some p.2 else lookS l f
/-- How the walk goes: which loops by what they come back to (and how far a number may go), where states are joined, which slots are kept behind a loop's round, which behind a piece. -/
structure How where
  lp : List (FuncId × Nat)
  ms : List (FuncId × Nat)
  ds : List (FuncId × List Nat)
  ks : List (FuncId × List Nat) := []
  nogc : List (FuncId × Nat) := []
  pl : List (FuncId × Nat) := []
  cn : List (FuncId × Nat) := []
  rs : List (FuncId × Sh) := []
def mrgO (ms : List (FuncId × Nat)) (f : FuncId) (l : Outs) : Outs := match lookN ms f with
  | some k => mrgIf k l
  | none => l
def mrgP (h : How) (f : FuncId) (l : Outs) : Outs := match lookN h.ms f with
  | some k => (match lookL h.ks f with
    | some lv => bif Nat.ble l.length k then l else mrgK lv k l
    | none => mrgIf k l)
  | none => l
def mrrO (ms : List (FuncId × Nat)) (f : FuncId) (l : Outs) : Outs := match lookN ms f with
  | some k => mrgIf k l
  | none => mrgIf 1 l
def mrlO (h : How) (f : FuncId) (l : Outs) : Outs := match lookL h.ds f with
  | some d => (match lookN h.nogc f with
    | some _ => mrgK d 1 l
    | none => mrgL d 1 l)
  | none => mrgO h.ms f l
def envS (P : Program) (meth : TypeId → String → Option FuncId) (L : SumT) (h : How) : Env1 :=
  { P, tbl := tblP P, meth, sum := sumOf L, hc := fun _ _ _ _ => none, mrg := mrgP h, mrr := mrrO h.ms, mrl := mrlO h,
    lp := fun f => (lookN h.lp f).isSome, prop := propW (fun f => match lookN h.lp f with | some n => (n : Int) | none => 0), rbs := rbOf, rsh := lookS h.rs, fmo := fun _ => false, cn := fun f => (lookN h.cn f).isSome, pl := fun f => (lookN h.pl f).isSome, pr := [], gcf := fun _ => false }
def Sums (P : Program) (L : SumT) : Prop := ∀ p ∈ L, (∃ fi, tblP P p.1 = some fi) ∧ SumOk P p.1 p.2.1 p.2.2
theorem sumOf_mem {f : FuncId} {q : List Sh × Sh} : ∀ {L : SumT}, sumOf L f = some q → (f, q) ∈ L
  | [], h => by simp [sumOf] at h
  | p :: l, h => by
    simp only [sumOf, cond_eq_ite, Nat.beq_eq] at h
    split at h
    · rename_i e; cases h; subst e; exact List.mem_cons_self ..
    · exact List.mem_cons_of_mem _ (sumOf_mem h)
theorem id_ok (l : Outs) : ∀ p ∈ l, ∃ q ∈ l, q.1 = p.1 ∧ LeS p.2 q.2 := fun p hp => ⟨p, hp, rfl, .refl _⟩
theorem mrgO_ok (ms : List (FuncId × Nat)) (f : FuncId) (l : Outs) : ∀ p ∈ l, ∃ q ∈ mrgO ms f l, q.1 = p.1 ∧ LeS p.2 q.2 := by
  unfold mrgO
  split
  · exact mrgIf_ok _ l
  · exact id_ok l
theorem mrgP_ok (h : How) (f : FuncId) (l : Outs) : ∀ p ∈ l, ∃ q ∈ mrgP h f l, q.1 = p.1 ∧ LeS p.2 q.2 := by
  unfold mrgP
  split
  · split
    · rw [cond_eq_ite]; split
      · exact id_ok l
      · exact mrgK_ok _ _ l
    · exact mrgIf_ok _ l
  · exact id_ok l
theorem envS_ok {P : Program} {meth : TypeId → String → Option FuncId} {L : SumT} {h : How} (h1 : ∀ f fi, tblP P f = some fi → FnOk P f fi)
    (h2 : ∀ t n f, meth t n = some f → ∀ v w, (method (P.types.size + Made.depth) t v n).run P w = .ok (f, v) w) (h3 : Sums P L) (h4 : P.follows .mixedOrders = true) : (envS P meth L h).Ok := by
  refine ⟨h1, h2, fun f shs r hs => h3 _ (sumOf_mem hs), fun ro g σ H w f args vs outs R h => by simp [envS] at h, h4, fun f l => mrgP_ok h f l, fun f l => ?_, fun f l => ?_⟩
  · show ∀ p ∈ l, ∃ q ∈ mrrO h.ms f l, _
    unfold mrrO
    split
    · exact mrgIf_ok _ l
    · exact mrgIf_ok _ l
  · show ∀ p ∈ l, ∃ q ∈ mrlO h f l, _
    unfold mrlO
    split
    · split
      · exact mrgK_ok _ _ l
      · exact mrgL_ok _ _ l
    · exact mrgO_ok h.ms f l
def ro1 : Nat → Bool := fun _ => true
/-- Does the walk of a function end in answers of the shape? -/
def sumChk (X : Env1) (f : FuncId) (shs : List Sh) (r : Sh) : Bool :=
  match callX X 400 ro1 (startS shs).1 f (startS shs).2 with
  | some outs => outs.all fun p => match p.1 with
    | .ret v => (toSh ro1 6 p.2 v r).isSome
    | .pan _ => false
  | none => false
theorem Rel.empty (ro : Nat → Bool) (w : World) (imm : Imm) (h : ∀ b o, imm b = some o → w.heap[b]? = some o) : Rel ro ⟨w, [], imm⟩ ⟨[], [], imm⟩ AH.empty w := by
  refine ⟨rfl, fun i r h => by simp [AH.empty, Tr.get] at h, fun p hp => by simp [AH.empty] at hp, rfl, fun b ab h => by simp [AH.empty, Tr.get] at h, fun b b' ab ab' n sz sz' h => by simp [AH.empty, Tr.get] at h, h, fun b ab n sz h => by simp [AH.empty, Tr.get] at h,
    fun _ _ _ => rfl, SzOk.refl _, fun b n sz _ h => by simp at h, fun b n sz h => by simp at h, fun m o h _ _ => h, fun f hf => by simp [AH.empty] at hf⟩
theorem sumOk_of {X : Env1} (hX : X.Ok) {f : FuncId} {shs : List Sh} {r : Sh} (h : sumChk X f shs r = true) : SumOk X.P f shs r := by
  intro w imm vs himm hs
  have R0 := Rel.empty ro1 w imm himm
  obtain ⟨σ1, l1, R1, s1⟩ := R0.open1L (satL_openSh shs vs hs)
  unfold sumChk at h
  split at h
  · rename_i outs hc
    rw [List.all_eq_true] at h
    obtain ⟨_, _, hcall⟩ := (exec_sound hX 400).2 ro1 ⟨w, [], imm⟩ σ1 _ w f _ vs outs (fun e w' => ∃ v imm', e = .returned v ∧ Grown w w' ∧ Imm.le imm imm' ∧ (∀ b o, imm' b = some o → w'.heap[b]? = some o) ∧ (∀ b o, imm' b = some o → b < w.heap.size → imm b = some o) ∧ SatSh imm' r v)
      hc R1 s1 (fun p hp σ' w' e l2 R2 he => by
        have hp := h p hp
        obtain ⟨c, H'⟩ := p
        cases c with
        | pan v => cases hp
        | ret v =>
          obtain ⟨V, hV, rfl⟩ := he
          obtain ⟨H'', hH⟩ := Option.isSome_iff_exists.1 hp
          obtain ⟨σ3, l3, _, _, R3, s3, _⟩ := toSh_sound 6 R2 hV hH
          exact ⟨V, σ3.imm, rfl, ⟨R3.size, fun n hn => R3.frame n hn (by simp), R3.sz.os, R3.sz.out⟩, fun b o hb => l3.imm b o (l2.imm b o (l1.imm b o hb)), R3.imm, fun b o hb hlt => R3.immo b o hb hlt (by simp), s3⟩)
    exact hcall
  · cases h
/-- One more. -/
theorem Sums.cons {P : Program} {meth : TypeId → String → Option FuncId} {L : SumT} {h : How} (h1 : ∀ f fi, tblP P f = some fi → FnOk P f fi)
    (h2 : ∀ t n f, meth t n = some f → ∀ v w, (method (P.types.size + Made.depth) t v n).run P w = .ok (f, v) w) (h3 : Sums P L) (h4 : P.follows .mixedOrders = true) {f : FuncId} {shs : List Sh} {r : Sh}
    (hc : sumChk (envS P meth L h) f shs r = true) : Sums P ((f, shs, r) :: L) := by
  intro p hp
  rcases List.mem_cons.1 hp with rfl | hp
  · refine ⟨?_, sumOk_of (envS_ok h1 h2 h3 h4) hc⟩
    dsimp only
    cases ht : tblP P f with
    | some fi => exact ⟨fi, rfl⟩
    | none =>
      exfalso
      unfold sumChk at hc
      split at hc
      · rename_i outs hcall
        simp only [callX] at hcall
        split at hcall
        · rename_i shs' r' hs
          have := sumOf_mem (L := L) hs
          obtain ⟨fi, hfi⟩ := (h3 _ this).1
          dsimp only at hfi
          rw [ht] at hfi; cases hfi
        · split at hcall
          · rename_i r0 h0; simp [envS] at h0
          · split at hcall
            · rename_i fi hfi
              have hfi : tblP P f = some fi := hfi
              rw [ht] at hfi; cases hfi
            · cases hcall
      · cases hc
  · exact h3 p hp
end
end Go.Proofs.YtgkoghgiclkbhaaGreatDoor.Sx
namespace Go.Proofs.YtgkoghgiclkbhaaGreatDoor.Sx
open Go
noncomputable section
set_option maxRecDepth 100000
theorem names_ok : Tryz.prog.funcs.toList.all (fun fn => !(fn.name == "runtime.NumGoroutine")) = true := by kernel_rfl
theorem tbl_ok : ∀ f fi, tblP Tryz.prog f = some fi → FnOk Tryz.prog f fi := tblP_ok names_ok
theorem mixed_ok : Tryz.prog.follows .mixedOrders = true := by kernel_rfl
def m4 (b : Nat) (n : String) : Option FuncId :=
  bif n == "whirligig/mapper.high" then some b else bif n == "whirligig/mapper.low" then some (b + 1) else bif n == "whirligig/mapper.ram" then some (b + 2) else bif n == "whirligig/mapper.write" then some (b + 3) else none
def methT (t : TypeId) (n : String) : Option FuncId :=
  bif Nat.beq t 313 then m4 329 n else bif Nat.beq t 314 then m4 335 n else bif Nat.beq t 315 then m4 339 n else bif Nat.beq t 316 then m4 343 n else none
def MethIs (t : TypeId) (n : String) (f : FuncId) : Prop := ∀ (v : Value) (w : World), (method (Tryz.prog.types.size + Made.depth) t v n).run Tryz.prog w = .ok (f, v) w
theorem m329 : MethIs 313 "whirligig/mapper.high" 329 := fun v w => by kernel_rfl
theorem m330 : MethIs 313 "whirligig/mapper.low" 330 := fun v w => by kernel_rfl
theorem m331 : MethIs 313 "whirligig/mapper.ram" 331 := fun v w => by kernel_rfl
theorem m332 : MethIs 313 "whirligig/mapper.write" 332 := fun v w => by kernel_rfl
theorem m335 : MethIs 314 "whirligig/mapper.high" 335 := fun v w => by kernel_rfl
theorem m336 : MethIs 314 "whirligig/mapper.low" 336 := fun v w => by kernel_rfl
theorem m337 : MethIs 314 "whirligig/mapper.ram" 337 := fun v w => by kernel_rfl
theorem m338 : MethIs 314 "whirligig/mapper.write" 338 := fun v w => by kernel_rfl
theorem m339 : MethIs 315 "whirligig/mapper.high" 339 := fun v w => by kernel_rfl
theorem m340 : MethIs 315 "whirligig/mapper.low" 340 := fun v w => by kernel_rfl
theorem m341 : MethIs 315 "whirligig/mapper.ram" 341 := fun v w => by kernel_rfl
theorem m342 : MethIs 315 "whirligig/mapper.write" 342 := fun v w => by kernel_rfl
theorem m343 : MethIs 316 "whirligig/mapper.high" 343 := fun v w => by kernel_rfl
theorem m344 : MethIs 316 "whirligig/mapper.low" 344 := fun v w => by kernel_rfl
theorem m345 : MethIs 316 "whirligig/mapper.ram" 345 := fun v w => by kernel_rfl
theorem m346 : MethIs 316 "whirligig/mapper.write" 346 := fun v w => by kernel_rfl
theorem m4_ok {t : TypeId} {b : Nat} (h1 : MethIs t "whirligig/mapper.high" b) (h2 : MethIs t "whirligig/mapper.low" (b + 1)) (h3 : MethIs t "whirligig/mapper.ram" (b + 2)) (h4 : MethIs t "whirligig/mapper.write" (b + 3))
    {n : String} {f : FuncId} (h : m4 b n = some f) : MethIs t n f := by
  unfold m4 at h
  simp only [cond_eq_ite, beq_iff_eq] at h
  split at h
  · rename_i e; subst e; cases h; exact h1
  · split at h
    · rename_i e; subst e; cases h; exact h2
    · split at h
      · rename_i e; subst e; cases h; exact h3
      · split at h
        · rename_i e; subst e; cases h; exact h4
        · cases h
theorem meth_ok : ∀ t n f, methT t n = some f → ∀ v w, (method (Tryz.prog.types.size + Made.depth) t v n).run Tryz.prog w = .ok (f, v) w := by
  intro t n f h
  unfold methT at h
  simp only [cond_eq_ite, Nat.beq_eq] at h
  split at h
  · rename_i e; subst e; exact m4_ok m329 m330 m331 m332 h
  · split at h
    · rename_i e; subst e; exact m4_ok m335 m336 m337 m338 h
    · split at h
      · rename_i e; subst e; exact m4_ok m339 m340 m341 m342 h
      · split at h
        · rename_i e; subst e; exact m4_ok m343 m344 m345 m346 h
        · cases h
/-- One more of this program's functions. -/
theorem more {L : SumT} {h : How} (h3 : Sums Tryz.prog L) {f : FuncId} {shs : List Sh} {r : Sh} (hc : sumChk (envS Tryz.prog methT L h) f shs r = true) : Sums Tryz.prog ((f, shs, r) :: L) :=
  Sums.cons tbl_ok meth_ok h3 mixed_ok hc
end
end Go.Proofs.YtgkoghgiclkbhaaGreatDoor.Sx
namespace Go.Proofs.YtgkoghgiclkbhaaGreatDoor.Sx
open Go
noncomputable section
def how : How :=
  { lp := [(36, 400), (37, 9223372036854775807), (33, 40), (236, 160), (255, 160), (254, 160), (128, 160), (188, 160)],
    ms := [(147, 100), (148, 100), (149, 100), (150, 100), (92, 1000000), (211, 100), (212, 100), (204, 100), (207, 100), (219, 100), (52, 100), (151, 100), (184, 1), (293, 1), (186, 1), (237, 1), (238, 1), (188, 1)],
    ds := [(117, [0, 3, 4, 8]), (184, [1, 2, 7, 8, 9, 15]), (293, [0, 1, 2, 3, 8, 9]), (289, [0, 1, 2, 6, 7, 8])],
    ks := [(184, [0, 1, 2, 3, 4, 5, 6, 7, 8, 9, 10, 11, 13, 15, 16, 47]), (293, [0, 1, 2, 3, 4, 5, 6, 7, 8, 9, 14, 34]), (186, [0, 1, 2, 3, 4, 5, 6, 7, 11, 12, 13, 14, 19]), (237, [0, 1, 2, 3, 4, 5, 6, 7, 8, 9, 10, 12, 15, 24, 25, 26, 27]), (238, [0, 1, 2, 3, 4, 5, 6, 7, 8, 9, 10, 11, 12, 13, 14, 15, 16, 17, 18, 29, 37, 45, 49]), (188, [0, 1, 2, 3, 4, 5, 6, 7, 8, 9, 10, 11, 12, 13, 22, 23, 40, 54])] }
def L0 : SumT := [(90, [u8], .tup [.int .i64 0 4, bo])]
def L183 : SumT := (183, [u8, i64], bo) :: L0
def L225 : SumT := (225, [u8, i64, bo], u8) :: L183
def L153 : SumT := (153, [u8, u8], u16) :: L225
def L227 : SumT := (227, [u16], .tup [u8, u8]) :: L153
def L173 : SumT := (173, [u8], i64) :: L227
def L220 : SumT := (220, [u8], .agg [bo, bo, bo, bo]) :: L173
def L221 : SumT := (221, [u8, u8, u8], .tup [u8, .agg [bo, bo, bo, bo]]) :: L220
def L222 : SumT := (222, [u8, u8, u8], .tup [u8, .agg [bo, bo, bo, bo]]) :: L221
def L158 : SumT := (158, [u8, .agg [bo, bo, bo, bo]], .tup [u8, .agg [bo, bo, bo, bo]]) :: L222
def L159 : SumT := (159, [u8, .agg [bo, bo, bo, bo]], .tup [u8, .agg [bo, bo, bo, bo]]) :: L158
def L174 : SumT := (174, [i64, u8, u8, .agg [bo, bo, bo, bo]], .tup [u8, .agg [bo, bo, bo, bo]]) :: L159
def L177 : SumT := (177, [u8, .agg [bo, bo, bo, bo]], .tup [u8, .agg [bo, bo, bo, bo]]) :: L174
def L178 : SumT := (178, [u8, .agg [bo, bo, bo, bo]], .tup [u8, .agg [bo, bo, bo, bo]]) :: L177
def L179 : SumT := (179, [.agg [bo, bo, bo, bo]], .agg [bo, bo, bo, bo]) :: L178
def L180 : SumT := (180, [.agg [bo, bo, bo, bo]], .agg [bo, bo, bo, bo]) :: L179
def L230 : SumT := (230, [u16, u16, .agg [bo, bo, bo, bo]], .tup [u16, .agg [bo, bo, bo, bo]]) :: L180
def L231 : SumT := (231, [u16, u8], .tup [u16, .agg [bo, bo, bo, bo]]) :: L230
def L232 : SumT := (232, [.agg [bo, bo, bo, bo]], u8) :: L231
def L161 : SumT := (161, [i64, u8], u8) :: L232
def L162 : SumT := (162, [i64, u8], u8) :: L161
def L175 : SumT := (175, [i64, u8, .agg [bo, bo, bo, bo]], .agg [bo, bo, bo, bo]) :: L162
def L176 : SumT := (176, [i64, u8, .agg [bo, bo, bo, bo]], .tup [u8, .agg [bo, bo, bo, bo]]) :: L175
def L160 : SumT := (160, [i64, u8, .agg [bo, bo, bo, bo]], .tup [u8, .agg [bo, bo, bo, bo]]) :: L176
def L110 : SumT := (110, [.agg [u16, u8, u8, u8, u8]], bo) :: L160
def L111 : SumT := (111, [bo, .agg [u16, u8, u8, u8, u8]], .agg [u16, u8, u8, u8, u8]) :: L110
def L66 : SumT := (66, [.agg [u16, u8, u8, u8, u8]], .tup [.agg [u16, u8, u8, u8, u8], bo]) :: L111
def L86 : SumT := (86, [.agg [u16, u8, u8, u8, u8], u16], u8) :: L66
def L168 : SumT := (168, [.agg [u16, u8, u8, u8, u8], u16, u8], .agg [u16, u8, u8, u8, u8]) :: L86
def L113 : SumT := (113, [.agg [u8, u8, u8, u8], bo], .agg [u8, u8, u8, u8]) :: L168
def L85 : SumT := (85, [.agg [u8, u8, u8, u8], u16], u8) :: L113
def L167 : SumT := (167, [.agg [u8, u8, u8, u8], u16, u8], .agg [u8, u8, u8, u8]) :: L85
def L68 : SumT := (68, [.agg [u8, u8, u8, u8], bo, bo], .tup [.agg [u8, u8, u8, u8], bo, bo]) :: L167
def L119 : SumT := (119, [.agg [u8, u8], u8], u8) :: L68
def L84 : SumT := (84, [.agg [u8, u8], u8], u8) :: L119
def L166 : SumT := (166, [.agg [u8, u8], u8], .agg [u8, u8]) :: L84
def L70 : SumT := (70, [.agg [u8, u8], u8], .tup [.agg [u8, u8], bo]) :: L166
def L18 : SumT := (18, [.agg [u8, u8]], u8) :: L70
def L19 : SumT := (19, [.agg [u8, u8], i64], .agg [u8, u8]) :: L18
def L42 : SumT := (42, [.agg [u8, u8], u16], u8) :: L19
def L112 : SumT := (112, [.agg [u8, u8], i64], .agg [u8, u8]) :: L42
def L102 : SumT := (102, [.agg [u8, u8], u16, u8], .agg [u8, u8]) :: L112
def L105 : SumT := (105, [i64], .tup [u16, i64]) :: L102
def L99 : SumT := (99, [.agg [bo, u8, u16, u8, u8, bo, u16]], i64) :: L105
def L73 : SumT := (73, [.agg [bo, u8, u16, u8, u8, bo, u16]], bo) :: L99
def L29 : SumT := (29, [.agg [bo, u8, u16, u8, u8, bo, u16]], .tup [.agg [bo, u8, u16, u8, u8, bo, u16], bo]) :: L73
def L12 : SumT := (12, [.agg [bo, u8, u16, u8, u8, bo, u16], bo], .tup [.agg [bo, u8, u16, u8, u8, bo, u16], bo]) :: L29
def L56 : SumT := (56, [.agg [bo, u8, u16, u8, u8, bo, u16]], .tup [bo, bo]) :: L12
def L169 : SumT := (169, [.agg [bo, u8, u16, u8, u8, bo, u16], u16, u8], .tup [.agg [bo, u8, u16, u8, u8, bo, u16], bo]) :: L56
def L87 : SumT := (87, [.agg [bo, u8, u16, u8, u8, bo, u16], u16], u8) :: L169
def L114 : SumT := (114, [.agg [bo, u8, u16, u8, u8, bo, u16], u16], .tup [.agg [bo, u8, u16, u8, u8, bo, u16], .agg [bo, bo, bo]]) :: L87
def L143 : SumT := (143, [bo, u8], u8) :: L114
def L142 : SumT := (142, [.agg [u8, u8, u8, u16, bo, bo]], .agg [u8, u8, u8, u16, bo, bo]) :: L143
def L82 : SumT := (82, [.agg [u8, u8, u8, u16, bo, bo], i64], .tup [u8, i64]) :: L142
def L120 : SumT := (120, [.agg [u8, u8, u8, u16, bo, bo]], .agg [u8, u8, u8, u16, bo, bo]) :: L82
def L165 : SumT := (165, [.agg [u8, u8, u8, u16, bo, bo], i64, u8], .tup [.agg [u8, u8, u8, u16, bo, bo], i64]) :: L120
def L54 : SumT := (54, [u8, u8], u16) :: L165
def L20 : SumT := (20, [.agg [bo, u8, u8, u8, u8]], .tup [.agg [bo, u8, u8, u8, u8], u16, u8, bo]) :: L54
def L170 : SumT := (170, [.agg [bo, u8, u8, u8, u8], u8], .agg [bo, u8, u8, u8, u8]) :: L20
def L88 : SumT := (88, [.agg [bo, u8, u8, u8, u8]], u8) :: L170
def L228 : SumT := (228, [.agg [u8, u8, u8, u8, u8, u8, u8, u8], .agg [u8, u8, u8, u8, u8, u8, u8, u8, u16, u16]], .agg [u8, u8, u8, u8, u8, u8, u8, u8, u16, u16]) :: L88
def L229 : SumT := (229, [.agg [u8, u8, u8, u8, u8, u8, u8, u8, u16, u16], i64, u8], .tup [.agg [u8, u8, u8, u8, u8, u8, u8, u8, u16, u16], i64]) :: L228
def L156 : SumT := (156, [.agg [u8, u8, u8, u8, u8, u8, u8, u8, u16, u16], i64], .tup [u8, i64]) :: L229
def L152 : SumT := (152, [.agg [u8, u8, u8, u8, u8, u8, u8, u8, u16, u16], i64], .tup [u16, i64]) :: L156
def L171 : SumT := (171, [.agg [u8, u8, u8, u8, u8, u8, u8, u8, u16, u16], i64, u16], .tup [.agg [u8, u8, u8, u8, u8, u8, u8, u8, u16, u16], i64]) :: L152
def L157 : SumT := (157, [.agg [u8, u8, u8, u8, u8, u8, u8, u8, u16, u16]], .agg [bo, bo, bo, bo]) :: L171
def L182 : SumT := (182, [.agg [u8, u8, u8, u8, u8, u8, u8, u8, u16, u16], .agg [bo, bo, bo, bo]], .agg [u8, u8, u8, u8, u8, u8, u8, u8, u16, u16]) :: L157
def L151 : SumT := (151, [.agg [u8, u8, u8, u8, u8, u8, u8, u8, u16, u16], i64], bo) :: L182
def L154 : SumT := (154, [u8], .agg [i64, i64, i64, i64, i64, i64]) :: L151
def L155 : SumT := (155, [u8], .agg [i64, i64, i64, i64, i64, i64]) :: L154
def L78 : SumT := (78, [u16], .agg [u16, i64]) :: L155
def L40 : SumT := (40, [u16], .tup [i64, i64]) :: L78
def L100 : SumT := (100, [u16], i64) :: L40
def L58 : SumT := (58, [u16, bo, bo, bo], bo) :: L100
def L57 : SumT := (57, [u16, u16, bo], bo) :: L58
def L80 : SumT := (80, [.agg [i64, bo, u8, u8, u8, bo], u16, i64], i64) :: L57
def L83 : SumT := (83, [.agg [i64, bo, u8, u8, u8, bo], u16, i64], i64) :: L80
def L141 : SumT := (141, [.agg [i64, bo, u8, u8, u8, bo], u16], i64) :: L83
def L163 : SumT := (163, [.agg [i64, bo, u8, u8, u8, bo], u16, u8], .agg [i64, bo, u8, u8, u8, bo]) :: L141
def L27 : SumT := (27, [i64], .tup [.agg [i64, bo, u8, u8, u8, bo], i64]) :: L163
def L33 : SumT := (33, [u8], bo) :: L27
def L34 : SumT := (34, [u8], .tup [.agg [.str, u8, i64, bo, bo, bo, i64, i64, u8, u16], bo]) :: L33
def L37 : SumT := (37, [u8s], u16) :: L34
def L11 : SumT := (11, [], .agg [u8, u8, u8, u8, u8, u8, u8, u8, u16, u16, bo, bo, bo, u8, u8, bo, u8, u8, u8]) :: L37
def L28 : SumT := (28, [], .agg [u8, u8, u8, u8, u8, u8, u8, u8, u16, u16]) :: L11
def L21 : SumT := (21, [.agg [u8, u8, u8, u8, u8, u8, u8, u8, u16, u16, bo, bo, bo, u8, u8, bo, u8, u8, u8], .agg [i64, u16, u8]], i64) :: L28
def L92 : SumT := (92, [u8, bo, bo], .slice [i64, i64, i64] 0 9) :: L21
def L36 : SumT := (36, [.slice [u8] 336 8388608], u8) :: L92
def L17 : SumT := (17, [.agg [u8, u8, u8, u8, u8, u8, u8, u8, u16, u16, bo, bo, bo, u8, u8, bo, u8, u8, u8], u8], .tup [.agg [u8, u8, u8, u8, u8, u8, u8, u8, u16, u16, bo, bo, bo, u8, u8, bo, u8, u8, u8], .agg [i64, u16, u8], i64]) :: L36
def L23 : SumT := (23, [.agg [u8, u8, u8, u8, u8, u8, u8, u8, u16, u16, bo, bo, bo, u8, u8, bo, u8, u8, u8], u8, u8], .agg [u8, u8, u8, u8, u8, u8, u8, u8, u16, u16, bo, bo, bo, u8, u8, bo, u8, u8, u8]) :: L17
def L260 : SumT := (260, [u8, bo, i64], i64) :: L23
def L261 : SumT := (261, [u8s, i64], u8) :: L260
def L263 : SumT := (263, [u8, u8, i64], u8) :: L261
def L275 : SumT := (275, [bo, u8, u8], i64) :: L263
def L240 : SumT := (240, [u8, u8], u8) :: L275
def L239 : SumT := (239, [.agg [u8, u8, u8, u8, u8, u8, u8, u8, .any, .any], i64], bo) :: L240
def L241 : SumT := (241, [.agg [u8, u8, u8, u8, u8, u8, u8, u8, .any, .any], u8], bo) :: L239
def L259 : SumT := (259, [.agg [u8, u8, u8, u8, u8], i64, bo], .tup [u8, i64, bo]) :: L241
def L262 : SumT := (262, [.agg [u8, u8, u8, u8, u8], i64], .tup [i64, bo]) :: L259
def L253 : SumT := (253, [bo], i64) :: L262
def L234 : SumT := (234, [.agg [u8, u8, u8, u8, u8], i64, bo], .tup [i64, bo]) :: L253
def L184 : SumT := (184, [u8s, i64, bo], .slice [u8, u8, u8, u8, u8] 0 10) :: L234
def L186 : SumT := (186, [.slice [u8, u8, u8, u8, u8] 0 10, u8], i64) :: L184
def L278 : SumT := (278, [.agg [u8, u8, u8, u8, u8], .agg [u8, u8, u8, u8, u8]], i64) :: L186
def L258 : SumT := (258, [.slice [u8, u8, u8, u8, u8] 0 10], .slice [u8, u8, u8, u8, u8] 0 10) :: L278
def L256 : SumT := (256, [.agg [u8, u8, u8, u8, u8, u8, u8, u8, u8s, u8s], bo, u8, u8], u8) :: L258
def L236 : SumT := (236, [.agg [u8, u8, u8, u8, u8, u8, u8, u8, u8s, u8s], u8, u8], .agg [u8, u8, u8, u8, u8, u8, u8, u8, u8, u8, u8, u8, u8, u8, u8, u8, u8, u8, u8, u8, u8, u8, u8, u8, u8, u8, u8, u8, u8, u8, u8, u8, u8, u8, u8, u8, u8, u8, u8, u8, u8, u8, u8, u8, u8, u8, u8, u8, u8, u8, u8, u8, u8, u8, u8, u8, u8, u8, u8, u8, u8, u8, u8, u8, u8, u8, u8, u8, u8, u8, u8, u8, u8, u8, u8, u8, u8, u8, u8, u8, u8, u8, u8, u8, u8, u8, u8, u8, u8, u8, u8, u8, u8, u8, u8, u8, u8, u8, u8, u8, u8, u8, u8, u8, u8, u8, u8, u8, u8, u8, u8, u8, u8, u8, u8, u8, u8, u8, u8, u8, u8, u8, u8, u8, u8, u8, u8, u8, u8, u8, u8, u8, u8, u8, u8, u8, u8, u8, u8, u8, u8, u8, u8, u8, u8, u8, u8, u8, u8, u8, u8, u8, u8, u8, u8, u8, u8, u8, u8, u8]) :: L256
def L237 : SumT := (237, [.agg [u8, u8, u8, u8, u8, u8, u8, u8, u8s, u8s], u8], .slice [u8, u8, u8, u8, u8, u8, u8] 0 10) :: L236
def L238 : SumT := (238, [.agg [u8, u8, u8, u8, u8, u8, u8, u8, u8s, u8s], .slice [u8, u8, u8, u8, u8, u8, u8] 0 10, i64, u8], .tup [u8, bo]) :: L237
def L188 : SumT := (188, [.agg [u8, u8, u8, u8, u8, u8, u8, u8, u8s, u8s], u8, u8], .tup [.slice [u8] 160 160, u8]) :: L238
def L117 : SumT := (117, [.slice [u8, u8, u8, u8, u8, u8, u8, u8, u8s, u8s] 0 144], u8s) :: L188
end
end Go.Proofs.YtgkoghgiclkbhaaGreatDoor.Sx
namespace Go.Proofs.YtgkoghgiclkbhaaGreatDoor.Sx
open Go
noncomputable section
/-- The walk with calls by contract. -/
def envH (L : SumT) (h : How) (hc : Call1) : Env1 := { envS Tryz.prog methT L h with hc := hc }
set_option maxRecDepth 10000 in
theorem envH_ok {L : SumT} {h : How} {hc : Call1} (h3 : Sums Tryz.prog L) (hhc : CallOk Tryz.prog hc) : (envH L h hc).Ok :=
  let e := envS_ok (h := h) tbl_ok meth_ok h3 mixed_ok
  ⟨e.tbl, e.meth, e.sum, hhc, e.mixed, e.mrg, e.mrr, e.mrl⟩
/-- The law's walk: its own joins. -/
def envL (L : SumT) (h : How) (hc : Call1) (mrg mrr : FuncId → Outs → Outs) : Env1 := { envS Tryz.prog methT L h with hc := hc, mrg := mrg, mrr := mrr }
set_option maxRecDepth 10000 in
theorem envL_ok {L : SumT} {h : How} {hc : Call1} {mrg mrr : FuncId → Outs → Outs} (h3 : Sums Tryz.prog L) (hhc : CallOk Tryz.prog hc)
    (hm : ∀ f l, ∀ p ∈ l, ∃ q ∈ mrg f l, q.1 = p.1 ∧ LeS p.2 q.2) (hr : ∀ f l, ∀ p ∈ l, ∃ q ∈ mrr f l, q.1 = p.1 ∧ LeS p.2 q.2) : (envL L h hc mrg mrr).Ok :=
  let e := envS_ok (h := h) tbl_ok meth_ok h3 mixed_ok
  ⟨e.tbl, e.meth, e.sum, hhc, e.mixed, hm, hr, e.mrl⟩
/-- Contracts by the function's number. -/
def findMC (f : Nat) : List MC → Option MC
  | [] => none
  | M :: l => bif Nat.beq f M.f then some M else findMC f l
theorem findMC_mem {f : Nat} {M : MC} : ∀ {l : List MC}, findMC f l = some M → M ∈ l
  | [], h => by simp [findMC] at h
  | N :: l, h => by
    simp only [findMC, cond_eq_ite] at h
    split at h
    · cases h; exact List.mem_cons_self ..
    · exact List.mem_cons_of_mem _ (findMC_mem h)
def hookT (l : List MC) : Call1 := fun ro H f args => match findMC f l with
  | some M => hookM M ro H f args
  | none => none
def MsOk (l : List MC) : Prop := ∀ M ∈ l, M.Ok Tryz.prog
theorem MsOk.nil : MsOk [] := fun M h => by cases h
theorem hookT_ok {l : List MC} (h : MsOk l) : CallOk Tryz.prog (hookT l) := by
  intro ro g σ H w f args vs outs R h0
  unfold hookT at h0
  split at h0
  · rename_i M hM
    exact hookM_ok (h M (findMC_mem hM)) ro g σ H w f args vs outs R h0
  · cases h0
/-- One more contract. -/
theorem moreM {L : SumT} {h : How} {l : List MC} {M : MC} (h3 : Sums Tryz.prog L) (hl : MsOk l) (hc : mcChk (envH L h (hookT l)) M = true) : MsOk (M :: l) := by
  intro N hN
  rcases List.mem_cons.1 hN with rfl | hN
  · exact mc_ok (envH_ok (h := h) h3 (hookT_ok hl)) hc
  · exact hl N hN
/-- One more summary, with calls by contract. -/
theorem moreX {L : SumT} {h : How} {l : List MC} (h3 : Sums Tryz.prog L) (hl : MsOk l) {f : FuncId} {shs : List Sh} {r : Sh} (ht : (tblP Tryz.prog f).isSome = true)
    (hc : sumChk (envH L h (hookT l)) f shs r = true) : Sums Tryz.prog ((f, shs, r) :: L) := by
  intro p hp
  rcases List.mem_cons.1 hp with rfl | hp
  · exact ⟨Option.isSome_iff_exists.1 ht, sumOk_of (envH_ok (h := h) h3 (hookT_ok hl)) hc⟩
  · exact h3 p hp
def inl (l : List Nat) (p : FuncId × List Sh × Sh) : Bool := !(l.contains p.1)
theorem Sums.filter {P : Program} {L : SumT} (h : Sums P L) (c : FuncId × List Sh × Sh → Bool) : Sums P (L.filter c) := fun p hp => h p (List.mem_filter.1 hp).1
theorem Sums.nil (P : Program) : Sums P [] := fun p hp => by cases hp
def mRecH : AH := { rng := .leaf, nn := 0, lts := [], hp := (Tr.leaf : Tr AB).set 0 (some ⟨setL (setL .leaf 0 (rep 57 .top)) 201 [.top, .top], [vidP], 203, 68⟩), nb := 1, fx := [], fm := false, n0 := 0 }
/-- The machine's block alone, for its lines. -/
def mcRec : MC := { f := 118, H0 := mRecH, args := [m0], H1 := mRecH, res := .any (.slice videoL 0 144), wr := [] }
def howR : How := { lp := [(118, 144)], ms := [(118, 1000)], ds := [], pl := [(118, 1)], rs := [(118, .slice videoL 0 144)] }
/-- What is walked anew, not taken by its summary. -/
def exM : List Nat := [170, 80, 83, 114, 140, 40, 78, 29, 20, 53, 54, 55, 88]
def LM : SumT := L117.filter (inl exM)
def howM : How := { lp := how.lp, ms := [(80, 100), (83, 100), (78, 100), (40, 100), (114, 100), (8, 1), (22, 1), (25, 1)], ds := [(69, [0, 3])], nogc := [(69, 1)] }
/-- The law. -/
def howL : How := { lp := [], ms := [], ds := [], cn := [(8, 1)] }
def XL : Env1 := envL LM howL hcL mrgLawS mrrLaw
def lawBody : Code := match Tryz.prog.funcs[3]? with
  | some fn => (match fn.body with
    | some c => (match loopBody c with | some b => b | none => .skip)
    | none => .skip)
  | none => .skip
end
end Go.Proofs.YtgkoghgiclkbhaaGreatDoor.Sx
namespace Go.Proofs.YtgkoghgiclkbhaaGreatDoor.Sx
open Go
noncomputable section
def cpuS (i : Nat) : List AV := cat [[nm .u8 i, nm .u8 (i + 1), nm .u8 (i + 2), nm .u8 (i + 3), nm .u8 (i + 4), nm .u8 (i + 5), nm .u8 (i + 6), nm .u8 (i + 7), nm .u16 (i + 8), nm .u16 (i + 9)],
  [bl (i + 10), bl (i + 11), bl (i + 12), nm .u8 (i + 13), nm .u8 (i + 14), bl (i + 15), nm .u8 (i + 16), nm .u8 (i + 17), nm .u8 (i + 18)]]
def cpuR : List (Int × Int) := [(0, 255), (0, 255), (0, 255), (0, 255), (0, 255), (0, 255), (0, 255), (0, 255), (0, 65535), (0, 65535), (0, 1), (0, 1), (0, 1), (0, 255), (0, 255), (0, 1), (0, 255), (0, 255), (0, 255)]
def mCellsC (cpu dma : List AV) : List AV := cat [[.ptr 1 0, .ptr 2 0], cpu, [.any u8, .any u8], [.any u16, .any u8, .any u8, .any u8, .any u8], rep 4 (.any u8), rep 2 (.any u8), [.any u8], [.any bo, .any u8, .any u16, .any u8, .any u8, .any bo, .any u16], dma, rep 8 (.any u8), [.any u8s, .any u8s]]
/-- The image and the RAM are of no account here. -/
def JMC (cpu dma regs : List AV) (on : AV) (more : List (Int × Int)) : AH :=
  { rng := setL .leaf 0 ([(0, big), (0, big), (0, big), (0, big)] ++ more), nn := 4 + more.length, lts := [], hp := setL .leaf 0 [⟨setL (setL .leaf 0 (mCellsC cpu dma)) 201 [.any i64, .any u8s], [vidP], 203, 68⟩, ⟨(setL .leaf 0 (cCells regs)).set 31 (some on), [], 32, 102⟩, ⟨setL .leaf 0 bCells, [u8], 289, 106⟩, memB 8192, memB 8192], nb := 7, fx := [], fm := false, n0 := 4 + more.length }
/-- The mapper's own cells. -/
def regS (i : Nat) : List AV := [nm .i64 i, bl (i + 1), nm .u8 (i + 2), nm .u8 (i + 3), nm .u8 (i + 4), bl (i + 5)] ++ cAny.drop 6
def regR : List (Int × Int) := [i64R, (0, 1), (0, 255), (0, 255), (0, 255), (0, 1)]
/-- The parts that go on by themselves let the processor, the transfer and the mapper be. -/
def mcOthersC : MC := { f := 25, H0 := JMC (cpuS 13) (dmaS 4) (regS 32) (bl 38) (catR [dmaR, [(0, 255), (0, 1), (0, 1), (0, 1)], cpuR, regR, [(0, 1)]]), args := [m0, .agg [nm .u8 9, bl 10, bl 11, bl 12]], H1 := JMC (cpuS 13) (dmaS 4) (regS 32) (bl 38) (catR [dmaR, [(0, 255), (0, 1), (0, 1), (0, 1)], cpuR, regR, [(0, 1), (0, 1)]]), res := bl 39, wr := [0, 1] }
/-- Numbers as the cells of a struct. -/
def kindE : Nat → Int → AV
  | 0, n => .int .u8 (cNum n)
  | 1, n => .int .u16 (cNum n)
  | 2, n => .bool (.c (decide (n = 1)))
  | _, n => .int .i64 (cNum n)
def zipE : List Nat → List Int → List AV
  | k :: ks, n :: l => kindE k n :: zipE ks l
  | _, _ => []
def cpuE (l : List Int) : AV := .agg (zipE [0, 0, 0, 0, 0, 0, 0, 0, 1, 1, 2, 2, 2, 0, 0, 2, 0, 0, 0] l)
def actE (l : List Int) : AV := .agg (zipE [3, 1, 0] l)
/-- The processor at each of the cycles, what it wants of the bus, what it is given. -/
def cycles : List (List Int × List Int × Int) := [
  ([1, 176, 0, 19, 0, 216, 1, 77, 65534, 256, 0, 0, 0, 0, 0, 0, 0, 0, 0], [1, 256, 0], 0),
  ([1, 176, 0, 19, 0, 216, 1, 77, 65534, 257, 0, 0, 0, 0, 0, 0, 0, 0, 0], [1, 257, 0], 195),
  ([1, 176, 0, 19, 0, 216, 1, 77, 65534, 258, 0, 0, 0, 0, 195, 0, 1, 0, 0], [2, 258, 0], 80),
  ([1, 176, 0, 19, 0, 216, 1, 77, 65534, 259, 0, 0, 0, 0, 195, 0, 2, 80, 0], [2, 259, 0], 1),
  ([1, 176, 0, 19, 0, 216, 1, 77, 65534, 260, 0, 0, 0, 0, 195, 0, 3, 80, 1], [0, 0, 0], 0),
  ([1, 176, 0, 19, 0, 216, 1, 77, 65534, 336, 0, 0, 0, 0, 195, 0, 0, 80, 1], [1, 336, 0], 62),
  ([1, 176, 0, 19, 0, 216, 1, 77, 65534, 337, 0, 0, 0, 0, 62, 0, 1, 80, 1], [2, 337, 0], 7),
  ([7, 176, 0, 19, 0, 216, 1, 77, 65534, 338, 0, 0, 0, 0, 62, 0, 0, 7, 1], [1, 338, 0], 234),
  ([7, 176, 0, 19, 0, 216, 1, 77, 65534, 339, 0, 0, 0, 0, 234, 0, 1, 7, 1], [2, 339, 0], 0),
  ([7, 176, 0, 19, 0, 216, 1, 77, 65534, 340, 0, 0, 0, 0, 234, 0, 2, 0, 1], [2, 340, 0], 192),
  ([7, 176, 0, 19, 0, 216, 1, 77, 65534, 341, 0, 0, 0, 0, 234, 0, 3, 0, 192], [3, 49152, 7], 0)]
def cEnd : List Int := [7, 176, 0, 19, 0, 216, 1, 77, 65534, 341, 0, 0, 0, 0, 234, 0, 0, 0, 192]
def pendH : AH := { rng := setL .leaf 0 [(0, 31)], nn := 1, lts := [], hp := .leaf, nb := 0, fx := [], fm := true, n0 := 1 }
def mcWant (c act : List Int) : MC := { f := 17, H0 := pendH, args := [cpuE c, nm .u8 0], H1 := pendH, res := .tup [cpuE c, actE act, .int .i64 (cNum (-1))], wr := [] }
def mcDone (c : List Int) (d : Int) (c' : List Int) : MC := { f := 23, H0 := pendH, args := [cpuE c, .int .u8 (cNum d), nm .u8 0], H1 := pendH, res := cpuE c', wr := [] }
def mcWants : List (List Int × List Int × Int) → List MC
  | [] => []
  | (c, act, _) :: l => mcWant c act :: mcWants l
def mcDones : List (List Int × List Int × Int) → List MC
  | [] => []
  | (c, _, d) :: l => mcDone c d (match l with
    | (c', _, _) :: _ => c'
    | [] => cEnd) :: mcDones l
def mcCyc : List MC := mcWants cycles ++ mcDones cycles
def hookAll : List MC → Call1
  | [] => fun _ _ _ _ => none
  | M :: l => orHook (hookM M) (hookAll l)
end
end Go.Proofs.YtgkoghgiclkbhaaGreatDoor.Sx
namespace Go.Proofs.YtgkoghgiclkbhaaGreatDoor.Sx
open Go
noncomputable section
def imgL : List Int := [rep 257 (0 : Int), [195, 80, 1], rep 48 (0 : Int), [76, 73, 86, 69, 83], rep 20 (0 : Int), [100, 4, 234, 62, 7, 234], rep 1 (0 : Int), [192]].flatten
def imgB : AB := ⟨setL .leaf 0 (imgL.map fun n => .int .u8 (cNum n)), [], 341, 5⟩
def regE : List AV := zipE [3, 2, 0, 0, 0, 2] [0, 0, 0, 0, 0, 0] ++ cAny.drop 6
def dmaE : List AV := zipE [2, 0, 0, 0, 0] [0, 0, 0, 0, 0]
def cpuF (l : List Int) : List AV := zipE [0, 0, 0, 0, 0, 0, 0, 0, 1, 1, 2, 2, 2, 0, 0, 2, 0, 0, 0] l
/-- The machine at a cycle. -/
def JM8 (c : List Int) (m : AB) : AH :=
  { rng := setL .leaf 0 [(341, 341), (0, big), (0, big), (0, big)], nn := 4, lts := [],
    hp := setL .leaf 0 [⟨setL (setL .leaf 0 (mCellsC (cpuF c) dmaE)) 201 [.any i64, .any u8s], [vidP], 203, 68⟩, ⟨(setL .leaf 0 (cCells regE)).set 31 (some (.bool (.c true))), [], 32, 102⟩, ⟨setL .leaf 0 bCells, [u8], 289, 106⟩, memB 8192, m, imgB], nb := 7, fx := [], fm := true, n0 := 4 }
def mem7 : AB := ⟨(Tr.leaf : Tr AV).set 0 (some (.int .u8 (cNum 7))), [u8], 8192, 5⟩
def entryE : List Int → Int → Int → AV
  | [3, p, x], _, k => .agg [.int .i64 (cNum 3), .int .u16 (cNum p), .int .u8 (cNum x), .bool (.c false), .int .u16 (cNum 0), .any u8, .int .i64 (cNum k), .any bo]
  | [a, p, _], d, k => .agg [.int .i64 (cNum a), .int .u16 (cNum p), .int .u8 (cNum d), .bool (.c false), .int .u16 (cNum 0), .any u8, .int .i64 (cNum k), .any bo]
  | _, _, _ => .top
def inE : AV := .agg (zipE [0, 2, 2, 2] [0, 0, 0, 0])
def isW : List Int → Bool
  | 3 :: _ => true
  | _ => false
def mcStep (c act : List Int) (d k : Int) (c' : List Int) : MC :=
  { f := 8, H0 := JM8 c (memB 8192), args := [m0, inE], H1 := JM8 c' (bif isW act then mem7 else memB 8192), res := entryE act d k, wr := bif isW act then [0, 1, 4] else [0, 1] }
def mcSteps : List (List Int × List Int × Int) → List Int → List MC
  | (c, act, d) :: l, k :: ks => mcStep c act d k (match l with
    | (c', _, _) :: _ => c'
    | [] => cEnd) :: mcSteps l ks
  | _, _ => []
def mcs8 : List MC := mcSteps cycles [1, 1, 0, 0, 0, 1, 0, 1, 0, 0, 0]
end
end Go.Proofs.YtgkoghgiclkbhaaGreatDoor.Sx
