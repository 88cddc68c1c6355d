/- What the symbolic walk of this claim does with memory and in regions. No condition but the hypotheses that stand in each. -/
import Derived.Laws.MakeOwn
import Derived.Laws.Append
import Derived.Laws.RangeString
import Derived.Laws.BytesString
import Derived.OrdersHeld
import Derived.Test.YtgkoghgiclkbhaaGreatDoorA01SaSn
namespace Go.Proofs.YtgkoghgiclkbhaaGreatDoor.Sx
open Go
noncomputable section
set_option linter.unusedVariables false
set_option linter.unusedSimpArgs false

def shLe : Sh → Sh → Bool
  | _, .any => true
  | .int k lo hi, .int k' lo' hi' => decide (k = k') && decide (lo' ≤ lo) && decide (hi ≤ hi')
  | .slice cs lo hi, .slice cs' lo' hi' => Sh.beqL cs cs' && Nat.ble lo' lo && Nat.ble hi hi'
  | s, s' => Sh.beq s s'
theorem shLe_sound {imm : Imm} {s s' : Sh} {v : Value} (h : shLe s s' = true) (hs : SatSh imm s v) : SatSh imm s' v := by
  unfold shLe at h
  split at h
  · simp [SatSh]
  · simp only [Bool.and_eq_true, decide_eq_true_eq] at h
    obtain ⟨⟨rfl, h1⟩, h2⟩ := h
    simp only [SatSh] at hs ⊢
    obtain ⟨n, rfl, h3, h4⟩ := hs
    exact ⟨n, rfl, by omega, by omega⟩
  · simp only [Bool.and_eq_true, Nat.ble_eq] at h
    obtain ⟨⟨h0, h1⟩, h2⟩ := h
    have := Sh.beqL_eq _ _ h0; subst this
    simp only [SatSh] at hs ⊢
    obtain ⟨base, len, cap, rfl, h3, h4, h5⟩ := hs
    exact ⟨base, len, cap, rfl, by omega, by omega, h5⟩
  · have := Sh.beq_eq _ _ h; subst this; exact hs
def foldSh (f : AH → AV → Sh → Option AH) : AH → List AV → List Sh → Option AH
  | H, [], [] => some H
  | H, a :: l, s :: ss => match f H a s with
    | some H' => foldSh f H' l ss
    | none => none
  | _, _, _ => none
/-- The shapes, in turn, so many. -/
def cyc (cs : List Sh) (p : Nat) : Nat → List Sh
  | 0 => []
  | n + 1 => (match cs[p % cs.length]? with | some s => s | none => .any) :: cyc cs (p + 1) n
/-- Nothing has come to be known. -/
def AH.Sub (H H' : AH) : Prop := ∀ b ab, H'.hp.get b = some ab → H.hp.get b = some ab
theorem AH.Sub.refl (H : AH) : H.Sub H := fun _ _ h => h
theorem AH.Sub.trans {H H' H'' : AH} (h : H.Sub H') (h' : H'.Sub H'') : H.Sub H'' := fun b ab e => h b ab (h' b ab e)
theorem AH.sub_drop (H : AH) (b : Nat) : H.Sub (H.drop b) := fun b' ab h => by
  rcases Tr.get_set_some h with ⟨_, h⟩ | ⟨_, h⟩
  · cases h
  · exact h
def dropB (ro : Nat → Bool) (H : AH) (b : Nat) : Option AH := match H.hp.get b with
  | some _ => bif ro b then some (H.drop b) else none
  | none => none
/-- A value given up to a shape: what it points to is written no more. -/
def toSh (ro : Nat → Bool) : Nat → AH → AV → Sh → Option AH
  | 0, _, _, _ => none
  | f + 1, H, a, s =>
    match s, a with
    | .any, _ => some H
    | s, .any s' => bif shLe s' s then some H else none
    | .int k lo hi, .int k' x => match H.range (H.norm x) with
      | some (l, h) => bif decide (k = k') && decide (lo ≤ l) && decide (h ≤ hi) then some H else none
      | none => none
    | .bool, .bool _ => some H
    | .str, .str _ => some H
    | .agg ss, .agg l => foldSh (toSh ro f) H l ss
    | .tup ss, .tup l => foldSh (toSh ro f) H l ss
    | .slice cs lo hi, .osl cs' len => match H.range (H.norm len) with
      | some (l, h) => bif Sh.beqL cs cs' && decide ((lo : Int) ≤ l) && decide (h ≤ hi) then some H else none
      | none => none
    | .slice cs lo hi, .lit (.slice none 0 _) => bif Nat.beq lo 0 then some H else none
    | .slice cs lo hi, .sl b off esz len cap => match H.range (H.norm len), H.hp.get b with
      | some (l, h), some ab =>
        bif Nat.beq esz cs.length && decide ((lo : Int) ≤ l) && decide (h ≤ hi) then
          bif ab.t.isLeaf && Sh.beqL ab.d cs && Nat.beq (off % cs.length) 0 && ro b then some (H.drop b)
          else bif Nat.ble (off + h.toNat * esz) ab.n then match foldSh (toSh ro f) H (cellsFrom ab off (h.toNat * esz)) (cyc cs 0 (h.toNat * esz)) with
            | some H' => dropB ro H' b
            | none => none
          else none
        else none
      | _, _ => none
    | .ptr cs, .lit (.pointer none) => some H
    | .ptr cs, .oaddr cs' => bif Sh.beqL cs cs' then some H else none
    | .ptr cs, .ptr b off => match H.hp.get b with
      | some ab => bif Nat.ble (off + cs.length) ab.n then match foldSh (toSh ro f) H (cellsFrom ab off cs.length) cs with
          | some H' => dropB ro H' b
          | none => none
        else none
      | none => none
    | _, _ => none
section
variable {ro : Nat → Bool} {g : Gh} {w : World} {P : Program}
theorem SatShL.get {imm : Imm} : ∀ {l : List Sh} {vs : List Value}, SatShL imm l vs → ∀ {i : Nat} {s : Sh}, l[i]? = some s → ∀ {v}, vs[i]? = some v → SatSh imm s v
  | [], vs, h, i, s, e, v, e' => by simp at e
  | b :: l, vs, h, i, s, e, v, e' => by
    simp only [SatShL] at h
    obtain ⟨u, vs', rfl, h1, h2⟩ := h
    cases i with
    | zero => simp at e e'; subst e; subst e'; exact h1
    | succ i => simp at e e'; exact SatShL.get h2 e e'
theorem cyc_get (cs : List Sh) : ∀ (n p j : Nat), j < n → (cyc cs p n)[j]? = some (match cs[(p + j) % cs.length]? with | some s => s | none => .any)
  | 0, p, j, h => by omega
  | n + 1, p, 0, h => by simp [cyc]
  | n + 1, p, j + 1, h => by
    simp only [cyc, List.getElem?_cons_succ]
    rw [cyc_get cs n (p + 1) j (by omega), show p + 1 + j = p + (j + 1) by omega]
theorem foldSh_sound {f : AH → AV → Sh → Option AH}
    (hf : ∀ {σ : Env} {H H' : AH} {a : AV} {s : Sh} {v : Value}, Rel ro g σ H w → Sat σ a v → f H a s = some H' → ∃ σ', σ.le σ' ∧ σ'.n = σ.n ∧ σ'.b = σ.b ∧ Rel ro g σ' H' w ∧ SatSh σ'.imm s v ∧ H.Sub H') :
    ∀ (l : List AV) (ss : List Sh) (vs : List Value) (σ : Env) (H H' : AH), Rel ro g σ H w → SatL σ l vs → foldSh f H l ss = some H' →
      ∃ σ', σ.le σ' ∧ σ'.n = σ.n ∧ σ'.b = σ.b ∧ Rel ro g σ' H' w ∧ SatShL σ'.imm ss vs ∧ H.Sub H'
  | [], [], vs, σ, H, H', R, hl, h => by
    simp only [foldSh, Option.some.injEq] at h
    subst h
    simp only [SatL] at hl
    exact ⟨σ, .refl σ, rfl, rfl, R, by simp [SatShL, hl], .refl H⟩
  | [], s :: ss, vs, σ, H, H', R, hl, h => by simp [foldSh] at h
  | a :: l, [], vs, σ, H, H', R, hl, h => by simp [foldSh] at h
  | a :: l, s :: ss, vs, σ, H, H', R, hl, h => by
    simp only [foldSh] at h
    split at h
    · rename_i H1 h1
      simp only [SatL] at hl
      obtain ⟨v, vs', rfl, hv, hvs⟩ := hl
      obtain ⟨σ1, l1, en, eb, R1, s1, u1⟩ := hf R hv h1
      obtain ⟨σ2, l2, en', eb', R2, s2, u2⟩ := foldSh_sound hf l ss vs' σ1 H1 H' R1 (SatL.mono l1 _ _ hvs) h
      refine ⟨σ2, l1.trans l2, en'.trans en, eb'.trans eb, R2, ?_, u1.trans u2⟩
      simp only [SatShL]
      exact ⟨v, vs', rfl, SatSh.mono l2.imm _ _ s1, s2⟩
    · cases h
theorem toSh_sound : ∀ (f : Nat) {σ : Env} {H H' : AH} {a : AV} {s : Sh} {v : Value}, Rel ro g σ H w → Sat σ a v → toSh ro f H a s = some H' →
    ∃ σ', σ.le σ' ∧ σ'.n = σ.n ∧ σ'.b = σ.b ∧ Rel ro g σ' H' w ∧ SatSh σ'.imm s v ∧ H.Sub H'
  | 0, σ, H, H', a, s, v, R, hs, h => by simp [toSh] at h
  | f + 1, σ, H, H', a, s, v, R, hs, h => by
    have stay : ∀ {s : Sh}, SatSh σ.imm s v → ∃ σ', σ.le σ' ∧ σ'.n = σ.n ∧ σ'.b = σ.b ∧ Rel ro g σ' H w ∧ SatSh σ'.imm s v ∧ H.Sub H := fun q => ⟨σ, .refl σ, rfl, rfl, R, q, .refl H⟩
    -- what a block holds, given up, and the block with it
    have blk : ∀ {b : Nat} {ab : AB} {off n : Nat} {ss : List Sh} {m sz : Nat} {H1 H2 : AH}, H.hp.get b = some ab → σ.b[b]? = some (some (m, sz)) → off + n ≤ ab.n →
        foldSh (toSh ro f) H (cellsFrom ab off n) ss = some H1 → dropB ro H1 b = some H2 →
        ∃ σ' c, σ.le σ' ∧ σ'.n = σ.n ∧ σ'.b = σ.b ∧ Rel ro g σ' H2 w ∧ σ'.imm m = some (.cells c ab.e (0, 0)) ∧ c.size = sz ∧ ab.n ≤ sz ∧ SatShL σ'.imm ss ((c.toList.drop off).take n) ∧ H.Sub H2 := by
      intro b ab off n ss m sz H1 H2 hb hm hle hf hd
      obtain ⟨m', sz', hm', c, hc1, hc2, hc3, hc4⟩ := R.blk _ _ hb
      rw [hm] at hm'; cases hm'
      obtain ⟨σ1, l1, en, eb, R1, s1, u1⟩ := foldSh_sound (toSh_sound f) _ _ _ σ H H1 R (satL_cellsFrom hc4 n off (by omega)) hf
      unfold dropB at hd
      split at hd
      · rename_i ab1 hb1
        rw [cond_eq_ite] at hd
        split at hd
        case isFalse => cases hd
        rename_i hrob
        cases hd
        obtain ⟨R2, l2⟩ := R1.freeze hrob hb1 (by rw [eb]; exact hm) hc1
        refine ⟨_, c, l1.trans l2, en, eb, R2, by simp [Env.freeze], hc2, hc3, SatShL.mono l2.imm _ _ s1, u1.trans (AH.sub_drop H1 b)⟩
      · cases hd
    unfold toSh at h
    split at h
    · cases h; exact stay (by simp [SatSh])
    · rw [cond_eq_ite] at h
      split at h
      · rename_i hle
        cases h
        simp only [Sat] at hs
        exact stay (shLe_sound hle hs)
      · cases h
    · split at h
      · rename_i l hh hr
        simp only [cond_eq_ite, Bool.and_eq_true, decide_eq_true_eq] at h
        split at h
        · rename_i hc
          cases h
          simp only [Sat] at hs
          obtain ⟨n, hn, rfl⟩ := hs
          have := R.range (R.norm hn) hr
          refine stay ?_
          simp only [SatSh]
          exact ⟨n, by rw [hc.1.1], by omega, by omega⟩
        · cases h
      · cases h
    · cases h
      simp only [Sat] at hs
      obtain ⟨b, _, rfl⟩ := hs
      exact stay (by simp only [SatSh]; exact ⟨b, rfl⟩)
    · cases h
      simp only [Sat] at hs
      exact stay (by simp only [SatSh]; exact ⟨_, hs⟩)
    · simp only [Sat] at hs
      obtain ⟨vs, rfl, hl⟩ := hs
      obtain ⟨σ', l1, en, eb, R1, s1, u1⟩ := foldSh_sound (toSh_sound f) _ _ vs σ H H' R hl h
      exact ⟨σ', l1, en, eb, R1, by simp only [SatSh]; exact ⟨vs, rfl, s1⟩, u1⟩
    · simp only [Sat] at hs
      obtain ⟨vs, rfl, hl⟩ := hs
      obtain ⟨σ', l1, en, eb, R1, s1, u1⟩ := foldSh_sound (toSh_sound f) _ _ vs σ H H' R hl h
      exact ⟨σ', l1, en, eb, R1, by simp only [SatSh]; exact ⟨vs, rfl, s1⟩, u1⟩
    · split at h
      · rename_i l hh hr
        simp only [cond_eq_ite, Bool.and_eq_true, decide_eq_true_eq] at h
        split at h
        · rename_i hc
          cases h
          have := Sh.beqL_eq _ _ hc.1.1; subst this
          simp only [Sat] at hs
          obtain ⟨base, ln, cap, rfl, hl, hlc, hb⟩ := hs
          have := R.range (R.norm hl) hr
          refine stay ?_
          simp only [SatSh]
          exact ⟨base, ln, cap, rfl, by omega, by omega, hlc, hb⟩
        · cases h
      · cases h
    · rw [cond_eq_ite] at h
      split at h
      · rename_i hlo
        rw [Nat.beq_eq] at hlo
        cases h
        simp only [Sat] at hs
        subst hs
        refine stay ?_
        simp only [SatSh]
        exact ⟨none, 0, _, rfl, by omega, by omega, by omega, .inl ⟨rfl, rfl⟩⟩
      · cases h
    · rename_i cs lo hi b off esz len cap
      split at h
      · rename_i l hh ab hr hab
        simp only [cond_eq_ite, Bool.and_eq_true, decide_eq_true_eq, Nat.beq_eq] at h
        simp only [Sat] at hs
        obtain ⟨m, sz, ln, cp, hm, hl, hcap, hlc, hsz, rfl⟩ := hs
        have hrange := R.range (R.norm hl) hr
        split at h
        · rename_i hc
          obtain ⟨⟨rfl, hlo⟩, hhi⟩ := hc
          have hmul : ln * cs.length ≤ cp * cs.length := Nat.mul_le_mul_right _ hlc
          split at h
          · rename_i hd
            obtain ⟨⟨⟨hleaf, hbeq⟩, hmod⟩, hrob⟩ := hd
            cases h
            have := Sh.beqL_eq _ _ hbeq; subst this
            obtain ⟨m', sz', hm', c, hc1, hc2, hc3, hc4⟩ := R.blk _ _ hab
            rw [hm] at hm'; cases hm'
            obtain ⟨R2, l2⟩ := R.freeze hrob hab hm hc1
            refine ⟨_, l2, rfl, rfl, R2, ?_, AH.sub_drop H b⟩
            simp only [SatSh]
            refine ⟨_, ln, cp, rfl, by omega, by omega, hlc, .inr ⟨m, off, c, ab.e, (0, 0), rfl, by simp [Env.freeze], by omega, fun j x hj hx => ?_⟩⟩
            have hq := hc4 _ x hx
            unfold CellOk at hq
            have hnone : ab.t.get (off + j) = none := by
              unfold Tr.isLeaf at hleaf
              split at hleaf
              · rename_i e; rw [e]; rfl
              · cases hleaf
            rw [hnone] at hq
            have hq := SatShAt.mono l2.imm _ _ _ hq
            obtain ⟨q, hqq⟩ := Nat.dvd_of_mod_eq_zero hmod
            rw [hqq, Nat.mul_add_mod] at hq
            exact hq
          · split at h
            · rename_i hle
              rw [Nat.ble_eq] at hle
              split at h
              · rename_i H1 hf
                obtain ⟨σ', c, l1, en, eb, R2, him, hcs, hn, hsh, u1⟩ := blk hab hm hle hf h
                refine ⟨σ', l1, en, eb, R2, ?_, u1⟩
                simp only [SatSh]
                refine ⟨_, ln, cp, rfl, by omega, by omega, hlc, .inr ⟨m, off, c, ab.e, (0, 0), rfl, him, by omega, fun j x hj hx => ?_⟩⟩
                have hlen : ln * cs.length ≤ hh.toNat * cs.length := Nat.mul_le_mul_right _ (by omega)
                have hj' : j < hh.toNat * cs.length := by omega
                have hpos : 0 < cs.length := by
                  rcases Nat.eq_zero_or_pos cs.length with h0 | h0
                  · rw [h0] at hj; omega
                  · exact h0
                have hmod : j % cs.length < cs.length := Nat.mod_lt _ hpos
                have e1 := cyc_get cs (hh.toNat * cs.length) 0 j hj'
                simp only [Nat.zero_add, List.getElem?_eq_getElem hmod] at e1
                have := hsh.get e1 (v := x) (by
                  rw [List.getElem?_take_of_lt hj', List.getElem?_drop]
                  simpa using hx)
                exact (SatShAt.of_get cs _ x _ (List.getElem?_eq_getElem hmod)).2 this
              · cases h
            · cases h
        · cases h
      · cases h
    · cases h
      simp only [Sat] at hs
      exact stay (by simp only [SatSh]; exact .inl hs)
    · rw [cond_eq_ite] at h
      split at h
      · rename_i hbeq
        cases h
        have := Sh.beqL_eq _ _ hbeq; subst this
        simp only [Sat] at hs
        exact stay (by simp only [SatSh]; exact .inr hs)
      · cases h
    · rename_i cs b off
      split at h
      · rename_i ab hab
        rw [cond_eq_ite] at h
        split at h
        · rename_i hle
          rw [Nat.ble_eq] at hle
          split at h
          · rename_i H1 hf
            simp only [Sat] at hs
            obtain ⟨m, sz, hm, rfl⟩ := hs
            obtain ⟨σ', c, l1, en, eb, R2, him, hcs, hn, hsh, u1⟩ := blk hab hm hle hf h
            refine ⟨σ', l1, en, eb, R2, ?_, u1⟩
            simp only [SatSh]
            refine .inr ⟨m, off, c, ab.e, (0, 0), rfl, him, by omega, fun j x hj hx => ?_⟩
            have := hsh.get (List.getElem?_eq_getElem hj) (v := x) (by
              rw [List.getElem?_take_of_lt hj, List.getElem?_drop]
              simpa using hx)
            exact (SatShAt.of_get cs _ x _ (List.getElem?_eq_getElem hj)).2 this
          · cases h
        · cases h
      · cases h
    · cases h
end
end
end Go.Proofs.YtgkoghgiclkbhaaGreatDoor.Sx
namespace Go.Proofs.YtgkoghgiclkbhaaGreatDoor.Sx
open Go
noncomputable section
set_option linter.unusedVariables false
set_option linter.unusedSimpArgs false

theorem flat_oneCell {v : Value} (h : Value.flat v = true) : v.oneCell' = true := by cases v <;> first | rfl | (simp [Value.flat] at h)
theorem satL_oneCell {σ : Env} : ∀ {l : List AV} {vs : List Value}, SatL σ l vs → l.all isCell = true → ∀ v ∈ vs, v.oneCell' = true
  | [], vs, h, _, v, hv => by simp only [SatL] at h; subst h; cases hv
  | a :: l, vs, h, ha, v, hv => by
    simp only [SatL] at h
    obtain ⟨u, vs', rfl, h1, h2⟩ := h
    simp only [List.all_cons, Bool.and_eq_true] at ha
    rcases List.mem_cons.1 hv with rfl | hv
    · exact flat_oneCell (isCell_flat ha.1 h1)
    · exact satL_oneCell h2 ha.2 v hv
/-- The cells behind a store. -/
def putCells (c : Array Value) (off : Nat) (vs : List Value) : Array Value := (c.toList.take off ++ vs ++ c.toList.drop (off + vs.length)).toArray
theorem size_putCells {c : Array Value} {off : Nat} {vs : List Value} (h : off + vs.length ≤ c.size) : (putCells c off vs).size = c.size := by simp [putCells]; omega
theorem get_putCells {c : Array Value} {off : Nat} {vs : List Value} (h : off + vs.length ≤ c.size) (j : Nat) :
    (putCells c off vs)[j]? = if off ≤ j ∧ j < off + vs.length then vs[j - off]? else c[j]? := by
  have hl : (c.toList.take off).length = off := by simp; omega
  simp only [putCells, List.getElem?_toArray]
  by_cases h1 : j < off
  · have : ¬ (off ≤ j ∧ j < off + vs.length) := by omega
    rw [if_neg this, List.append_assoc, List.getElem?_append_left (by omega), List.getElem?_take_of_lt h1]; simp
  · by_cases h2 : j < off + vs.length
    · rw [if_pos ⟨by omega, h2⟩, List.getElem?_append_left (by simp; omega), List.getElem?_append_right (by omega), hl]
    · have : ¬ (off ≤ j ∧ j < off + vs.length) := by omega
      rw [if_neg this, List.getElem?_append_right (by simp; omega), List.getElem?_drop]
      have e : off + vs.length + (j - (c.toList.take off ++ vs).length) = j := by simp; omega
      rw [e]; simp
section
variable {ro : Nat → Bool} {g : Gh} {σ : Env} {H : AH} {w : World} {P : Program}
/-- Cells laid one by one. -/
theorem Rel.lay (R : Rel ro g σ H w) {b : Nat} {ab : AB} (hro : ro b = true) (hb : H.hp.get b = some ab) {n sz : Nat} (hn : σ.b[b]? = some (some (n, sz))) {off : Nat} {l : List AV} {vs : List Value}
    (hl : SatL σ l vs) (hc : l.all isCell = true) (hfit : off + l.length ≤ sz) (hsm : small (off + l.length) = true) :
    ∃ c, w.heap[n]? = some (.cells c ab.e (0, 0)) ∧ off + vs.length ≤ c.size ∧ (∀ v ∈ vs, v.oneCell' = true) ∧ (storeCells ⟨n, off, none⟩ vs).run P w = .ok () (w.setRow n (putCells c off vs)) ∧
      Rel ro g σ (H.put b { ab with t := setL ab.t off l }) (w.setRow n (putCells c off vs)) := by
  obtain ⟨n', sz', hm', c, hc1, hc2, hc3, hc4⟩ := R.blk _ _ hb
  rw [hn] at hm'; cases hm'
  have hlen := hl.length
  have h1 := satL_oneCell hl hc
  have hfit' : off + vs.length ≤ c.size := by omega
  refine ⟨c, hc1, hfit', h1, ?_, ?_⟩
  · have := run_storeCells_at P n off ab.e vs 0 c w hc1 (by omega) h1
    simpa [putCells] using this
  · refine R.write hro hb hn hc1 rfl rfl (size_putCells hfit') (by dsimp only; omega) fun j v hv => ?_
    rw [get_putCells hfit'] at hv
    unfold small at hsm
    rw [Nat.ble_eq] at hsm
    unfold CellOk
    dsimp only
    rw [get_setL l ab.t off j (by omega)]
    by_cases hj : off ≤ j ∧ j < off + l.length
    · have hj' : off ≤ j ∧ j < off + vs.length := by omega
      rw [if_pos hj'] at hv
      rw [if_pos hj]
      have hlt : j - off < l.length := by omega
      rw [List.getElem?_eq_getElem hlt]
      obtain ⟨v', e1, e2⟩ := hl.get (List.getElem?_eq_getElem hlt)
      rw [hv] at e1; cases e1
      exact e2
    · have hj' : ¬ (off ≤ j ∧ j < off + vs.length) := by omega
      rw [if_neg hj'] at hv
      rw [if_neg hj]
      exact hc4 j v hv
/-- Cells laid where only their kinds are known. -/
theorem Rel.layAny (R : Rel ro g σ H w) {b : Nat} {ab : AB} (hro : ro b = true) (hb : H.hp.get b = some ab) {n sz : Nat} (hn : σ.b[b]? = some (some (n, sz))) {off : Nat} {vs : List Value}
    (h1 : ∀ v ∈ vs, v.oneCell' = true) (hfit : off + vs.length ≤ sz) (hok : ∀ q v, vs[q]? = some v → CellOk σ ab (off + q) v) :
    ∃ c, w.heap[n]? = some (.cells c ab.e (0, 0)) ∧ (storeCells ⟨n, off, none⟩ vs).run P w = .ok () (w.setRow n (putCells c off vs)) ∧
      Rel ro g σ (H.put b ab) (w.setRow n (putCells c off vs)) := by
  obtain ⟨n', sz', hm', c, hc1, hc2, hc3, hc4⟩ := R.blk _ _ hb
  rw [hn] at hm'; cases hm'
  have hfit' : off + vs.length ≤ c.size := by omega
  refine ⟨c, hc1, ?_, ?_⟩
  · have := run_storeCells_at P n off ab.e vs 0 c w hc1 (by omega) h1
    simpa [putCells] using this
  · refine R.write hro hb hn hc1 rfl rfl (size_putCells hfit') (by omega) fun j v hv => ?_
    rw [get_putCells hfit'] at hv
    by_cases hj : off ≤ j ∧ j < off + vs.length
    · rw [if_pos hj] at hv
      have := hok (j - off) v hv
      rwa [show off + (j - off) = j by omega] at this
    · rw [if_neg hj] at hv
      exact hc4 j v hv
/-- The shape of what may be stored at a place. -/
def candSh (ab : AB) (j : Nat) : Option Sh :=
  match ab.t.get j with
  | some (.any s) => some s
  | some _ => none
  | none => ab.d[j % ab.d.length]?
def candShs (ab : AB) (p : Nat) : Nat → Option (List Sh)
  | 0 => some []
  | n + 1 => match candSh ab p, candShs ab (p + 1) n with
    | some s, some l => some (s :: l)
    | _, _ => none
def sameCands (ab : AB) (ss : List Sh) (p esz n : Nat) : Nat → Bool
  | 0 => true
  | k + 1 => (match candShs ab p n with | some ss' => Sh.beqL ss' ss | none => false) && sameCands ab ss (p + esz) esz n k
theorem candShs_get {ab : AB} : ∀ {n p : Nat} {ss : List Sh}, candShs ab p n = some ss → ∀ q s, ss[q]? = some s → candSh ab (p + q) = some s
  | 0, p, ss, h, q, s, hq => by simp only [candShs, Option.some.injEq] at h; subst h; simp at hq
  | n + 1, p, ss, h, q, s, hq => by
    simp only [candShs] at h
    split at h
    · rename_i s0 l h1 h2
      cases h
      cases q with
      | zero => simp at hq; subst hq; simpa using h1
      | succ q =>
        simp at hq
        have := candShs_get h2 q s hq
        rwa [show p + 1 + q = p + (q + 1) by omega] at this
    · cases h
theorem sameCands_get {ab : AB} {ss : List Sh} {esz n : Nat} : ∀ {k p : Nat}, sameCands ab ss p esz n k = true → ∀ i, i < k → candShs ab (p + i * esz) n = some ss
  | 0, p, h, i, hi => by omega
  | k + 1, p, h, i, hi => by
    simp only [sameCands, Bool.and_eq_true] at h
    cases i with
    | zero =>
      have := h.1
      split at this
      · rename_i ss' e
        rw [Sh.beqL_eq _ _ this] at e
        simpa using e
      · cases this
    | succ i =>
      have := sameCands_get h.2 i (by omega)
      rwa [show p + esz + i * esz = p + (i + 1) * esz by rw [Nat.add_mul]; omega] at this
theorem candSh_ok {ab : AB} {j : Nat} {s : Sh} {v : Value} (h : candSh ab j = some s) (hs : SatSh σ.imm s v) : CellOk σ ab j v := by
  unfold candSh at h
  unfold CellOk
  split at h
  · rename_i s' e; cases h; rw [e]; simpa only [Sat] using hs
  · cases h
  · rename_i e; rw [e]
    exact (SatShAt.of_get ab.d _ v s h).2 hs
theorem SatShL.length {imm : Imm} : ∀ {l : List Sh} {vs : List Value}, SatShL imm l vs → vs.length = l.length
  | [], vs, h => by simp only [SatShL] at h; simp [h]
  | a :: l, vs, h => by simp only [SatShL] at h; obtain ⟨v, vs', rfl, _, h2⟩ := h; simp [SatShL.length h2]
/-- The shapes of what may be stored at an element whose number is not known. -/
def weakShs (H : AH) (ab : AB) (off esz sub : Nat) (i : Num) (n : Nat) : Option (List Sh) :=
  bif freeI H ab off esz sub i n && Nat.beq (esz % ab.d.length) 0 && Nat.blt 0 ab.d.length then some (cyc ab.d (off + sub) n)
  else match H.range i with
    | some (lo, hi) => bif decide (0 ≤ lo) && decide (hi - lo < 256) then match candShs ab (off + lo.toNat * esz + sub) n with
        | some ss => bif sameCands ab ss (off + lo.toNat * esz + sub) esz n (hi - lo + 1).toNat then some ss else none
        | none => none
      else none
    | none => none
theorem leaf_get {α : Type} {t : Tr α} (h : t.isLeaf = true) (j : Nat) : t.get j = none := by
  unfold Tr.isLeaf at h
  split at h
  · rfl
  · cases h
theorem weakShs_ok (R : Rel ro g σ H w) {ab : AB} {off esz sub n k : Nat} {i : Num} (hk : i.den σ = some (k : Int)) {ss : List Sh} (h : weakShs H ab off esz sub i n = some ss) {τ : Env} {vs : List Value} (hvs : vs.length = n)
    (hs : SatShL τ.imm ss vs) : ∀ q v, vs[q]? = some v → CellOk τ ab (off + k * esz + sub + q) v := by
  intro q v hv
  have hq : q < n := by have := (List.getElem?_eq_some_iff.1 hv).1; omega
  unfold weakShs at h
  simp only [cond_eq_ite, Bool.and_eq_true, Nat.beq_eq, Nat.blt_eq, decide_eq_true_eq] at h
  split at h
  · rename_i hd
    cases h
    obtain ⟨p, hp⟩ := Nat.dvd_of_mod_eq_zero hd.1.2
    have e1 := cyc_get ab.d n (off + sub) q hq
    have hmod : (off + sub + q) % ab.d.length < ab.d.length := Nat.mod_lt _ hd.2
    simp only [List.getElem?_eq_getElem hmod] at e1
    have e2 := hs.get e1 hv
    have e3 : off + k * esz + sub + q = ab.d.length * (k * p) + (off + sub + q) := by
      rw [hp, show k * (ab.d.length * p) = ab.d.length * (k * p) by rw [← Nat.mul_assoc, Nat.mul_comm k, Nat.mul_assoc]]; omega
    unfold CellOk
    rw [freeI_get R hd.1.1 hk _ (by omega) (by omega)]
    dsimp only
    rw [e3, Nat.mul_add_mod]
    exact (SatShAt.of_get ab.d _ v _ (List.getElem?_eq_getElem hmod)).2 e2
  · split at h
    · rename_i lo hi hr
      have hrange := R.range hk hr
      split at h
      · rename_i hc
        split at h
        · rename_i ss' hcand
          split at h
          · rename_i hsame
            cases h
            have := sameCands_get hsame (k - lo.toNat) (by omega)
            have e : off + lo.toNat * esz + sub + (k - lo.toNat) * esz = off + k * esz + sub := by
              have : lo.toNat * esz + (k - lo.toNat) * esz = k * esz := by rw [← Nat.add_mul]; congr 1; omega
              omega
            rw [e] at this
            have hlen := SatShL.length hs
            have hq' : q < ss.length := by omega
            have e1 := candShs_get this q _ (List.getElem?_eq_getElem hq')
            exact candSh_ok e1 (hs.get (List.getElem?_eq_getElem hq') hv)
          · cases h
        · cases h
      · cases h
    · cases h
def setCols (t : Tr AV) (ss : List Sh) (esz : Nat) : Nat → Nat → Tr AV
  | _, 0 => t
  | p, k + 1 => setCols (setL t p (openShL ss)) ss esz (p + esz) k
theorem openShL_get : ∀ (l : List Sh) (q : Nat), (openShL l)[q]? = l[q]?.map .any
  | [], q => by simp [openShL]
  | a :: l, 0 => by simp [openShL]
  | a :: l, q + 1 => by simp [openShL, openShL_get l q]
theorem openShL_length : ∀ l : List Sh, (openShL l).length = l.length
  | [] => rfl
  | a :: l => by simp [openShL, openShL_length l]
theorem setCols_get {ss : List Sh} {esz : Nat} {j : Nat} {av : AV} : ∀ {k p : Nat} {t : Tr AV}, p + k * esz + ss.length + 2 ≤ 1099511627776 → (setCols t ss esz p k).get j = some av →
    t.get j = some av ∨ ∃ e q s, e < k ∧ ss[q]? = some s ∧ j = p + e * esz + q ∧ av = .any s
  | 0, p, t, hs, h => .inl h
  | k + 1, p, t, hs, h => by
    have hmul : (k + 1) * esz = k * esz + esz := by rw [Nat.add_mul]; omega
    rcases setCols_get (t := setL t p (openShL ss)) (by omega) h with h | ⟨e, q, s, h1, h2, h3, h4⟩
    · rw [get_setL _ _ _ _ (by rw [openShL_length]; omega), openShL_length] at h
      split at h
      · rename_i hj
        rw [openShL_get, Option.map_eq_some_iff] at h
        obtain ⟨s, hs', rfl⟩ := h
        exact .inr ⟨0, j - p, s, by omega, hs', by omega, rfl⟩
      · exact .inl h
    · exact .inr ⟨e + 1, q, s, by omega, h2, by rw [h3, Nat.add_mul]; omega, h4⟩
theorem setCols_none {ss : List Sh} {esz : Nat} {j : Nat} : ∀ {k p : Nat} {t : Tr AV}, p + k * esz + ss.length + 2 ≤ 1099511627776 → (setCols t ss esz p k).get j = none → t.get j = none
  | 0, p, t, hs, h => h
  | k + 1, p, t, hs, h => by
    have hmul : (k + 1) * esz = k * esz + esz := by rw [Nat.add_mul]; omega
    have h1 := setCols_none (t := setL t p (openShL ss)) (by omega) h
    rw [get_setL _ _ _ _ (by rw [openShL_length]; omega), openShL_length] at h1
    split at h1
    · rename_i hj
      rw [openShL_get, Option.map_eq_none_iff, List.getElem?_eq_none_iff] at h1
      omega
    · exact h1
/-- A block of which less is known. -/
theorem Rel.less (R : Rel ro g σ H w) {b : Nat} {ab ab' : AB} (hb : H.hp.get b = some ab) (he : ab'.e = ab.e) (hn : ab'.n = ab.n) (hc : ∀ j v, CellOk σ ab j v → CellOk σ ab' j v) :
    Rel ro g σ { H with hp := H.hp.set b (some ab') } w := by
  have get : ∀ b' x, ({ H with hp := H.hp.set b (some ab') } : AH).hp.get b' = some x → ∃ y, H.hp.get b' = some y ∧ x.e = y.e ∧ x.n = y.n ∧ ∀ j v, CellOk σ y j v → CellOk σ x j v := by
    intro b' x h
    have h : (H.hp.set b (some ab')).get b' = some x := h
    rcases Tr.get_set_some h with ⟨h0, h⟩ | ⟨_, h⟩
    · cases h; subst h0; exact ⟨ab, hb, he, hn, hc⟩
    · exact ⟨x, h, rfl, rfl, fun _ _ h => h⟩
  refine ⟨R.nlen, R.rng, R.lts, R.blen, ?_, ?_, R.imm, ?_, R.frame, R.sz, R.own, R.bnd, R.immo, R.fx⟩
  · intro b' x h
    obtain ⟨y, h1, h2, h3, h4⟩ := get b' x h
    obtain ⟨n, sz, k1, c, k2, k3, k4, k5⟩ := R.blk b' y h1
    exact ⟨n, sz, k1, c, by rw [h2]; exact k2, k3, by omega, fun j v hv => h4 j v (k5 j v hv)⟩
  · intro b1 b2 a1 a2 n s s' h h' e1 e2
    obtain ⟨y1, h1, _⟩ := get _ _ h
    obtain ⟨y2, h2, _⟩ := get _ _ h'
    exact R.inj b1 b2 y1 y2 n s s' h1 h2 e1 e2
  · intro b' x n s h e
    obtain ⟨y, h1, _⟩ := get _ _ h
    exact R.immd b' y n s h1 e
def weakH (H : AH) (b : Nat) (ab : AB) (off esz sub : Nat) (i : Num) (n : Nat) : AH × AB :=
  match weakShs H ab off esz sub i n with
  | some _ => (H, ab)
  | none => match H.range i with
    | some (lo, hi) => bif decide (0 ≤ lo) && decide (hi - lo < 512) && Nat.ble (off + lo.toNat * esz + sub + (hi - lo + 1).toNat * esz + n + 2) 1099511627776 then
        match colsL H ab esz (hi - lo + 1).toNat (off + lo.toNat * esz + sub) n with
        | some ss => ({ H with hp := H.hp.set b (some { ab with t := setCols ab.t ss esz (off + lo.toNat * esz + sub) (hi - lo + 1).toNat }) }, { ab with t := setCols ab.t ss esz (off + lo.toNat * esz + sub) (hi - lo + 1).toNat })
        | none => (H, ab)
      else (H, ab)
    | none => (H, ab)
theorem weakH_sound (R : Rel ro g σ H w) {b : Nat} {ab : AB} (hb : H.hp.get b = some ab) (off esz sub : Nat) (i : Num) (n : Nat) :
    Rel ro g σ (weakH H b ab off esz sub i n).1 w ∧ ∀ x, (weakH H b ab off esz sub i n).1.hp.get b = some x → x = (weakH H b ab off esz sub i n).2 := by
  unfold weakH
  split
  · exact ⟨R, fun x hx => by rw [hb] at hx; cases hx; rfl⟩
  · split
    · rename_i lo hi hr
      rw [cond_eq_ite]
      split
      · rename_i hc
        simp only [Bool.and_eq_true, decide_eq_true_eq, Nat.ble_eq] at hc
        split
        · rename_i ss hss
          dsimp only
          have hlen := colsL_length hss
          refine ⟨R.less hb rfl rfl fun j v hv => ?_, fun x hx => ?_⟩
          rotate_left
          · rcases Tr.get_set_some hx with ⟨_, h⟩ | ⟨h, _⟩
            · cases h; rfl
            · exact absurd rfl h
          unfold CellOk
          dsimp only
          cases hg : (setCols ab.t ss esz (off + lo.toNat * esz + sub) (hi - lo + 1).toNat).get j with
          | none =>
            dsimp only
            have hv' := hv
            unfold CellOk at hv'
            rw [setCols_none (by omega) hg] at hv'
            exact hv'
          | some av =>
            dsimp only
            rcases setCols_get (by omega) hg with h | ⟨e, q, s, h1, h2, h3, h4⟩
            · have hv' := hv
              unfold CellOk at hv'
              rw [h] at hv'; exact hv'
            · subst h4
              simp only [Sat]
              refine cellSh_ok R (colsL_get hss q s h2 e h1) ?_
              rw [show off + lo.toNat * esz + sub + q + e * esz = j by omega]; exact hv
        · exact ⟨R, fun x hx => by rw [hb] at hx; cases hx; rfl⟩
      · exact ⟨R, fun x hx => by rw [hb] at hx; cases hx; rfl⟩
    · exact ⟨R, fun x hx => by rw [hb] at hx; cases hx; rfl⟩
/-- What was stored at a place that is not known. -/
def storeFx (H : AH) (b esz : Nat) (i : Num) (c : Nat) (l : List AV) : AH :=
  bif H.fm && Nat.beq esz 1 then match i.s, l with
    | some s, [.int k v] => H.addFx (.cell b ⟨some s, i.c + (c : Nat)⟩ k v)
    | _, _ => H
  else H
theorem storeFx_ok {τ : Env} {H : AH} {w' : World} (R : Rel ro g τ H w') {b n sz off sub k esz : Nat} (hn : τ.b[b]? = some (some (n, sz))) {i : Num} (hk : i.den τ = some (k : Int)) {l : List AV} {vs : List Value} (hl : SatL τ l vs)
    {c : Array Value} {e : TypeId} {fr : Nat × Nat} (hc : w'.heap[n]? = some (.cells c e fr)) (hv : ∀ v, vs = [v] → c[off + k * esz + sub]? = some v) : Rel ro g τ (storeFx H b esz i (off + sub) l) w' := by
  unfold storeFx
  simp only [cond_eq_ite, Bool.and_eq_true, Nat.beq_eq]
  split
  · rename_i h1
    obtain ⟨_, rfl⟩ := h1
    split
    · rename_i s k' v hs
      simp only [SatL, Sat] at hl
      obtain ⟨u, vs', rfl, ⟨m, hm, rfl⟩, rfl⟩ := hl
      refine R.addFx ⟨n, sz, c, e, fr, m, off + k * 1 + sub, hn, hc, ?_, hv _ rfl, hm⟩
      simp only [Num.den, hs, Option.map_eq_some_iff] at hk ⊢
      obtain ⟨q, hq, e⟩ := hk
      exact ⟨q, hq, by omega⟩
    · exact R
  · exact R
def zeroOk : Value → Sh → Bool
  | _, .any => true
  | .int k n, .int k' lo hi => decide (k = k') && decide (lo ≤ n) && decide (n ≤ hi)
  | .bool _, .bool => true
  | .string _, .str => true
  | .slice none 0 0, .slice _ 0 _ => true
  | .pointer none, .ptr _ => true
  | _, _ => false
theorem zeroOk_sound {imm : Imm} {v : Value} {s : Sh} (h : zeroOk v s = true) : SatSh imm s v := by
  unfold zeroOk at h
  split at h
  · simp [SatSh]
  · simp only [Bool.and_eq_true, decide_eq_true_eq] at h
    simp only [SatSh]
    exact ⟨_, by rw [h.1.1], h.1.2, h.2⟩
  · simp only [SatSh]; exact ⟨_, rfl⟩
  · simp only [SatSh]; exact ⟨_, rfl⟩
  · simp only [SatSh]; exact ⟨none, 0, 0, rfl, by omega, by omega, by omega, .inl ⟨rfl, rfl⟩⟩
  · unfold SatSh; exact .inl rfl
  · cases h
def zerosOk : List Value → List Sh → Bool
  | [], [] => true
  | v :: l, s :: ss => zeroOk v s && zerosOk l ss
  | _, _ => false
theorem zerosOk_get {imm : Imm} : ∀ {l : List Value} {ss : List Sh}, zerosOk l ss = true → l.length = ss.length ∧ ∀ (j : Nat) (v : Value), l[j]? = some v → SatShAt imm ss j v
  | [], [], _ => ⟨rfl, fun j v h => by simp at h⟩
  | [], s :: ss, h => by simp [zerosOk] at h
  | v :: l, [], h => by simp [zerosOk] at h
  | v :: l, s :: ss, h => by
    simp only [zerosOk, Bool.and_eq_true] at h
    obtain ⟨h1, h2⟩ := zerosOk_get (imm := imm) h.2
    refine ⟨by simp [h1], fun j u hu => ?_⟩
    cases j with
    | zero => simp at hu; subst hu; simp only [SatShAt]; exact zeroOk_sound h.1
    | succ j => simp at hu; simp only [SatShAt]; exact h2 j u hu
/-- Does what is laid fit what the block holds anyhow? -/
def fitAV (H : AH) (a : AV) (s : Sh) : Bool :=
  match a, s with
  | _, .any => true
  | .int k x, .int k' lo hi => decide (k = k') && (match H.range x with | some (a, b) => decide (lo ≤ a) && decide (b ≤ hi) | none => false)
  | .bool _, .bool => true
  | .str _, .str => true
  | .any t, s => shLe t s
  | .lit v, s => zeroOk v s
  | .osl cs l, .slice cs' lo hi => Sh.beqL cs cs' && (match H.range l with | some (a, b) => decide ((lo : Int) ≤ a) && decide (b ≤ (hi : Int)) | none => false)
  | _, _ => false
def fits (H : AH) (d : List Sh) : Nat → List AV → Bool
  | _, [] => true
  | p, a :: l => (match d[p % d.length]? with | some s => fitAV H a s | none => false) && fits H d (p + 1) l
theorem fitAV_ok (R : Rel ro g σ H w) {a : AV} {s : Sh} {v : Value} (h : fitAV H a s = true) (hs : Sat σ a v) : SatSh σ.imm s v := by
  unfold fitAV at h
  split at h
  · simp [SatSh]
  · rename_i k x k' lo hi
    simp only [Bool.and_eq_true, decide_eq_true_eq] at h
    obtain ⟨rfl, h⟩ := h
    simp only [Sat] at hs
    obtain ⟨n, hn, rfl⟩ := hs
    split at h
    · rename_i a b hr
      simp only [Bool.and_eq_true, decide_eq_true_eq] at h
      have := R.range hn hr
      simp only [SatSh]
      exact ⟨n, rfl, by omega, by omega⟩
    · cases h
  · simp only [Sat, SatSh] at hs ⊢
    obtain ⟨b, _, rfl⟩ := hs
    exact ⟨b, rfl⟩
  · simp only [Sat, SatSh] at hs ⊢
    exact ⟨_, hs⟩
  · simp only [Sat] at hs
    exact shLe_sound h hs
  · simp only [Sat] at hs
    subst hs
    exact zeroOk_sound h
  · rename_i cs l cs' lo hi
    simp only [Bool.and_eq_true] at h
    obtain ⟨hc, h⟩ := h
    have := Sh.beqL_eq _ _ hc
    subst this
    simp only [Sat] at hs
    obtain ⟨base, n, cap, rfl, h1, h2, h3⟩ := hs
    split at h
    · rename_i a b hr
      simp only [Bool.and_eq_true, decide_eq_true_eq] at h
      have := R.range h1 hr
      simp only [SatSh]
      exact ⟨base, n, cap, rfl, by omega, by omega, h2, h3⟩
    · cases h
  · cases h
theorem fits_ok (R : Rel ro g σ H w) {ab : AB} (hl : ab.t.isLeaf = true) : ∀ {l : List AV} {vs : List Value} {p : Nat}, fits H ab.d p l = true → SatL σ l vs → ∀ q v, vs[q]? = some v → CellOk σ ab (p + q) v
  | [], vs, p, h, hs, q, v, hq => by simp only [SatL] at hs; subst hs; simp at hq
  | a :: l, vs, p, h, hs, q, v, hq => by
    simp only [fits, Bool.and_eq_true] at h
    simp only [SatL] at hs
    obtain ⟨u, vs', rfl, h1, h2⟩ := hs
    cases q with
    | zero =>
      simp at hq; subst hq
      have h0 := h.1
      split at h0
      · rename_i s hd
        unfold CellOk
        rw [leaf_get hl]
        dsimp only
        exact (SatShAt.of_get ab.d _ _ s hd).2 (fitAV_ok R h0 h1)
      · cases h0
    | succ q =>
      simp at hq
      have := fits_ok R hl h.2 h2 q v hq
      rwa [show p + 1 + q = p + (q + 1) by omega] at this
def fitD (H : AH) (d : List Sh) (j : Nat) (a : AV) : Bool := match d[j % d.length]? with
  | some s => fitAV H a s
  | none => false
/-- Cells laid, where more is known than the block's kind says, or where it was known. -/
def setLD (H : AH) (d : List Sh) : Tr AV → Nat → List AV → Tr AV
  | t, _, [] => t
  | t, off, a :: l => setLD H d (match t.get off with
    | some _ => t.set off (some a)
    | none => bif fitD H d off a then t else t.set off (some a)) (off + 1) l
def CellT (σ : Env) (t : Tr AV) (d : List Sh) (j : Nat) (v : Value) : Prop :=
  match t.get j with
  | some av => Sat σ av v
  | none => SatShAt σ.imm d (j % d.length) v
theorem setLD_ok (R : Rel ro g σ H w) {d : List Sh} {f : Nat → Option Value} : ∀ (l : List AV) (vs : List Value) (t : Tr AV) (off : Nat), off + l.length + 2 ≤ 1099511627776 → SatL σ l vs →
    (∀ q v, vs[q]? = some v → f (off + q) = some v) → (∀ j v, f j = some v → ¬ (off ≤ j ∧ j < off + l.length) → CellT σ t d j v) → ∀ j v, f j = some v → CellT σ (setLD H d t off l) d j v
  | [], vs, t, off, _, hs, _, h, j, v, hj => h j v hj (by simp)
  | a :: l, vs, t, off, hsm, hs, hf, h, j, v, hj => by
    simp only [SatL] at hs
    obtain ⟨u, us, rfl, h1, h2⟩ := hs
    simp only [List.length_cons] at hsm h
    have hu : f off = some u := by have := hf 0 u rfl; simpa using this
    simp only [setLD]
    refine setLD_ok R l us _ (off + 1) (by omega) h2 (fun q v hq => ?_) (fun j v hj hn => ?_) j v hj
    · have := hf (q + 1) v (by simpa using hq)
      rwa [show off + (q + 1) = off + 1 + q by omega] at this
    · by_cases hjo : j = off
      · subst hjo
        rw [hu] at hj; cases hj
        split
        · unfold CellT; rw [Tr.get_set _ _ _ _ (by omega)]; simpa using h1
        · rename_i hg
          rw [cond_eq_ite]
          split
          · rename_i hfit
            unfold fitD at hfit
            unfold CellT
            rw [hg]
            dsimp only
            split at hfit
            · rename_i s hd
              exact (SatShAt.of_get d _ _ s hd).2 (fitAV_ok R hfit h1)
            · cases hfit
          · unfold CellT; rw [Tr.get_set _ _ _ _ (by omega)]; simpa using h1
      · have h0 := h j v hj (by omega)
        have key : ∀ t' : Tr AV, t'.get j = t.get j → CellT σ t' d j v := by
          intro t' e; unfold CellT at *; rw [e]; exact h0
        split
        · exact key _ (by rw [Tr.get_set _ _ _ _ (by omega)]; simp [hjo])
        · rw [cond_eq_ite]
          split
          · exact h0
          · exact key _ (by rw [Tr.get_set _ _ _ _ (by omega)]; simp [hjo])
def layH (H : AH) (b : Nat) (ab : AB) (off : Nat) (l : List AV) : AH :=
  H.put b { ab with t := bif H.fm then setL ab.t off l else setLD H ab.d ab.t off l }
theorem Rel.layX (R : Rel ro g σ H w) {b : Nat} {ab : AB} (hro : ro b = true) (hb : H.hp.get b = some ab) {n sz : Nat} (hn : σ.b[b]? = some (some (n, sz))) {off : Nat} {l : List AV} {vs : List Value}
    (hl : SatL σ l vs) (hc : l.all isCell = true) (hfit : off + l.length ≤ sz) (hsm : small (off + l.length) = true) :
    ∃ w', (storeCells ⟨n, off, none⟩ vs).run P w = .ok () w' ∧ Rel ro g σ (layH H b ab off l) w' := by
  unfold layH
  rw [cond_eq_ite]
  split
  · obtain ⟨c, e1, e2, e3, e4, e5⟩ := R.lay (P := P) hro hb hn (off := off) hl hc hfit hsm
    exact ⟨_, e4, e5⟩
  · obtain ⟨c, e1, e2, e3, e4, _⟩ := R.lay (P := P) hro hb hn (off := off) hl hc hfit hsm
    obtain ⟨n', sz', hm', c', hc1, hc2, hc3, hc4⟩ := R.blk _ _ hb
    rw [hn] at hm'; cases hm'
    rw [e1] at hc1; cases hc1
    have hlen := hl.length
    unfold small at hsm
    rw [Nat.ble_eq] at hsm
    refine ⟨_, e4, R.write hro hb hn e1 rfl rfl (size_putCells e2) (by dsimp only; omega) fun j v hv => ?_⟩
    show CellT σ (setLD H ab.d ab.t off l) ab.d j v
    refine setLD_ok R (f := fun j => (putCells c off vs)[j]?) l vs ab.t off (by omega) hl (fun q v hq => ?_) (fun j v hj hn => ?_) j v hv
    · have hlt := (List.getElem?_eq_some_iff.1 hq).1
      show (putCells c off vs)[off + q]? = some v
      rw [get_putCells e2, if_pos ⟨by omega, by omega⟩]
      rw [show off + q - off = q by omega]; exact hq
    · have hj : (putCells c off vs)[j]? = some v := hj
      rw [get_putCells e2, if_neg (by omega)] at hj
      exact hc4 j v hj
def storeC (ro : Nat → Bool) (H : AH) (a : AV) (l : List AV) : Option AH :=
  match a with
  | .ptr b off => match H.hp.get b with
    | some ab => bif ro b && Nat.ble (off + l.length) ab.n && small (off + l.length) then some (layH H b ab off l) else none
    | none => none
  | .eptr b off esz i sub lim => match H.hp.get b with
    | some ab => bif ro b && Nat.ble l.length lim then
        match (H.norm i).s with
        | none => bif small (off + (H.norm i).c.toNat * esz + sub + l.length) then some (layH H b ab (off + (H.norm i).c.toNat * esz + sub) l) else none
        | some _ => match weakShs (weakH H b ab off esz sub (H.norm i) l.length).1 (weakH H b ab off esz sub (H.norm i) l.length).2 off esz sub (H.norm i) l.length with
          | some ss => match foldSh (toSh ro 4) (weakH H b ab off esz sub (H.norm i) l.length).1 l ss with
            | some H' => match H'.hp.get b with
              | some ab' => some (storeFx (H'.put b ab') b esz (H.norm i) (off + sub) l)
              | none => none
            | none => none
          | none => none
      else none
    | none => none
  | _ => none
theorem storeC_sound (R : Rel ro g σ H w) {a : AV} {u : Value} (hu : Sat σ a u) {l : List AV} {vs : List Value} (hl : SatL σ l vs) (hc : l.all isCell = true) {H' : AH} (h : storeC ro H a l = some H') :
    ∃ ad σ' w', u = .pointer (some ad) ∧ σ.le σ' ∧ Rel ro g σ' H' w' ∧ (storeCells ad vs).run P w = .ok () w' := by
  have hlen := hl.length
  have h1 := satL_oneCell hl hc
  unfold storeC at h
  split at h
  · rename_i b off
    split at h
    · rename_i ab hab
      simp only [cond_eq_ite, Bool.and_eq_true, Nat.ble_eq] at h
      split at h
      · rename_i hq
        cases h
        simp only [Sat] at hu
        obtain ⟨n, sz, hn, rfl⟩ := hu
        obtain ⟨n', sz', hm', c0, _, hc2, hc3, _⟩ := R.blk _ _ hab
        rw [hn] at hm'; cases hm'
        obtain ⟨w', e4, e5⟩ := R.layX (P := P) hq.1.1 hab hn (off := off) hl hc (by omega) hq.2
        exact ⟨_, σ, w', rfl, .refl σ, e5, e4⟩
      · cases h
    · cases h
  · rename_i b off esz i sub lim
    split at h
    · rename_i ab hab
      simp only [cond_eq_ite, Bool.and_eq_true, Nat.ble_eq] at h
      split at h
      · rename_i hq
        simp only [Sat] at hu
        obtain ⟨n, sz, k, hn, hk, hlim, rfl⟩ := hu
        have hk := R.norm hk
        split at h
        · rename_i hs
          have hkc : (H.norm i).c = k := by simpa [Num.den, hs] using hk
          rw [hkc] at h
          simp only [Int.toNat_natCast] at h
          split at h
          · rename_i hsm
            cases h
            obtain ⟨w', e4, e5⟩ := R.layX (P := P) hq.1 hab hn (off := off + k * esz + sub) hl hc (by omega) hsm
            exact ⟨_, σ, w', rfl, .refl σ, e5, e4⟩
          · cases h
        · split at h
          · rename_i ss hss
            split at h
            · rename_i H1 hf
              split at h
              · rename_i ab' hab'
                cases h
                obtain ⟨R0, w0⟩ := weakH_sound R hab off esz sub (H.norm i) l.length
                obtain ⟨σ', l1, en, eb, R1, s1, u1⟩ := foldSh_sound (toSh_sound 4) _ _ _ σ _ H1 R0 hl hf
                have := w0 _ (u1 _ _ hab')
                subst this
                have hok := weakShs_ok R0 hk hss hlen s1
                have hn' : σ'.b[b]? = some (some (n, sz)) := by rw [eb]; exact hn
                obtain ⟨c, e1, e2, e3⟩ := R1.layAny (P := P) hq.1 hab' hn' h1 (off := off + k * esz + sub) (by omega) hok
                refine ⟨_, σ', _, rfl, l1, storeFx_ok e3 hn' (Num.den_mono l1 hk) (SatL.mono l1 _ _ hl) (setRow_heap _ _ _ _ _ _ e1) (fun v hv => ?_), e2⟩
                subst hv
                have hsz : off + k * esz + sub < c.size := by
                  obtain ⟨n2, sz2, q1, c2, q2, q3, _⟩ := R1.blk _ _ hab'
                  rw [hn'] at q1; cases q1
                  rw [e1] at q2; cases q2
                  have : l.length = 1 := by rw [← hlen]; rfl
                  omega
                rw [get_putCells (by simp; omega)]
                simp
              · cases h
            · cases h
          · cases h
      · cases h
    · cases h
  · cases h
/-- The places of an element whose number is not known, one by one, where they are few and known. -/
def forkAddr (H : AH) (a : AV) : List (AH × AV) :=
  match a with
  | .eptr b off esz i sub lim => match (H.norm i).s, H.hp.get b, H.range (H.norm i) with
    | some _, some ab, some (lo, hi) => bif !ab.t.isLeaf && decide (hi - lo < 16) && Nat.ble ab.n 64 then (forkI H (H.norm i) lo (hi - lo + 1).toNat).map fun q => (q.1, .eptr b off esz (cNum q.2) sub lim) else [(H, a)]
    | _, _, _ => [(H, a)]
  | a => [(H, a)]
theorem forkAddr_sound (R : Rel ro g σ H w) {a : AV} {u : Value} (hu : Sat σ a u) : ∃ q ∈ forkAddr H a, Rel ro g σ q.1 w ∧ Sat σ q.2 u := by
  unfold forkAddr
  split
  · rename_i b off esz i sub lim
    have stay : ∃ q ∈ [(H, AV.eptr b off esz i sub lim)], Rel ro g σ q.1 w ∧ Sat σ q.2 u := ⟨_, List.mem_singleton.2 rfl, R, hu⟩
    split
    · rename_i s ab lo hi hs hab hr
      rw [cond_eq_ite]
      split
      · simp only [Sat] at hu
        obtain ⟨n, sz, k, hn, hk, hlim, rfl⟩ := hu
        have hk := R.norm hk
        have hb := R.range hk hr
        obtain ⟨H', hm, R'⟩ := R.forkI hk (hi - lo + 1).toNat lo hb.1 (by omega)
        refine ⟨_, List.mem_map.2 ⟨_, hm, rfl⟩, R', ?_⟩
        simp only [Sat]
        exact ⟨n, sz, k, hn, den_cNum _, hlim, rfl⟩
      · exact stay
    · exact stay
  · exact ⟨_, List.mem_singleton.2 rfl, R, hu⟩
def storeV (P : Program) (ro : Nat → Bool) (H : AH) (t : TypeId) (a v : AV) : Option AH :=
  match acells v, tSize P t with
  | some l, some n => bif decide (l.length = n) && l.all isCell then storeC ro H a l else none
  | _, _ => none
theorem storeV_sound (R : Rel ro g σ H w) {t : TypeId} {a v : AV} {u x : Value} (hu : Sat σ a u) (hx : Sat σ v x) {H' : AH} (h : storeV P ro H t a v = some H') :
    ∃ σ' w', σ.le σ' ∧ Rel ro g σ' H' w' ∧ (Instr.storeAt t u x).run P w = .ok () w' := by
  unfold storeV at h
  split at h
  · rename_i l n hl hn
    simp only [cond_eq_ite, Bool.and_eq_true, decide_eq_true_eq] at h
    split at h
    · rename_i hc
      have hs := acells_sound hl hx
      obtain ⟨ad, σ', w', rfl, h1, h2, h3⟩ := storeC_sound (P := P) R hu hs hc.2 h
      refine ⟨σ', w', h1, h2, ?_⟩
      have hlen := hs.length
      have : ¬ (x.cells.size ≠ n) := by simp at hlen; omega
      simp only [Instr.storeAt, Instr.sureAddr, Sem.run_bind, Sem.run_pure, Result.andThen_ok, storeVar, run_sizeOf' hn, this, if_false, h3]
    · cases h
  · cases h
/-! made -/
/-- The kind by which a great struct's other cells are named later on: all of them are known at first. -/
def dHint (e : TypeId) : List Sh := bif Nat.beq e 68 then [.ptr [.int .u8 0 255, .int .u8 0 255, .int .u8 0 255, .int .u8 0 255, .int .u8 0 255, .int .u8 0 255, .int .u8 0 255, .int .u8 0 255, .slice [.int .u8 0 255] 0 9223372036854775807, .slice [.int .u8 0 255] 0 9223372036854775807]]
  else bif Nat.beq e 106 then [.int .u8 0 255] else []
def newB (H : AH) (e : TypeId) (l : List AV) : AH := H.alloc { t := setL .leaf 0 l, d := dHint e, n := l.length, e := e }
theorem newB_sound (R : Rel ro g σ H w) {e : TypeId} {l : List AV} {vs : List Value} (hl : SatL σ l vs) (hs : small l.length = true) {w' : World} (hw : w'.heap = w.heap.push (.cells ⟨vs⟩ e (0, 0))) (hos : w'.os = w.os := by rfl) (hout : w'.output = w.output := by rfl) :
    Rel ro g (σ.withB w.heap.size vs.length) (newB H e l) w' ∧ (σ.withB w.heap.size vs.length).b[H.nb]? = some (some (w.heap.size, vs.length)) := by
  have hlen := hl.length
  have hle := σ.le_withB w.heap.size vs.length
  refine R.alloc (ab := { t := setL .leaf 0 l, d := dHint e, n := l.length, e := e }) (c := ⟨vs⟩) hw (by simp; omega) (fun j v hv => ?_) hos hout
  unfold CellOk
  dsimp only
  unfold small at hs
  rw [Nat.ble_eq] at hs
  rw [get_setL l .leaf 0 j (by omega)]
  simp only [List.getElem?_toArray] at hv
  have hj : j < vs.length := (List.getElem?_eq_some_iff.1 hv).1
  rw [if_pos ⟨by omega, by omega⟩]
  have hlt : j - 0 < l.length := by omega
  rw [List.getElem?_eq_getElem hlt]
  obtain ⟨v', e1, e2⟩ := hl.get (List.getElem?_eq_getElem hlt)
  rw [Nat.sub_zero, hv] at e1; cases e1
  exact Sat.mono hle _ _ e2
def shOf : AV → Sh
  | .any s => s
  | .int k _ => .int k k.min k.max
  | .bool _ => .bool
  | .str _ => .str
  | .osl cs _ => .slice cs 0 9223372036854775807
  | _ => .any
def isAnyS : Sh → Bool
  | .any => true
  | _ => false
def isVarA : AV → Bool
  | .int _ ⟨some _, _⟩ => true
  | .bool (.c _) => false
  | .bool _ => true
  | .any _ => true
  | _ => false
/-- A great one of which nothing is known is known by its kind alone. -/
def boxD (H : AH) (l : List AV) : Bool := !H.fm && Nat.ble 12 l.length && l.all isVarA && !((l.map shOf).any isAnyS) && fits H (l.map shOf) 0 l
def boxV (H : AH) (e : TypeId) (a : AV) : Option (AH × AV) :=
  match acells a with
  | some l => bif boxD H l then some (H.alloc { t := .leaf, d := l.map shOf, n := l.length, e := e }, .ptr H.nb 0)
      else bif small l.length then some (newB H e l, .ptr H.nb 0) else none
  | none => none
theorem boxV_sound (R : Rel ro g σ H w) {e : TypeId} {a : AV} {u : Value} (hu : Sat σ a u) {p : AH × AV} (h : boxV H e a = some p) :
    ∃ σ' w' V, σ.le σ' ∧ Rel ro g σ' p.1 w' ∧ Sat σ' p.2 V ∧ (Instr.box e u).run P w = .ok V w' := by
  unfold boxV at h
  split at h
  · rename_i l hl
    have hl := acells_sound hl hu
    rw [cond_eq_ite] at h
    split at h
    · rename_i hd
      cases h
      unfold boxD at hd
      simp only [Bool.and_eq_true] at hd
      have hlen := hl.length
      obtain ⟨R', hb⟩ := R.alloc (ab := { t := .leaf, d := l.map shOf, n := l.length, e := e }) (c := u.cells) (w' := w.alloc (.cells u.cells e)) rfl (by simp at hlen; simp [hlen])
        (fun j v hv => by
          have := fits_ok R (ab := { t := .leaf, d := l.map shOf, n := l.length, e := e }) rfl hd.2 hl j v (by rw [Array.getElem?_toList]; exact hv)
          rw [Nat.zero_add] at this
          exact this.mono (σ.le_withB _ _))
      exact ⟨_, _, .pointer (some ⟨w.heap.size, 0, none⟩), σ.le_withB _ _, R', by simp only [Sat]; exact ⟨_, _, hb, rfl⟩, by simp [Instr.box, newVar, newRow]⟩
    · rw [cond_eq_ite] at h
      split at h
      · rename_i hs
        cases h
        obtain ⟨R', hb⟩ := newB_sound R hl hs (e := e) (w' := w.alloc (.cells u.cells e)) rfl
        exact ⟨_, _, .pointer (some ⟨w.heap.size, 0, none⟩), σ.le_withB _ _, R', by simp only [Sat]; exact ⟨_, _, hb, rfl⟩, by simp [Instr.box, newVar, newRow]⟩
      · cases h
  · cases h
/-- Many cells, all 0, of one kind. -/
def manyZ : AV → Option (IntKind × Nat)
  | .agg (.int k ⟨none, 0⟩ :: l) => bif Nat.ble 39 l.length && decide (k.min ≤ 0) && decide (0 ≤ k.max) && l.all (fun a => match a with | .int k' ⟨none, 0⟩ => decide (k' = k) | _ => false) then some (k, l.length + 1) else none
  | _ => none
def allocV (P : Program) (H : AH) (e : TypeId) : Option (AH × AV) :=
  match tZero P e with
  | some z => match (bif H.fm then none else manyZ (ofVal z)) with
    | some (k, n) => some (H.alloc { t := .leaf, d := [.int k k.min k.max], n := n, e := e }, .ptr H.nb 0)
    | none => boxV H e (ofVal z)
  | none => none
theorem manyZ_cells {σ : Env} {a : AV} {u : Value} (hu : Sat σ a u) {k : IntKind} {n : Nat} (h : manyZ a = some (k, n)) : u.cells.size = n ∧ k.min ≤ 0 ∧ 0 ≤ k.max ∧ ∀ (j : Nat) (v : Value), u.cells[j]? = some v → v = Value.int k 0 := by
  unfold manyZ at h
  split at h
  · rename_i k' l
    simp only [cond_eq_ite, Bool.and_eq_true, Nat.ble_eq, decide_eq_true_eq, List.all_eq_true] at h
    split at h
    · rename_i hc
      cases h
      simp only [Sat] at hu
      obtain ⟨vs, rfl, hs⟩ := hu
      have hlen := hs.length
      simp only [Value.cells]
      refine ⟨by simpa using hlen, hc.1.1.2, hc.1.2, fun j v hv => ?_⟩
      simp only [List.getElem?_toArray] at hv
      have hj : j < (AV.int k ⟨none, 0⟩ :: l).length := by rw [← hlen]; exact (List.getElem?_eq_some_iff.1 hv).1
      obtain ⟨v', e1, e2⟩ := hs.get (List.getElem?_eq_getElem hj)
      rw [hv] at e1; cases e1
      have hall : ∀ x ∈ (AV.int k ⟨none, 0⟩ :: l), x = .int k ⟨none, 0⟩ := by
        intro x hx
        rcases List.mem_cons.1 hx with rfl | hx
        · rfl
        · have := hc.2 x hx
          split at this
          · simp only [decide_eq_true_eq] at this; subst this; rfl
          · cases this
      rw [hall _ (List.getElem_mem hj)] at e2
      simp only [Sat, Num.den] at e2
      obtain ⟨m, hm, rfl⟩ := e2
      cases hm; rfl
    · cases h
  · cases h
theorem allocV_sound (R : Rel ro g σ H w) {e : TypeId} {p : AH × AV} (h : allocV P H e = some p) :
    ∃ σ' w' V, σ.le σ' ∧ Rel ro g σ' p.1 w' ∧ Sat σ' p.2 V ∧ (Instr.alloc e true (.tuple #[])).run P w = .ok V w' := by
  unfold allocV at h
  split at h
  · rename_i z hz
    split at h
    · rename_i k n hk
      cases h
      have hk : manyZ (ofVal z) = some (k, n) := by
        cases hf : H.fm <;> rw [hf] at hk <;> simp at hk
        exact hk
      obtain ⟨c1, c2, c3, c4⟩ := manyZ_cells (sat_ofVal σ z) hk
      obtain ⟨R', hb⟩ := R.alloc (ab := { t := .leaf, d := [.int k k.min k.max], n := n, e := e }) (c := z.cells) (w' := w.alloc (.cells z.cells e)) rfl (by rw [c1]; exact Nat.le_refl _) fun j v hv => by
        unfold CellOk
        simp only [Tr.get_leaf, List.length_singleton, Nat.mod_one, SatShAt, SatSh]
        exact ⟨0, c4 j v hv, c2, c3⟩
      exact ⟨_, _, .pointer (some ⟨w.heap.size, 0, none⟩), σ.le_withB _ _, R', by simp only [Sat]; exact ⟨_, _, hb, rfl⟩, by simp [Instr.alloc, run_zeroValue' hz, newVar, newRow]⟩
    · obtain ⟨σ', w', V, h1, h2, h3, h4⟩ := boxV_sound (P := P) R (sat_ofVal σ z) h
      exact ⟨σ', w', V, h1, h2, h3, by simpa [Instr.alloc, run_zeroValue' hz, Instr.box] using h4⟩
  · cases h
end
end
end Go.Proofs.YtgkoghgiclkbhaaGreatDoor.Sx
namespace Go.Proofs.YtgkoghgiclkbhaaGreatDoor.Sx
open Go
noncomputable section
set_option linter.unusedVariables false
set_option linter.unusedSimpArgs false

section
variable {ro : Nat → Bool} {g : Gh} {σ : Env} {H : AH} {w : World} {P : Program}
def zerosL (z : Array Value) (n : Nat) : List AV := (List.range n).map fun i => ofCell (z[i % z.size]!)
theorem satL_map_ofCell {α : Type} (f : α → Value) : ∀ l : List α, SatL σ (l.map fun i => ofCell (f i)) (l.map f)
  | [] => by simp [SatL]
  | a :: l => by simp only [List.map_cons, SatL]; exact ⟨_, _, rfl, sat_ofCell σ _, satL_map_ofCell f l⟩
theorem satL_zerosL (z : Array Value) (n : Nat) : SatL σ (zerosL z n) ((Array.range n).map (z[· % z.size]!)).toList := by
  simp only [Array.toList_map, Array.toList_range]
  exact satL_map_ofCell _ _
def vBuildSlice (P : Program) (H : AH) (t : TypeId) (len : Nat) (parts : List (Nat × AV)) : Option (AH × AV) :=
  match P.underlying t with
  | some (.slice e) => match P.info? e with
    | some ie => match (bif Nat.beq (len * ie.size) 0 then some #[] else ie.zero.map (·.cells)) with
      | some z => match afill (fun i => some (i * ie.size, ie.size)) (zerosL z (len * ie.size)) parts with
        | some l => bif decide (l.length = len * ie.size) && Nat.ble (len * ie.size) 16777216 then some (newB H e l, .sl H.nb 0 ie.size (cNum len) (cNum len)) else none
        | none => none
      | none => none
    | none => none
  | _ => none
theorem vBuildSlice_sound (R : Rel ro g σ H w) {t : TypeId} {len : Nat} {parts : List (Nat × AV)} {vparts : Array (Nat × Value)} {p : AH × AV} (h : vBuildSlice P H t len parts = some p)
    (hl : parts.length = vparts.size) (hp : ∀ (j : Nat) (p : Nat × AV) (q : Nat × Value), parts[j]? = some p → vparts.toList[j]? = some q → p.1 = q.1 ∧ Sat σ p.2 q.2) :
    ∃ σ' w' V, σ.le σ' ∧ Rel ro g σ' p.1 w' ∧ Sat σ' p.2 V ∧ (Instr.buildSlice t len vparts).run P w = .ok V w' := by
  unfold vBuildSlice at h
  split at h
  · rename_i e hd
    split at h
    · rename_i ie hi
      split at h
      · rename_i z hz
        split at h
        · rename_i l hf
          simp only [cond_eq_ite, Bool.and_eq_true, decide_eq_true_eq, Nat.ble_eq] at h
          split at h
          · rename_i hc
            cases h
            obtain ⟨cs, e1, e2⟩ := afill_sound (σ := σ) _ parts vparts.toList _ _ l (by simpa using hl) hp (satL_zerosL z (len * ie.size)) hf
            have hlen := e2.length
            obtain ⟨R', hb⟩ := newB_sound R e2 (by unfold small; rw [Nat.ble_eq]; omega) (e := e) (w' := w.alloc (.cells cs e)) rfl
            refine ⟨_, w.alloc (.cells cs e), .slice (some ⟨w.heap.size, 0, none⟩) len len, σ.le_withB _ _, R', ?_, ?_⟩
            · simp only [Sat]
              exact ⟨_, _, len, len, hb, den_cNum _, den_cNum _, by omega, by omega, rfl⟩
            · have hs : tSize P e = some ie.size := by simp [tSize, hi]
              have c1 : ¬ (len * ie.size > 2 ^ 24) := by have := hc.2; omega
              by_cases h0 : len * ie.size = 0
              · have hz' : z = #[] := by simpa [h0] using hz.symm
                subst hz'
                have c0 : ¬ ((0 : Nat) > 2 ^ 24) := by omega
                simp only [c0, Instr.buildSlice, Sem.run_bind, run_underlying hd, Result.andThen_ok, run_sizeOf' hs, c1, if_false, h0, if_true, Sem.run_pure]
                rw [h0] at e1
                simp only [e1]
                simp [newRow]
              · have hz' : ∃ zv, ie.zero = some zv ∧ zv.cells = z := by
                  have hb0 : Nat.beq (len * ie.size) 0 = false := by rw [← Bool.not_eq_true, Nat.beq_eq]; exact h0
                  simpa [hb0] using hz
                obtain ⟨zv, hzv, rfl⟩ := hz'
                have hzr : tZero P e = some zv := by simp [tZero, hi, hzv]
                simp only [Instr.buildSlice, Sem.run_bind, run_underlying hd, Result.andThen_ok, run_sizeOf' hs, c1, if_false, h0, run_zeroValue' hzr, Sem.run_pure]
                simp only [e1]
                simp [newRow]
          · cases h
        · cases h
      · cases h
    · cases h
  · cases h
def zsh : Value → Sh
  | .int k n => .int k (min k.min n) (max k.max n)
  | .bool _ => .bool
  | .string _ => .str
  | _ => .any
theorem sat_zsh (imm : Imm) (v : Value) : SatSh imm (zsh v) v := by
  cases v <;> simp only [zsh, SatSh]
  case int k n => exact ⟨n, rfl, by omega, by omega⟩
  case bool b => exact ⟨b, rfl⟩
  case string s => exact ⟨s, rfl⟩
def mkLim (b : Bool) : Nat := bif b then 70000 else 39
theorem mkLim_le (b : Bool) : mkLim b ≤ 70000 := by cases b <;> simp [mkLim]
def vMakeSlice (P : Program) (H : AH) (t : TypeId) (len cap : AV) : Option (AH × AV) :=
  match P.underlying t, len, cap with
  | some (.slice e), .int _ l, .int _ c =>
    match P.info? e with
    | some ie => match ie.zero, H.range (H.norm l), H.range (H.norm c) with
      | some z, some (l0, _), some (c0, c1) =>
        bif decide (0 ≤ l0) && H.leB (H.norm l) (H.norm c) && decide (0 ≤ c0) && decide ((ie.bytes : Int) * c1 ≤ 281474976710656) && decide (c1 ≤ 9223372036854775807) then
          bif decide (c0 = c1) && Nat.ble (c0.toNat * ie.size) (mkLim H.fm) then
            some (newB H e (zerosL z.cells (c0.toNat * ie.size)), .sl H.nb 0 ie.size (H.norm l) (H.norm c))
          else bif Nat.beq z.cells.size ie.size && Nat.blt 0 ie.size then
            some (H.alloc { t := .leaf, d := z.cells.toList.map zsh, n := c0.toNat * ie.size, e := e }, .sl H.nb 0 ie.size (H.norm l) (H.norm c))
          else none
        else none
      | _, _, _ => none
    | none => none
  | _, _, _ => none
theorem vMakeSlice_sound (R : Rel ro g σ H w) {t : TypeId} {len cap : AV} {u v : Value} (hu : Sat σ len u) (hv : Sat σ cap v) {p : AH × AV} (h : vMakeSlice P H t len cap = some p) :
    ∃ σ' w' V, σ.le σ' ∧ Rel ro g σ' p.1 w' ∧ Sat σ' p.2 V ∧ (Instr.makeSlice t u v).run P w = .ok V w' := by
  unfold vMakeSlice at h
  split at h
  · rename_i e k l k' c hd
    split at h
    · rename_i ie hi
      split at h
      · rename_i z l0 l1 c0 c1 hz hrl hrc
        simp only [cond_eq_ite, Bool.and_eq_true, decide_eq_true_eq, Nat.ble_eq, Nat.beq_eq, Nat.blt_eq] at h
        simp only [Sat] at hu hv
        obtain ⟨n, hn, rfl⟩ := hu
        obtain ⟨m, hm, rfl⟩ := hv
        have hn := R.norm hn
        have hm := R.norm hm
        have r1 := R.range hn hrl
        have r2 := R.range hm hrc
        split at h
        · rename_i hc
          obtain ⟨⟨⟨⟨q1, q2⟩, q3⟩, q4⟩, q5⟩ := hc
          have hle := R.leB hn hm q2
          have hb : (ie.bytes : Int) * m ≤ 281474976710656 := by
            have : (ie.bytes : Int) * m ≤ (ie.bytes : Int) * c1 := Int.mul_le_mul_of_nonneg_left r2.2 (by omega)
            omega
          have hrun := run_make (P := P) w t e ie z hd hi hz k k' n m (by omega) hle hb (by omega)
          have hsl : ∀ {σ' : Env} {sz : Nat}, σ.le σ' → σ'.b[H.nb]? = some (some (w.heap.size, sz)) → sz = m.toNat * ie.size → Sat σ' (.sl H.nb 0 ie.size (H.norm l) (H.norm c)) (.slice (some ⟨w.heap.size, 0, none⟩) n.toNat m.toNat) := by
            intro σ' sz hle' hb' hsz
            simp only [Sat]
            exact ⟨_, sz, n.toNat, m.toNat, hb', by rw [Num.den_mono hle' hn]; congr 1; omega, by rw [Num.den_mono hle' hm]; congr 1; omega, by omega, by omega, rfl⟩
          split at h
          · rename_i hx
            have hlim := mkLim_le H.fm
            cases h
            have hm0 : m.toNat = c0.toNat := by omega
            have hz' := satL_zerosL (σ := σ) z.cells (c0.toNat * ie.size)
            obtain ⟨R', hb'⟩ := newB_sound R hz' (by unfold small; rw [Nat.ble_eq]; simp [zerosL]; omega) (e := e) (w' := w.alloc (.cells (madeCells z.cells (m.toNat * ie.size)) e)) (by rw [hm0]; rfl)
            exact ⟨_, _, _, σ.le_withB _ _, R', hsl (σ.le_withB _ _) hb' (by rw [hm0]; simp), hrun⟩
          · split at h
            · rename_i hx
              cases h
              obtain ⟨R', hb'⟩ := R.alloc (ab := { t := .leaf, d := z.cells.toList.map zsh, n := c0.toNat * ie.size, e := e }) (c := madeCells z.cells (m.toNat * ie.size)) (w' := w.alloc (.cells (madeCells z.cells (m.toNat * ie.size)) e)) rfl
                (by rw [size_madeCells]; exact Nat.mul_le_mul_right _ (by omega)) (fun j v hv => by
                  unfold CellOk
                  dsimp only [Tr.get]
                  have hlt : j < m.toNat * ie.size := by have := (Array.getElem?_eq_some_iff.1 hv).1; rwa [size_madeCells] at this
                  have hv' : v = z.cells[j % z.cells.size]! := by
                    simp only [madeCells, Array.getElem?_map] at hv
                    rw [Array.getElem?_range] at hv
                    simp [hlt] at hv
                    exact hv.symm
                  have hmod : j % z.cells.size < z.cells.size := Nat.mod_lt _ (by omega)
                  have hlen : (z.cells.toList.map zsh).length = z.cells.size := by simp
                  rw [hlen]
                  refine (SatShAt.of_get _ _ v (zsh z.cells[j % z.cells.size]!) ?_).2 (hv' ▸ sat_zsh _ _)
                  simp [hmod])
              exact ⟨_, _, _, σ.le_withB _ _, R', hsl (σ.le_withB _ _) hb' (by rw [size_madeCells]), hrun⟩
            · cases h
        · cases h
      · cases h
    · cases h
  · cases h
end
end
end Go.Proofs.YtgkoghgiclkbhaaGreatDoor.Sx
namespace Go.Proofs.YtgkoghgiclkbhaaGreatDoor.Sx
open Go
noncomputable section
set_option linter.unusedVariables false
set_option linter.unusedSimpArgs false

section
variable {ro : Nat → Bool} {g : Gh} {σ : Env} {H : AH} {w : World} {P : Program}
/-! the runs -/
theorem append_room {t tx e ty : TypeId} {i : TypeInfo} {d : TypeDesc} (ht : P.underlying t = some (.slice e)) (hx : P.underlying tx = some d) (hd : ∀ k, d ≠ .int k) (hi : P.info? e = some i)
    {ad : Addr} {ln cp n : Nat} {x : Value} {news : List Value} {w' : World} (hl : ∀ w, (Builtin.lenOf x).run P w = .ok n w) (hf : (Builtin.firstCells i.size n x).run P w = .ok ⟨news⟩ w)
    (hle : ln + n ≤ cp) (hs : (storeCells (ad.add (ln * i.size)) news).run P w = .ok () w') :
    (Builtin.append_ #[t, tx] ty #[.slice (some ad) ln cp, x]).run P w = .ok (.slice (some ad) (ln + n) cp) w' := by
  have hm : (match d with | .int _ => true | _ => false) = false := by cases d <;> first | rfl | exact absurd rfl (hd _)
  simp only [Builtin.append_, List.getElem?_toArray, List.getElem?_cons_zero, List.getElem?_cons_succ, Sem.run_bind, run_underlying ht, Result.andThen_ok, sizeOf, typeInfo, run_program, hi, Sem.run_pure, run_underlying hx]
  cases d <;> first | (exact absurd rfl (hd _)) | simp [hl, hle, hf, hs]
theorem append_grow {t tx e ty : TypeId} {i : TypeInfo} {d : TypeDesc} {z : Value} (ht : P.underlying t = some (.slice e)) (hx : P.underlying tx = some d) (hd : ∀ k, d ≠ .int k) (hi : P.info? e = some i) (hz : i.zero = some z)
    {base : Option Addr} {ln cp n : Nat} {x : Value} {olds news : List Value} (hl : ∀ w, (Builtin.lenOf x).run P w = .ok n w) (hf : (Builtin.firstCells i.size n x).run P w.drew = .ok ⟨news⟩ w.drew)
    (hfo : (Builtin.firstCells i.size ln (.slice base ln cp)).run P w.drew = .ok ⟨olds⟩ w.drew)
    (hlt : cp < ln + n) (h63 : ((ln + n : Nat) : Int) ≤ 9223372036854775807) (hfit : (ln + n) * (2 * i.bytes) ≤ 281474976710656) :
    ∃ k, ln + n ≤ k ∧ k < 9223372036854775808 ∧ (Builtin.append_ #[t, tx] ty #[.slice base ln cp, x]).run P w =
      .ok (.slice (some ⟨w.heap.size, 0, none⟩) (ln + n) k) (w.drew.alloc (.cells (⟨olds ++ news⟩ ++ Builtin.zeroCells z.cells (k - (ln + n))) e)) := by
  have hn : ¬ (ln + n ≤ cp) := by omega
  have h63' : ¬ (9223372036854775807 < ((ln : Int) + (n : Int))) := by omega
  have hns := nextslicecap_le (need := ln + n) (old := cp) hlt
  have h48' : ¬ (281474976710656 < Builtin.nextslicecap (ln + n) cp * i.bytes) := by
    have : Builtin.nextslicecap (ln + n) cp * i.bytes ≤ (2 * (ln + n)) * i.bytes := Nat.mul_le_mul_right _ hns
    have e : (2 * (ln + n)) * i.bytes = (ln + n) * (2 * i.bytes) := by rw [Nat.mul_comm 2, Nat.mul_assoc]
    omega
  refine ⟨grownCap w (ln + n) cp e, ?_, ?_, ?_⟩
  · simp only [grownCap, Question.cut]; omega
  · simp only [grownCap, Question.cut]
    have : w.tape w.drawn (.appendCap (ln + n) cp e) % (2 ^ 63 - (ln + n)) < 2 ^ 63 - (ln + n) := Nat.mod_lt _ (by omega)
    omega
  · simp only [Builtin.append_, List.getElem?_toArray, List.getElem?_cons_zero, List.getElem?_cons_succ, Sem.run_bind, run_underlying ht, Result.andThen_ok, sizeOf, typeInfo, run_program, hi, Sem.run_pure, run_underlying hx]
    cases d <;> first | (exact absurd rfl (hd _)) | skip
    all_goals
      (simp [hl, hn, h63', h48', Question.forced, hf, hfo, newRow, grownCap, zeroValue, typeInfo, hi, hz]
       congr 2
       apply Array.ext'
       simp [List.append_assoc])
/-! the cells that come -/
/-- A slice's length and cells, where they are known. -/
def srcL (H : AH) (esz : Nat) (x : AV) : Option (Nat × List AV) :=
  match x with
  | .lit (.slice none 0 _) => some (0, [])
  | .sl b off esz' len _ => match (H.norm len).s, H.hp.get b with
    | none, some ab => bif Nat.beq esz esz' && Nat.ble (off + (H.norm len).c.toNat * esz) ab.n && decide (0 ≤ (H.norm len).c) then some ((H.norm len).c.toNat, cellsFrom ab off ((H.norm len).c.toNat * esz)) else none
    | _, _ => none
  | .osl cs len => match (H.norm len).s with
    | none => bif Nat.beq esz cs.length && decide (0 ≤ (H.norm len).c) then some ((H.norm len).c.toNat, perCells cs 0 ((H.norm len).c.toNat * esz)) else none
    | some _ => none
  | .str l => bif Nat.beq esz 1 && l.all (fun n => Nat.blt n 256) then some (l.length, l.map fun (n : Nat) => AV.int .u8 ⟨none, (n : Int)⟩) else none
  | _ => none
theorem srcL_sound (R : Rel ro g σ H w) {esz : Nat} {x : AV} {u : Value} (hu : Sat σ x u) {p : Nat × List AV} (h : srcL H esz x = some p) :
    ∃ vs : List Value, (∀ w, (Builtin.lenOf u).run P w = .ok p.1 w) ∧ SatL σ p.2 vs ∧ vs.length = p.1 * esz ∧
      ∀ w' : World, w'.heap = w.heap → ∀ k, k ≤ p.1 → (Builtin.firstCells esz k u).run P w' = .ok ⟨vs.take (k * esz)⟩ w' := by
  unfold srcL at h
  split at h
  · cases h
    simp only [Sat] at hu
    subst hu
    exact ⟨[], fun w => rfl, by simp [SatL], by simp, fun w' _ k _ => by simp [Builtin.firstCells]⟩
  · rename_i b off esz' len cap
    split at h
    · rename_i ab hs hab
      simp only [cond_eq_ite, Bool.and_eq_true, Nat.beq_eq, Nat.ble_eq, decide_eq_true_eq] at h
      split at h
      · rename_i hc
        obtain ⟨⟨rfl, hle⟩, h0⟩ := hc
        cases h
        simp only [Sat] at hu
        obtain ⟨n, sz, l, c, hn, hl, hcap, hlc, hsz, rfl⟩ := hu
        have hl := R.norm hl
        simp only [Num.den, hs, Option.some.injEq] at hl
        rw [hl] at hle ⊢
        simp only [Int.toNat_natCast] at hle ⊢
        obtain ⟨n', sz', hn', cc, hc1, hc2, hc3, hc4⟩ := R.blk _ _ hab
        rw [hn] at hn'; cases hn'
        have hlen : ((cc.toList.drop off).take (l * esz)).length = l * esz := by simp; omega
        refine ⟨(cc.toList.drop off).take (l * esz), fun w => rfl, satL_cellsFrom hc4 _ _ (by omega), hlen, fun w' hw k hk => ?_⟩
        have hke : k * esz ≤ l * esz := Nat.mul_le_mul_right _ hk
        have e1 : ((cc.toList.drop off).take (l * esz)).take (k * esz) = (cc.toList.drop off).take (k * esz) := by rw [List.take_take]; congr 1; omega
        rw [e1]
        have hlen' : ((cc.toList.drop off).take (k * esz)).length = k * esz := by simp; omega
        have hrun := run_loadCells_list (P := P) w' ⟨n, off, none⟩ ((cc.toList.drop off).take (k * esz)) (by
          intro j v hv
          rw [add_addr]
          simp only [World.cell?, hw, hc1]
          have hj : j < k * esz := by have := (List.getElem?_eq_some_iff.1 hv).1; omega
          rw [List.getElem?_take_of_lt hj, List.getElem?_drop] at hv
          simpa using hv)
        rw [hlen'] at hrun
        exact hrun
      · cases h
    · cases h
  · rename_i cs len
    split at h
    · rename_i hs
      simp only [cond_eq_ite, Bool.and_eq_true, Nat.beq_eq, decide_eq_true_eq] at h
      split at h
      · rename_i hc
        obtain ⟨rfl, h0⟩ := hc
        cases h
        simp only [Sat] at hu
        obtain ⟨base, l, cap, rfl, hl, hlc, hb⟩ := hu
        have hl := R.norm hl
        simp only [Num.den, hs, Option.some.injEq] at hl
        rw [hl]
        simp only [Int.toNat_natCast]
        rcases hb with ⟨rfl, rfl⟩ | ⟨b, off, cc, e, fr, rfl, him, hsz, hall⟩
        · exact ⟨[], fun w => rfl, by simp [perCells, SatL], by simp, fun w' _ k hk => by
            have : k = 0 := by omega
            subst this; simp [Builtin.firstCells]⟩
        · have him' := R.imm _ _ him
          have hlen : ((cc.toList.drop off).take (l * cs.length)).length = l * cs.length := by simp; omega
          refine ⟨(cc.toList.drop off).take (l * cs.length), fun w => rfl, ?_, hlen, fun w' hw k hk => ?_⟩
          · refine SatL.of_get ?_ fun j a v ha hv => ?_
            · have : ∀ n p, (perCells cs p n).length = n := by intro n; induction n with | zero => intro p; rfl | succ n ih => intro p; simp [perCells, ih]
              rw [hlen, this]
            · have hj : j < l * cs.length := by have := (List.getElem?_eq_some_iff.1 hv).1; omega
              have e1 : ∀ n p j, j < n → (perCells cs p n)[j]? = some (shNth cs (p + j)) := by
                intro n
                induction n with
                | zero => intro p j h; omega
                | succ n ih =>
                  intro p j h
                  cases j with
                  | zero => simp [perCells]
                  | succ j => simp only [perCells, List.getElem?_cons_succ]; rw [ih (p + 1) j (by omega), show p + 1 + j = p + (j + 1) by omega]
              rw [e1 _ 0 j hj] at ha
              cases ha
              rw [List.getElem?_take_of_lt hj, List.getElem?_drop] at hv
              have := hall j v hj (by simpa using hv)
              rw [Nat.zero_add]
              exact sat_shNth this
          · have hke : k * cs.length ≤ l * cs.length := Nat.mul_le_mul_right _ hk
            have e1 : ((cc.toList.drop off).take (l * cs.length)).take (k * cs.length) = (cc.toList.drop off).take (k * cs.length) := by rw [List.take_take]; congr 1; omega
            rw [e1]
            have hlen' : ((cc.toList.drop off).take (k * cs.length)).length = k * cs.length := by simp; omega
            have hrun := run_loadCells_list (P := P) w' ⟨b, off, none⟩ ((cc.toList.drop off).take (k * cs.length)) (by
              intro j v hv
              rw [add_addr]
              simp only [World.cell?, hw, him']
              have hj : j < k * cs.length := by have := (List.getElem?_eq_some_iff.1 hv).1; omega
              rw [List.getElem?_take_of_lt hj, List.getElem?_drop] at hv
              simpa using hv)
            rw [hlen'] at hrun
            exact hrun
      · cases h
    · cases h
  · rename_i l
    simp only [cond_eq_ite, Bool.and_eq_true, Nat.beq_eq, List.all_eq_true, Nat.blt_eq] at h
    split at h
    · rename_i hc
      obtain ⟨rfl, hb⟩ := hc
      cases h
      simp only [Sat] at hu
      subst hu
      refine ⟨l.map fun (n : Nat) => Value.int .u8 (n : Int), fun w => by simp [Builtin.lenOf, strOf_size], ?_, by simp, fun w' _ k hk => ?_⟩
      · have : ∀ l : List Nat, SatL σ (l.map fun (n : Nat) => AV.int .u8 ⟨none, (n : Int)⟩) (l.map fun (n : Nat) => Value.int .u8 (n : Int)) := by
          intro l
          induction l with
          | nil => simp [SatL]
          | cons a l ih => simp only [List.map_cons, SatL]; exact ⟨_, _, rfl, sat_int rfl, ih⟩
        exact this l
      · simp only [Builtin.firstCells, strOf_extract, List.drop_zero, Sem.run_pure]
        congr 1
        apply Array.ext'
        simp only [strOf, Array.toList_map, List.map_map, Nat.mul_one, ← List.map_take]
        apply List.map_congr_left
        intro a ha
        have := hb a (List.mem_of_mem_take ha)
        simp [UInt8.toNat_ofNat_of_lt' this]
    · cases h
  · cases h
/-! cells laid behind the known ones -/
def AH.relay (H : AH) (b : Nat) (ab : AB) (off : Nat) (l : List AV) (n : Nat) : AH := H.put b { ab with t := bif H.fm then setL ab.t off l else setLD H ab.d ab.t off l, n := n }
theorem Rel.relay (R : Rel ro g σ H w) {b : Nat} {ab : AB} (hro : ro b = true) (hb : H.hp.get b = some ab) {n sz : Nat} (hn : σ.b[b]? = some (some (n, sz))) {off : Nat} {l : List AV} {vs : List Value}
    (hl : SatL σ l vs) (hc : l.all isCell = true) (hfit : off + l.length ≤ sz) (hsm : small (off + l.length) = true) {k : Nat} (hk : k ≤ sz) :
    ∃ w', (storeCells ⟨n, off, none⟩ vs).run P w = .ok () w' ∧ Rel ro g σ (H.relay b ab off l k) w' := by
  obtain ⟨n', sz', hm', c, hc1, hc2, hc3, hc4⟩ := R.blk _ _ hb
  rw [hn] at hm'; cases hm'
  have hlen := hl.length
  have h1 := satL_oneCell hl hc
  have hfit' : off + vs.length ≤ c.size := by omega
  refine ⟨w.setRow n (putCells c off vs), ?_, ?_⟩
  · have := run_storeCells_at P n off ab.e vs 0 c w hc1 (by omega) h1
    simpa [putCells] using this
  · unfold AH.relay
    rw [cond_eq_ite]
    split
    rotate_left
    · unfold small at hsm
      rw [Nat.ble_eq] at hsm
      refine R.write hro hb hn hc1 rfl rfl (size_putCells hfit') (by dsimp only; omega) fun j v hv => ?_
      show CellT σ (setLD H ab.d ab.t off l) ab.d j v
      refine setLD_ok R (f := fun j => (putCells c off vs)[j]?) l vs ab.t off (by omega) hl (fun q v hq => ?_) (fun j v hj hn => ?_) j v hv
      · have hlt := (List.getElem?_eq_some_iff.1 hq).1
        show (putCells c off vs)[off + q]? = some v
        rw [get_putCells hfit', if_pos ⟨by omega, by omega⟩]
        rw [show off + q - off = q by omega]; exact hq
      · have hj : (putCells c off vs)[j]? = some v := hj
        rw [get_putCells hfit', if_neg (by omega)] at hj
        exact hc4 j v hj
    refine R.write hro hb hn hc1 rfl rfl (size_putCells hfit') (by dsimp only; omega) fun j v hv => ?_
    rw [get_putCells hfit'] at hv
    unfold small at hsm
    rw [Nat.ble_eq] at hsm
    unfold CellOk
    dsimp only
    rw [get_setL l ab.t off j (by omega)]
    by_cases hj : off ≤ j ∧ j < off + l.length
    · have hj' : off ≤ j ∧ j < off + vs.length := by omega
      rw [if_pos hj'] at hv
      rw [if_pos hj]
      have hlt : j - off < l.length := by omega
      rw [List.getElem?_eq_getElem hlt]
      obtain ⟨v', e1, e2⟩ := hl.get (List.getElem?_eq_getElem hlt)
      rw [hv] at e1; cases e1
      exact e2
    · have hj' : ¬ (off ≤ j ∧ j < off + vs.length) := by omega
      rw [if_neg hj'] at hv
      rw [if_neg hj]
      exact hc4 j v hv
/-- A block by another name. -/
def AH.rename (H : AH) (b : Nat) : AH := { H with hp := (H.hp.set b none).set H.nb (H.hp.get b), nb := H.nb + 1 }
theorem Rel.rename (R : Rel ro g σ H w) {b : Nat} {ab : AB} (hro : ro b = true) (hb : H.hp.get b = some ab) {n sz : Nat} (hn : σ.b[b]? = some (some (n, sz))) :
    Rel ro g (σ.withB n sz) (H.rename b) w ∧ (σ.withB n sz).b[H.nb]? = some (some (n, sz)) := by
  have hle := σ.le_withB n sz
  have hnew : (σ.withB n sz).b[H.nb]? = some (some (n, sz)) := by simp [Env.withB, ← R.blen]
  have hold : ∀ b, b ≠ H.nb → ∀ q, (σ.withB n sz).b[b]? = some q → σ.b[b]? = some q := by
    intro b hb q hq
    simp only [Env.withB] at hq
    by_cases hlt : b < σ.b.length
    · rwa [List.getElem?_append_left hlt] at hq
    · have : b ≠ σ.b.length := by rw [R.blen]; exact hb
      rw [List.getElem?_eq_none (by simp; omega)] at hq; cases hq
  -- each block of the new names is one of the old ones
  have back : ∀ b1 a1, (H.rename b).hp.get b1 = some a1 → ∀ q, (σ.withB n sz).b[b1]? = some q → ∃ b2, H.hp.get b2 = some a1 ∧ σ.b[b2]? = some q ∧ ((b1 = H.nb ∧ b2 = b) ∨ (b1 ≠ H.nb ∧ b2 = b1 ∧ b1 ≠ b)) := by
    intro b1 a1 h q hq
    rcases Tr.get_set_some h with ⟨rfl, hx⟩ | ⟨hne, h⟩
    · rw [hnew] at hq; cases hq
      exact ⟨b, hx, hn, .inl ⟨rfl, rfl⟩⟩
    · rcases Tr.get_set_some h with ⟨_, h⟩ | ⟨hne', h⟩
      · cases h
      · exact ⟨b1, h, hold _ hne _ hq, .inr ⟨hne, rfl, hne'⟩⟩
  refine ⟨⟨R.nlen, R.rng, ?_, by simp [Env.withB, AH.rename, R.blen], ?_, ?_, R.imm, ?_, R.frame, R.sz, ?_, ?_, R.immo, fun f hf => (R.fx f hf).mono hle (.inr (.same rfl))⟩, hnew⟩
  · intro p hp
    obtain ⟨a, b, h3, h4, h5⟩ := R.lts p hp
    exact ⟨a, b, Num.den_mono hle h3, Num.den_mono hle h4, h5⟩
  · intro b1 a1 h
    rcases Tr.get_set_some h with ⟨rfl, hx⟩ | ⟨hne, h⟩
    · obtain ⟨n', sz', h1, h2⟩ := R.blk b a1 hx
      rw [hn] at h1; cases h1
      exact ⟨n, sz, hnew, h2.mono hle⟩
    · rcases Tr.get_set_some h with ⟨_, h⟩ | ⟨hne', h⟩
      · cases h
      · obtain ⟨n', sz', h1, h2⟩ := R.blk b1 a1 h
        exact ⟨n', sz', prefix_get hle.b h1, h2.mono hle⟩
  · intro b1 b2 a1 a2 m s s' h h' e1 e2
    obtain ⟨c1, k1, k2, k3⟩ := back _ _ h _ e1
    obtain ⟨c2, l1, l2, l3⟩ := back _ _ h' _ e2
    have := R.inj c1 c2 _ _ _ _ _ k1 l1 k2 l2
    omega
  · intro b1 a1 m s h e
    obtain ⟨c1, k1, k2, k3⟩ := back _ _ h _ e
    exact R.immd c1 _ _ _ k1 k2
  · intro b1 m s e1 e2
    by_cases hb1 : b1 = H.nb
    · subst hb1; rw [hnew] at e2; cases e2; exact R.own b n sz hro hn
    · exact R.own b1 m s e1 (hold _ hb1 _ e2)
  · intro b1 m s e2
    by_cases hb1 : b1 = H.nb
    · subst hb1; rw [hnew] at e2; cases e2; exact R.bnd b n sz hn
    · exact R.bnd b1 m s (hold _ hb1 _ e2)
end
end
end Go.Proofs.YtgkoghgiclkbhaaGreatDoor.Sx
namespace Go.Proofs.YtgkoghgiclkbhaaGreatDoor.Sx
open Go
noncomputable section
set_option linter.unusedVariables false
set_option linter.unusedSimpArgs false

def isIntD : TypeDesc → Bool
  | .int _ => true
  | _ => false
/-- What an operation that acts on memory leaves. -/
def Acts (ro : Nat → Bool) (g : Gh) (σ : Env) (w : World) (P : Program) (s : Sem Value) (outs : List (AH × AV)) : Prop :=
  ∃ p ∈ outs, ∃ σ' V w', σ.le σ' ∧ Rel ro g σ' p.1 w' ∧ Sat σ' p.2 V ∧ s.run P w = .ok V w'
theorem Acts.left {ro : Nat → Bool} {g : Gh} {σ : Env} {w : World} {P : Program} {s : Sem Value} {a b : List (AH × AV)} (h : Acts ro g σ w P s a) : Acts ro g σ w P s (a ++ b) :=
  let ⟨p, hp, r⟩ := h; ⟨p, List.mem_append_left _ hp, r⟩
theorem Acts.right {ro : Nat → Bool} {g : Gh} {σ : Env} {w : World} {P : Program} {s : Sem Value} {a b : List (AH × AV)} (h : Acts ro g σ w P s b) : Acts ro g σ w P s (a ++ b) :=
  let ⟨p, hp, r⟩ := h; ⟨p, List.mem_append_right _ hp, r⟩
section
variable {ro : Nat → Bool} {g : Gh} {σ : Env} {H : AH} {w : World} {P : Program}
/-- A new block for the known ones and those that come. -/
def appGrow (H : AH) (e : TypeId) (esz bytes need : Nat) (olds news : List AV) : Option (AH × AV) :=
  bif Nat.ble (need * (2 * bytes)) 281474976710656 && Nat.blt need 9223372036854775808 && small (need * esz) && Nat.beq (olds.length + news.length) (need * esz) then
    some ((H.fresh need 9223372036854775807).alloc { t := setL .leaf 0 (olds ++ news), d := [], n := need * esz, e := e }, .sl H.nb 0 esz (cNum need) ⟨some H.nn, 0⟩)
  else none
theorem appGrow_sound (R : Rel ro g σ H w) {t tx e ty : TypeId} {i : TypeInfo} {d : TypeDesc} {z : Value} (ht : P.underlying t = some (.slice e)) (hx : P.underlying tx = some d) (hd : isIntD d = false) (hi : P.info? e = some i) (hz : i.zero = some z) (hzs : z.cells.size = i.size)
    {base : Option Addr} {ln cp n : Nat} {x : Value} {olds news : List AV} {ov nv : List Value} (hl : ∀ w, (Builtin.lenOf x).run P w = .ok n w) (hf : (Builtin.firstCells i.size n x).run P w.drew = .ok ⟨nv⟩ w.drew)
    (hfo : (Builtin.firstCells i.size ln (.slice base ln cp)).run P w.drew = .ok ⟨ov⟩ w.drew) (so : SatL σ olds ov) (sn : SatL σ news nv)
    (hlt : cp < ln + n) {p : AH × AV} (h : appGrow H e i.size i.bytes (ln + n) olds news = some p) :
    ∃ σ' V w', σ.le σ' ∧ Rel ro g σ' p.1 w' ∧ Sat σ' p.2 V ∧ (Builtin.append_ #[t, tx] ty #[.slice base ln cp, x]).run P w = .ok V w' := by
  unfold appGrow at h
  simp only [cond_eq_ite, Bool.and_eq_true, Nat.ble_eq, Nat.blt_eq, Nat.beq_eq] at h
  split at h
  · rename_i hc
    obtain ⟨⟨⟨c1, c2⟩, c3⟩, c4⟩ := hc
    cases h
    have hd' : ∀ k, d ≠ .int k := by intro k hk; subst hk; cases hd
    obtain ⟨k, k1, k2, hrun⟩ := append_grow (ty := ty) ht hx hd' hi hz hl hf hfo hlt (by omega) c1
    have R1 := R.fresh (lo := ((ln + n : Nat) : Int)) (hi := 9223372036854775807) (n := (k : Int)) (by omega) (by omega)
    have l1 := σ.le_more (k : Int)
    have sall := SatL.mono l1 _ _ (so.append sn)
    have hlen := sall.length
    have hsz : ((⟨ov ++ nv⟩ : Array Value) ++ Builtin.zeroCells z.cells (k - (ln + n))).size = k * i.size := by
      have e1 : (⟨ov ++ nv⟩ : Array Value).size = (ov ++ nv).length := rfl
      rw [Array.size_append, e1, hlen, List.length_append, c4]
      simp only [Builtin.zeroCells, Array.size_map, Array.size_range, hzs, ← Nat.add_mul]
      congr 1; omega
    obtain ⟨R2, hb⟩ := R1.alloc (w' := w.drew.alloc (.cells (⟨ov ++ nv⟩ ++ Builtin.zeroCells z.cells (k - (ln + n))) e)) (ab := { t := setL .leaf 0 (olds ++ news), d := [], n := (ln + n) * i.size, e := e })
      (c := ⟨ov ++ nv⟩ ++ Builtin.zeroCells z.cells (k - (ln + n))) rfl (by rw [hsz]; exact Nat.mul_le_mul_right _ k1) (fun j v hv => by
        unfold CellOk
        dsimp only
        unfold small at c3
        rw [Nat.ble_eq] at c3
        have hln : (olds ++ news).length = (ln + n) * i.size := by rw [List.length_append]; exact c4
        rw [get_setL _ .leaf 0 j (by omega)]
        by_cases hj : j < (olds ++ news).length
        · rw [if_pos ⟨by omega, by omega⟩]
          have hlt' : j - 0 < (olds ++ news).length := by omega
          rw [List.getElem?_eq_getElem hlt']
          obtain ⟨v', q1, q2⟩ := sall.get (List.getElem?_eq_getElem hlt')
          rw [Nat.sub_zero] at q1
          have : ((⟨ov ++ nv⟩ : Array Value) ++ Builtin.zeroCells z.cells (k - (ln + n)))[j]? = some v' := by
            rw [Array.getElem?_append_left (by change j < (ov ++ nv).length; omega)]
            simpa using q1
          rw [this] at hv; cases hv
          exact Sat.mono (Env.le_withB _ _ _) _ _ q2
        · rw [if_neg (by omega)]
          simp [Tr.get, SatShAt])
    refine ⟨_, _, _, l1.trans (Env.le_withB _ _ _), R2, ?_, hrun⟩
    simp only [Sat]
    refine ⟨_, _, ln + n, k, hb, den_cNum _, ?_, k1, ?_, rfl⟩
    · have := R.fresh_den (k : Int)
      exact Num.den_mono (Env.le_withB _ _ _) this
    · rw [hsz]; omega
  · cases h
/-- The same by shapes: each element of the block is of them. -/
def appGrowD (H : AH) (e : TypeId) (esz bytes : Nat) (z : List Value) (cs : List Sh) (ln m : Nat) (news : List AV) : Option (AH × AV) :=
  bif !H.fm && Nat.ble ((ln + m) * (2 * bytes)) 281474976710656 && Nat.blt (ln + m) 9223372036854775808 && zerosOk z cs && Nat.beq esz cs.length && Nat.blt 0 esz && Nat.beq news.length (m * esz) && fits H cs (ln * esz) news then
    some ((H.fresh ((ln + m : Nat) : Int) 9223372036854775807).alloc { t := .leaf, d := cs, n := (ln + m) * esz, e := e }, .sl H.nb 0 esz (cNum ((ln + m : Nat) : Int)) ⟨some H.nn, 0⟩)
  else none
theorem appGrowD_sound (R : Rel ro g σ H w) {t tx e ty : TypeId} {i : TypeInfo} {d : TypeDesc} {z : Value} (ht : P.underlying t = some (.slice e)) (hx : P.underlying tx = some d) (hd : isIntD d = false) (hi : P.info? e = some i) (hz : i.zero = some z)
    {base : Option Addr} {ln cp n : Nat} {x : Value} {news : List AV} {ov nv : List Value} {cs : List Sh} (hl : ∀ w, (Builtin.lenOf x).run P w = .ok n w) (hf : (Builtin.firstCells i.size n x).run P w.drew = .ok ⟨nv⟩ w.drew)
    (hfo : (Builtin.firstCells i.size ln (.slice base ln cp)).run P w.drew = .ok ⟨ov⟩ w.drew) (hov : ov.length = ln * i.size) (so : ∀ j v, ov[j]? = some v → SatShAt σ.imm cs (j % cs.length) v) (sn : SatL σ news nv)
    (hlt : cp < ln + n) {p : AH × AV} (h : appGrowD H e i.size i.bytes z.cells.toList cs ln n news = some p) :
    ∃ σ' V w', σ.le σ' ∧ Rel ro g σ' p.1 w' ∧ Sat σ' p.2 V ∧ (Builtin.append_ #[t, tx] ty #[.slice base ln cp, x]).run P w = .ok V w' := by
  unfold appGrowD at h
  simp only [cond_eq_ite, Bool.and_eq_true, Nat.ble_eq, Nat.blt_eq, Nat.beq_eq] at h
  split at h
  · rename_i hc
    obtain ⟨⟨⟨⟨⟨⟨⟨c0, c1⟩, c2⟩, c4⟩, c5⟩, c6⟩, c8⟩, c7⟩ := hc
    cases h
    have hd' : ∀ k, d ≠ .int k := by intro k hk; subst hk; cases hd
    obtain ⟨k, k1, k2, hrun⟩ := append_grow (ty := ty) ht hx hd' hi hz hl hf hfo hlt (by omega) c1
    have R1 := R.fresh (lo := ((ln + n : Nat) : Int)) (hi := 9223372036854775807) (n := (k : Int)) (by omega) (by omega)
    have l1 := σ.le_more (k : Int)
    obtain ⟨z1, z2⟩ := zerosOk_get (imm := σ.imm) c4
    have hz1 : z.cells.size = cs.length := by simpa using z1
    have hnv : nv.length = n * i.size := by rw [sn.length]; exact c8
    have hln : (ov ++ nv).length = (ln + n) * i.size := by rw [List.length_append, hov, hnv, Nat.add_mul]
    have e1 : (⟨ov ++ nv⟩ : Array Value).size = (ln + n) * i.size := hln
    have hsz : ((⟨ov ++ nv⟩ : Array Value) ++ Builtin.zeroCells z.cells (k - (ln + n))).size = k * i.size := by
      rw [Array.size_append, e1]
      simp only [Builtin.zeroCells, Array.size_map, Array.size_range, hz1, c5, ← Nat.add_mul]
      congr 1; omega
    have hnew := fits_ok R (ab := { t := .leaf, d := cs, n := 0, e := e }) rfl c7 sn
    obtain ⟨R2, hb⟩ := R1.alloc (w' := w.drew.alloc (.cells (⟨ov ++ nv⟩ ++ Builtin.zeroCells z.cells (k - (ln + n))) e)) (ab := { t := .leaf, d := cs, n := (ln + n) * i.size, e := e })
      (c := ⟨ov ++ nv⟩ ++ Builtin.zeroCells z.cells (k - (ln + n))) rfl (by rw [hsz]; exact Nat.mul_le_mul_right _ k1) (fun j v hv => by
        unfold CellOk
        dsimp only [Tr.get]
        change SatShAt σ.imm cs (j % cs.length) v
        by_cases hj : j < (ln + n) * i.size
        · rw [Array.getElem?_append_left (by change j < (ov ++ nv).length; rw [hln]; exact hj)] at hv
          simp only [List.getElem?_toArray] at hv
          by_cases hjo : j < ln * i.size
          · rw [List.getElem?_append_left (by omega)] at hv
            exact so j v hv
          · rw [List.getElem?_append_right (by omega)] at hv
            have := hnew _ v hv
            unfold CellOk at this
            dsimp only [Tr.get] at this
            rw [hov, show ln * i.size + (j - ln * i.size) = j by omega] at this
            exact this
        · rw [Array.getElem?_append_right (by rw [e1]; omega), e1] at hv
          simp only [Builtin.zeroCells, Array.getElem?_map] at hv
          have hlt : j - (ln + n) * i.size < (k - (ln + n)) * z.cells.size := by
            rcases Nat.lt_or_ge (j - (ln + n) * i.size) ((k - (ln + n)) * z.cells.size) with h | h
            · exact h
            · rw [Array.getElem?_eq_none (by simp only [Array.size_range]; exact h)] at hv; cases hv
          rw [Array.getElem?_range] at hv
          rw [if_pos hlt] at hv
          simp only [Option.map_some, Option.some.injEq] at hv
          have hmod : (j - (ln + n) * i.size) % z.cells.size = j % cs.length := by
            rw [hz1, c5]
            have : j = (ln + n) * cs.length + (j - (ln + n) * cs.length) := by rw [c5] at hj; omega
            rw [this, Nat.mul_comm (ln + n) cs.length, Nat.mul_add_mod]; congr 1; omega
          have hpos : j % cs.length < z.cells.size := by rw [hz1]; exact Nat.mod_lt _ (by omega)
          refine z2 (j % cs.length) v ?_
          rw [← hmod, ← hv]
          have : (j - (ln + n) * i.size) % z.cells.size < z.cells.size := by rw [hmod]; exact hpos
          simp [this])
    refine ⟨_, _, _, l1.trans (Env.le_withB _ _ _), R2, ?_, hrun⟩
    simp only [Sat]
    refine ⟨_, _, ln + n, k, hb, den_cNum _, ?_, k1, ?_, rfl⟩
    · have := R.fresh_den (k : Int)
      exact Num.den_mono (Env.le_withB _ _ _) this
    · rw [hsz]; omega
  · cases h
def candD (esz : Nat) (news : List AV) : List Sh := bif ((news.take esz).map shOf).any isAnyS then [] else (news.take esz).map shOf
/-- In what is left of the block. -/
def appRoom (ro : Nat → Bool) (H : AH) (b off esz : Nat) (cap : Num) (ln m : Nat) (news : List AV) : Option (AH × AV) :=
  match H.hp.get b with
  | some ab => bif ro b && news.all isCell && small (off + (ln + m) * esz) && Nat.beq news.length (m * esz) then
      match cap.s with
      | none => some (H.relay b ab (off + ln * esz) news (max ab.n (off + (ln + m) * esz)), .sl b off esz (cNum ((ln + m : Nat) : Int)) cap)
      | some _ => match H.range cap with
        | some (lo, hi) => match (H.relay b ab (off + ln * esz) news (max ab.n (off + (ln + m) * esz))).hp.get b with
          | some _ => some (((H.relay b ab (off + ln * esz) news (max ab.n (off + (ln + m) * esz))).rename b).fresh lo hi, .sl H.nb off esz (cNum ((ln + m : Nat) : Int)) ⟨some H.nn, 0⟩)
          | none => none
        | none => none
    else none
  | none => none
theorem appRoom_sound (R : Rel ro g σ H w) {t tx e ty : TypeId} {i : TypeInfo} {d : TypeDesc} (ht : P.underlying t = some (.slice e)) (hx : P.underlying tx = some d) (hd : isIntD d = false) (hi : P.info? e = some i)
    {b off n sz ln cp m : Nat} {cap : Num} {x : Value} {news : List AV} {nv : List Value} (hn : σ.b[b]? = some (some (n, sz))) (hcap : cap.den σ = some (cp : Int)) (hsz : off + cp * i.size ≤ sz)
    (hl : ∀ w, (Builtin.lenOf x).run P w = .ok m w) (hf : (Builtin.firstCells i.size m x).run P w = .ok ⟨nv⟩ w) (sn : SatL σ news nv)
    (hle : ln + m ≤ cp) {p : AH × AV} (h : appRoom ro H b off i.size cap ln m news = some p) :
    ∃ σ' V w', σ.le σ' ∧ Rel ro g σ' p.1 w' ∧ Sat σ' p.2 V ∧ (Builtin.append_ #[t, tx] ty #[.slice (some ⟨n, off, none⟩) ln cp, x]).run P w = .ok V w' := by
  unfold appRoom at h
  split at h
  · rename_i ab hab
    simp only [cond_eq_ite, Bool.and_eq_true, Nat.ble_eq, Nat.beq_eq] at h
    split at h
    · rename_i hc
      obtain ⟨⟨⟨c1, c2⟩, c3⟩, c4⟩ := hc
      have hd' : ∀ k, d ≠ .int k := by intro k hk; subst hk; cases hd
      have hmul : (ln + m) * i.size ≤ cp * i.size := Nat.mul_le_mul_right _ hle
      have hadd : (ln + m) * i.size = ln * i.size + m * i.size := Nat.add_mul ..
      obtain ⟨n', sz', hn', c0, _, hc2, hc3, _⟩ := R.blk _ _ hab
      rw [hn] at hn'; cases hn'
      obtain ⟨w', hst, R1⟩ := R.relay (P := P) c1 hab hn (off := off + ln * i.size) sn c2 (by omega) (by unfold small at c3 ⊢; rw [Nat.ble_eq] at c3 ⊢; omega) (k := max ab.n (off + (ln + m) * i.size)) (by omega)
      have hrun := append_room (ty := ty) ht hx hd' hi hl hf hle (by rw [add_addr]; exact hst)
      split at h
      · cases h
        refine ⟨σ, _, w', .refl σ, R1, ?_, hrun⟩
        simp only [Sat]
        exact ⟨n, sz, ln + m, cp, hn, den_cNum _, hcap, hle, hsz, rfl⟩
      · split at h
        · rename_i lo hi' hr
          have hrange := R.range hcap hr
          split at h
          · rename_i ab1 hab1
            cases h
            obtain ⟨R2, hb2⟩ := R1.rename c1 hab1 hn
            have R3 := R2.fresh (n := (cp : Int)) hrange.1 hrange.2
            refine ⟨_, _, w', (Env.le_withB _ _ _).trans (Env.le_more _ _), R3, ?_, hrun⟩
            simp only [Sat]
            refine ⟨n, sz, ln + m, cp, hb2, den_cNum _, ?_, hle, hsz, rfl⟩
            exact R2.fresh_den _
          · cases h
        · cases h
    · cases h
  · cases h
/-- Both, where it is not known what the block holds. -/
def appE (ro : Nat → Bool) (H : AH) (e : TypeId) (esz bytes : Nat) (z : List Value) (b off : Nat) (cap : Num) (ln m : Nat) (news : List AV) : Option (List (AH × AV)) :=
  optAll (fun q : AH × Bool => match q with
    | (H', true) => match H.hp.get b with
      | some ab => bif Nat.ble (off + ln * esz) ab.n then
          (match bif ab.t.isLeaf && Nat.beq esz ab.d.length && Nat.beq (off % esz) 0 then appGrowD H' e esz bytes z ab.d ln m news else none with
            | some p => some p
            | none => appGrow H' e esz bytes (ln + m) (cellsFrom ab off (ln * esz)) news) else none
      | none => none
    | (H', false) => appRoom ro H' b off esz cap ln m news) (forkB H (H.mkLt cap (cNum ((ln + m : Nat) : Int))))
theorem appE_sound (R : Rel ro g σ H w) {t tx e ty : TypeId} {i : TypeInfo} {d : TypeDesc} {z : Value} (ht : P.underlying t = some (.slice e)) (hx : P.underlying tx = some d) (hd : isIntD d = false) (hi : P.info? e = some i) (hz : i.zero = some z) (hzs : z.cells.size = i.size)
    {b off n sz ln cp m : Nat} {cap : Num} {x : Value} {news : List AV} {nv : List Value} (hn : σ.b[b]? = some (some (n, sz))) (hcap : cap.den σ = some (cp : Int)) (hsz : off + cp * i.size ≤ sz) (hlc : ln ≤ cp)
    (hl : ∀ w, (Builtin.lenOf x).run P w = .ok m w) (hf : ∀ w' : World, w'.heap = w.heap → (Builtin.firstCells i.size m x).run P w' = .ok ⟨nv⟩ w') (sn : SatL σ news nv)
    {outs : List (AH × AV)} (h : appE ro H e i.size i.bytes z.cells.toList b off cap ln m news = some outs) :
    Acts ro g σ w P (Builtin.append_ #[t, tx] ty #[.slice (some ⟨n, off, none⟩) ln cp, x]) outs := by
  have hden := R.mkLt hcap (den_cNum (σ := σ) ((ln + m : Nat) : Int))
  obtain ⟨H', hmem, hsame, R'⟩ := R.forkB hden
  obtain ⟨q, hq, he⟩ := optAll_mem h _ hmem
  by_cases hlt : (cp : Int) < ((ln + m : Nat) : Int)
  · simp only [hlt, decide_true] at he
    split at he
    · rename_i ab hab
      rw [cond_eq_ite] at he
      split at he
      · rename_i hle
        rw [Nat.ble_eq] at hle
        obtain ⟨n', sz', hn', c, hc1, hc2, hc3, hc4⟩ := R.blk _ _ hab
        rw [hn] at hn'; cases hn'
        have so := satL_cellsFrom (σ := σ) hc4 (ln * i.size) off (by omega)
        have hlen' : ((c.toList.drop off).take (ln * i.size)).length = ln * i.size := by simp; omega
        have hfo : (Builtin.firstCells i.size ln (.slice (some ⟨n, off, none⟩) ln cp)).run P w.drew = .ok ⟨(c.toList.drop off).take (ln * i.size)⟩ w.drew := by
          have hrun := run_loadCells_list (P := P) w.drew ⟨n, off, none⟩ ((c.toList.drop off).take (ln * i.size)) (by
            intro j v hv
            rw [add_addr]
            have : w.drew.heap = w.heap := rfl
            simp only [World.cell?, this, hc1]
            have hj : j < ln * i.size := by have := (List.getElem?_eq_some_iff.1 hv).1; omega
            rw [List.getElem?_take_of_lt hj, List.getElem?_drop] at hv
            simpa using hv)
          rw [hlen'] at hrun
          exact hrun
        split at he
        · rename_i p hp
          cases he
          rw [cond_eq_ite] at hp
          split at hp
          · rename_i hcD
            simp only [Bool.and_eq_true, Nat.beq_eq] at hcD
            obtain ⟨⟨d1, d2⟩, d3⟩ := hcD
            obtain ⟨σ', V, w', h1, h2, h3, h4⟩ := appGrowD_sound (ty := ty) R' ht hx hd hi hz hl (hf w.drew rfl) hfo hlen' (fun j v hv => by
              have hj : j < ln * i.size := by have := (List.getElem?_eq_some_iff.1 hv).1; omega
              rw [List.getElem?_take_of_lt hj, List.getElem?_drop] at hv
              have h4' := hc4 (off + j) v (by simpa using hv)
              unfold CellOk at h4'
              rw [leaf_get d1] at h4'
              dsimp only at h4'
              have e3 : (off + j) % ab.d.length = j % ab.d.length := by
                rw [← d2]
                obtain ⟨q, hq⟩ := Nat.dvd_of_mod_eq_zero d3
                rw [hq, Nat.mul_add_mod]
              rw [e3] at h4'
              exact h4') sn (by omega) hp
            exact ⟨q, hq, σ', V, w', h1, h2, h3, h4⟩
          · cases hp
        · obtain ⟨σ', V, w', h1, h2, h3, h4⟩ := appGrow_sound (ty := ty) R' ht hx hd hi hz hzs hl (hf w.drew rfl) hfo so sn (by omega) he
          exact ⟨q, hq, σ', V, w', h1, h2, h3, h4⟩
      · cases he
    · cases he
  · simp only [hlt, decide_false] at he
    obtain ⟨σ', V, w', h1, h2, h3, h4⟩ := appRoom_sound (ty := ty) R' ht hx hd hi hn hcap hsz hl (hf w rfl) sn (by omega) he
    exact ⟨q, hq, σ', V, w', h1, h2, h3, h4⟩
end
end
end Go.Proofs.YtgkoghgiclkbhaaGreatDoor.Sx
namespace Go.Proofs.YtgkoghgiclkbhaaGreatDoor.Sx
open Go
noncomputable section
set_option linter.unusedVariables false
set_option linter.unusedSimpArgs false

section
variable {ro : Nat → Bool} {g : Gh} {σ : Env} {H : AH} {w : World} {P : Program}
/-- A copy of a slice of which little is known. -/
def appS (H : AH) (e : TypeId) (esz bytes : Nat) (z : Array Value) (cs : List Sh) (len : Num) : Option (AH × AV) :=
  match H.range len with
  | some (lo, hi) => bif decide (0 ≤ lo) && decide (hi * (2 * bytes) ≤ 281474976710656) && decide (hi ≤ 9223372036854775807) && zerosOk z.toList cs && Nat.beq esz cs.length && Nat.blt 0 esz then
      some ((H.fresh lo 9223372036854775807).alloc { t := .leaf, d := cs, n := lo.toNat * esz, e := e }, .sl H.nb 0 esz len ⟨some H.nn, 0⟩)
    else none
  | none => none
theorem appS_sound (R : Rel ro g σ H w) {t tx e ty : TypeId} {i : TypeInfo} {d : TypeDesc} {z : Value} (ht : P.underlying t = some (.slice e)) (hx : P.underlying tx = some d) (hd : isIntD d = false) (hi : P.info? e = some i) (hz : i.zero = some z)
    {base : Option Addr} {cs : List Sh} {len : Num} {x : Value} (hu : Sat σ (.osl cs len) x) {m : Nat} (hm : len.den σ = some (m : Int)) (h0 : 0 < m) {p : AH × AV} (h : appS H e i.size i.bytes z.cells cs len = some p) :
    ∃ σ' V w', σ.le σ' ∧ Rel ro g σ' p.1 w' ∧ Sat σ' p.2 V ∧ (Builtin.append_ #[t, tx] ty #[.slice base 0 0, x]).run P w = .ok V w' := by
  unfold appS at h
  split at h
  · rename_i lo hi' hr
    have hrange := R.range hm hr
    simp only [cond_eq_ite, Bool.and_eq_true, decide_eq_true_eq, Nat.beq_eq, Nat.blt_eq] at h
    split at h
    · rename_i hc
      obtain ⟨⟨⟨⟨⟨c1, c2⟩, c3⟩, c4⟩, c5⟩, c6⟩ := hc
      cases h
      have hd' : ∀ k, d ≠ .int k := by intro k hk; subst hk; cases hd
      simp only [Sat] at hu
      obtain ⟨xb, l, cap, rfl, hl, hlc, hb⟩ := hu
      rw [hm] at hl; cases hl
      rcases hb with ⟨_, rfl⟩ | ⟨b, off, cc, e', fr, rfl, him, hsz, hall⟩
      · omega
      · have him' := R.imm _ _ him
        have hlen : ((cc.toList.drop off).take (m * i.size)).length = m * i.size := by simp; rw [c5]; omega
        have hf : (Builtin.firstCells i.size m (.slice (some ⟨b, off, none⟩) m cap)).run P w.drew = .ok ⟨(cc.toList.drop off).take (m * i.size)⟩ w.drew := by
          have hrun := run_loadCells_list (P := P) w.drew ⟨b, off, none⟩ ((cc.toList.drop off).take (m * i.size)) (by
            intro j v hv
            rw [add_addr]
            have : w.drew.heap = w.heap := rfl
            simp only [World.cell?, this, him']
            have hj : j < m * i.size := by have := (List.getElem?_eq_some_iff.1 hv).1; omega
            rw [List.getElem?_take_of_lt hj, List.getElem?_drop] at hv
            simpa using hv)
          rw [hlen] at hrun
          exact hrun
        have hfo : (Builtin.firstCells i.size 0 (.slice base 0 0)).run P w.drew = .ok ⟨[]⟩ w.drew := by
          cases base with
          | none => rfl
          | some a => simp [Builtin.firstCells, loadCells, loadCellsFrom]
        have hfit : (0 + m) * (2 * i.bytes) ≤ 281474976710656 := by
          have h1 : (m : Int) * (2 * i.bytes) ≤ hi' * (2 * i.bytes) := Int.mul_le_mul_of_nonneg_right hrange.2 (by omega)
          have h2 : (((0 + m) * (2 * i.bytes) : Nat) : Int) = (m : Int) * (2 * i.bytes) := by push_cast; simp
          omega
        obtain ⟨k, k1, k2, hrun⟩ := append_grow (w := w) (ty := ty) ht hx hd' hi hz (base := base) (ln := 0) (cp := 0) (n := m) (x := .slice (some ⟨b, off, none⟩) m cap) (fun w => rfl) hf hfo (by omega) (by omega) hfit
        have R1 := R.fresh (lo := lo) (hi := 9223372036854775807) (n := (k : Int)) (by omega) (by omega)
        have l1 := σ.le_more (k : Int)
        obtain ⟨z1, z2⟩ := zerosOk_get (imm := σ.imm) c4
        have hz1 : z.cells.size = cs.length := by simpa using z1
        have hsz' : ((⟨[] ++ (cc.toList.drop off).take (m * i.size)⟩ : Array Value) ++ Builtin.zeroCells z.cells (k - (0 + m))).size = k * i.size := by
          have e1 : (⟨[] ++ (cc.toList.drop off).take (m * i.size)⟩ : Array Value).size = m * i.size := by
            change (([] : List Value) ++ (cc.toList.drop off).take (m * i.size)).length = _
            rw [List.nil_append]; exact hlen
          rw [Array.size_append, e1]
          simp only [Builtin.zeroCells, Array.size_map, Array.size_range, hz1, c5, ← Nat.add_mul]
          congr 1; omega
        obtain ⟨R2, hb2⟩ := R1.alloc (w' := w.drew.alloc (.cells (⟨[] ++ (cc.toList.drop off).take (m * i.size)⟩ ++ Builtin.zeroCells z.cells (k - (0 + m))) e)) (ab := { t := .leaf, d := cs, n := lo.toNat * i.size, e := e })
          (c := ⟨[] ++ (cc.toList.drop off).take (m * i.size)⟩ ++ Builtin.zeroCells z.cells (k - (0 + m))) rfl (by rw [hsz']; exact Nat.mul_le_mul_right _ (by omega)) (fun j v hv => by
            unfold CellOk
            dsimp only [Tr.get]
            change SatShAt σ.imm cs (j % cs.length) v
            by_cases hj : j < m * i.size
            · rw [Array.getElem?_append_left (by change j < (([] : List Value) ++ (cc.toList.drop off).take (m * i.size)).length; rw [List.nil_append, hlen]; exact hj)] at hv
              simp only [List.getElem?_toArray, List.nil_append] at hv
              rw [List.getElem?_take_of_lt hj, List.getElem?_drop] at hv
              exact hall j v (by rw [← c5]; exact hj) (by simpa using hv)
            · rw [Array.getElem?_append_right (by change (([] : List Value) ++ (cc.toList.drop off).take (m * i.size)).length ≤ j; rw [List.nil_append, hlen]; omega)] at hv
              have e1 : (⟨[] ++ (cc.toList.drop off).take (m * i.size)⟩ : Array Value).size = m * i.size := by
                change (([] : List Value) ++ (cc.toList.drop off).take (m * i.size)).length = _
                rw [List.nil_append]; exact hlen
              rw [e1] at hv
              simp only [Builtin.zeroCells, Array.getElem?_map] at hv
              have hlt : j - m * i.size < (k - (0 + m)) * z.cells.size := by
                rcases Nat.lt_or_ge (j - m * i.size) ((k - (0 + m)) * z.cells.size) with h | h
                · exact h
                · rw [Array.getElem?_eq_none (by simp only [Array.size_range]; exact h)] at hv; cases hv
              rw [Array.getElem?_range] at hv
              rw [if_pos hlt] at hv
              simp only [Option.map_some, Option.some.injEq] at hv
              have hmod : (j - m * i.size) % z.cells.size = j % cs.length := by
                rw [hz1, c5]
                have : j = m * cs.length + (j - m * cs.length) := by rw [c5] at hj; omega
                rw [this, Nat.mul_comm m cs.length, Nat.mul_add_mod]; congr 1; omega
              have hpos : j % cs.length < z.cells.size := by rw [hz1]; exact Nat.mod_lt _ (by omega)
              refine z2 (j % cs.length) v ?_
              rw [← hmod, ← hv]
              have : (j - m * i.size) % z.cells.size < z.cells.size := by rw [hmod]; exact hpos
              simp [this])
        refine ⟨_, _, _, l1.trans (Env.le_withB _ _ _), R2, ?_, hrun⟩
        simp only [Sat]
        refine ⟨_, _, m, k, hb2, ?_, ?_, by omega, ?_, by rw [Nat.zero_add]⟩
        · exact Num.den_mono (l1.trans (Env.le_withB _ _ _)) hm
        · exact Num.den_mono (Env.le_withB _ _ _) (R.fresh_den (k : Int))
        · rw [hsz']; omega
    · cases h
  · cases h
/-- Behind an unknown number of others, in a block that is great enough. -/
def appW (ro : Nat → Bool) (H : AH) (b off esz : Nat) (len cap : Num) (m : Nat) (news : List AV) : Option (AH × AV) :=
  match H.hp.get b with
  | some ab => bif ro b && news.all isCell && Nat.beq news.length (m * esz) && H.leB (len.addc m) cap then
      match weakShs H ab off esz 0 len (m * esz) with
      | some ss => match foldSh (toSh ro 4) H news ss with
        | some H' => match H'.hp.get b with
          | some ab' => some (H'.put b ab', .sl b off esz (len.addc m) cap)
          | none => none
        | none => none
      | none => none
    else none
  | none => none
theorem appW_sound (R : Rel ro g σ H w) {t tx e ty : TypeId} {i : TypeInfo} {d : TypeDesc} (ht : P.underlying t = some (.slice e)) (hx : P.underlying tx = some d) (hd : isIntD d = false) (hi : P.info? e = some i)
    {b off n sz ln cp m : Nat} {len cap : Num} {x : Value} {news : List AV} {nv : List Value} (hn : σ.b[b]? = some (some (n, sz))) (hlen : len.den σ = some (ln : Int)) (hcap : cap.den σ = some (cp : Int)) (hsz : off + cp * i.size ≤ sz)
    (hl : ∀ w, (Builtin.lenOf x).run P w = .ok m w) (hf : (Builtin.firstCells i.size m x).run P w = .ok ⟨nv⟩ w) (sn : SatL σ news nv)
    {p : AH × AV} (h : appW ro H b off i.size len cap m news = some p) :
    ∃ σ' V w', σ.le σ' ∧ Rel ro g σ' p.1 w' ∧ Sat σ' p.2 V ∧ (Builtin.append_ #[t, tx] ty #[.slice (some ⟨n, off, none⟩) ln cp, x]).run P w = .ok V w' := by
  unfold appW at h
  split at h
  · rename_i ab hab
    simp only [cond_eq_ite, Bool.and_eq_true, Nat.ble_eq, Nat.beq_eq] at h
    split at h
    · rename_i hc
      obtain ⟨⟨⟨c1, c2⟩, c3⟩, c4⟩ := hc
      have hd' : ∀ k, d ≠ .int k := by intro k hk; subst hk; cases hd
      have hneed : (len.addc m).den σ = some ((ln + m : Nat) : Int) := by rw [Num.den_addc hlen]; congr 1
      have hle := R.leB hneed hcap c4
      have hle : ln + m ≤ cp := by omega
      have hmul : (ln + m) * i.size ≤ cp * i.size := Nat.mul_le_mul_right _ hle
      have hadd : (ln + m) * i.size = ln * i.size + m * i.size := Nat.add_mul ..
      split at h
      · rename_i ss hss
        split at h
        · rename_i H1 hfold
          split at h
          · rename_i ab' hab'
            cases h
            obtain ⟨σ', l1, en, eb, R1, s1, u1⟩ := foldSh_sound (toSh_sound 4) _ _ _ σ H H1 R sn hfold
            have := u1 _ _ hab'
            rw [hab] at this; cases this
            have hnl := sn.length
            have hok := weakShs_ok R hlen hss (by omega) s1
            have hn' : σ'.b[b]? = some (some (n, sz)) := by rw [eb]; exact hn
            obtain ⟨c, e1, e2, e3⟩ := R1.layAny (P := P) c1 hab' hn' (satL_oneCell sn c2) (off := off + ln * i.size) (by omega) (fun q v hv => by simpa using hok q v hv)
            have hrun := append_room (ty := ty) (cp := cp) (ln := ln) ht hx hd' hi hl hf hle (ad := ⟨n, off, none⟩) (by rw [add_addr]; exact e2)
            refine ⟨σ', _, _, l1, e3, ?_, hrun⟩
            simp only [Sat]
            exact ⟨n, sz, ln + m, cp, hn', Num.den_mono l1 hneed, Num.den_mono l1 hcap, hle, hsz, rfl⟩
          · cases h
        · cases h
      · cases h
    · cases h
  · cases h
theorem growD_core (R : Rel ro g σ H w) {t tx e ty : TypeId} {i : TypeInfo} {d : TypeDesc} {z : Value} (ht : P.underlying t = some (.slice e)) (hx : P.underlying tx = some d) (hd : isIntD d = false) (hi : P.info? e = some i) (hz : i.zero = some z)
    {base : Option Addr} {ln cp n : Nat} {x : Value} {news : List AV} {ov nv : List Value} {cs : List Sh} (hl : ∀ w, (Builtin.lenOf x).run P w = .ok n w) (hf : (Builtin.firstCells i.size n x).run P w.drew = .ok ⟨nv⟩ w.drew)
    (hfo : (Builtin.firstCells i.size ln (.slice base ln cp)).run P w.drew = .ok ⟨ov⟩ w.drew) (hov : ov.length = ln * i.size) (so : ∀ j v, ov[j]? = some v → SatShAt σ.imm cs (j % cs.length) v) (sn : SatL σ news nv)
    (hlt : cp < ln + n) {lenN : Num} (hlenN : lenN.den σ = some ((ln + n : Nat) : Int)) {lo0 : Int} (hlo0 : lo0 ≤ ((ln + n : Nat) : Int)) {nmin : Nat} (hmin : nmin ≤ (ln + n) * i.size)
    (c1 : (ln + n) * (2 * i.bytes) ≤ 281474976710656) (c2 : ln + n < 9223372036854775808) (c4 : zerosOk z.cells.toList cs = true) (c5 : i.size = cs.length) (c6 : 0 < i.size) (c8 : news.length = n * i.size) (c7 : fits H cs (ln * i.size) news = true) :
    ∃ σ' V w', σ.le σ' ∧ Rel ro g σ' ((H.fresh lo0 9223372036854775807).alloc { t := .leaf, d := cs, n := nmin, e := e }) w' ∧ Sat σ' (.sl H.nb 0 i.size lenN ⟨some H.nn, 0⟩) V ∧ (Builtin.append_ #[t, tx] ty #[.slice base ln cp, x]).run P w = .ok V w' := by
  have hd' : ∀ k, d ≠ .int k := by intro k hk; subst hk; cases hd
  obtain ⟨k, k1, k2, hrun⟩ := append_grow (ty := ty) ht hx hd' hi hz hl hf hfo hlt (by omega) c1
  have R1 := R.fresh (lo := lo0) (hi := 9223372036854775807) (n := (k : Int)) (by omega) (by omega)
  have l1 := σ.le_more (k : Int)
  obtain ⟨z1, z2⟩ := zerosOk_get (imm := σ.imm) c4
  have hz1 : z.cells.size = cs.length := by simpa using z1
  have hnv : nv.length = n * i.size := by rw [sn.length]; exact c8
  have hln : (ov ++ nv).length = (ln + n) * i.size := by rw [List.length_append, hov, hnv, Nat.add_mul]
  have e1 : (⟨ov ++ nv⟩ : Array Value).size = (ln + n) * i.size := hln
  have hsz : ((⟨ov ++ nv⟩ : Array Value) ++ Builtin.zeroCells z.cells (k - (ln + n))).size = k * i.size := by
    rw [Array.size_append, e1]
    simp only [Builtin.zeroCells, Array.size_map, Array.size_range, hz1, c5, ← Nat.add_mul]
    congr 1; omega
  have hnew := fits_ok R (ab := { t := .leaf, d := cs, n := 0, e := e }) rfl c7 sn
  obtain ⟨R2, hb⟩ := R1.alloc (w' := w.drew.alloc (.cells (⟨ov ++ nv⟩ ++ Builtin.zeroCells z.cells (k - (ln + n))) e)) (ab := { t := .leaf, d := cs, n := nmin, e := e })
    (c := ⟨ov ++ nv⟩ ++ Builtin.zeroCells z.cells (k - (ln + n))) rfl (by rw [hsz]; exact Nat.le_trans hmin (Nat.mul_le_mul_right _ k1)) (fun j v hv => by
      unfold CellOk
      dsimp only [Tr.get]
      change SatShAt σ.imm cs (j % cs.length) v
      by_cases hj : j < (ln + n) * i.size
      · rw [Array.getElem?_append_left (by change j < (ov ++ nv).length; rw [hln]; exact hj)] at hv
        simp only [List.getElem?_toArray] at hv
        by_cases hjo : j < ln * i.size
        · rw [List.getElem?_append_left (by omega)] at hv
          exact so j v hv
        · rw [List.getElem?_append_right (by omega)] at hv
          have := hnew _ v hv
          unfold CellOk at this
          dsimp only [Tr.get] at this
          rw [hov, show ln * i.size + (j - ln * i.size) = j by omega] at this
          exact this
      · rw [Array.getElem?_append_right (by rw [e1]; omega), e1] at hv
        simp only [Builtin.zeroCells, Array.getElem?_map] at hv
        have hlt : j - (ln + n) * i.size < (k - (ln + n)) * z.cells.size := by
          rcases Nat.lt_or_ge (j - (ln + n) * i.size) ((k - (ln + n)) * z.cells.size) with h | h
          · exact h
          · rw [Array.getElem?_eq_none (by simp only [Array.size_range]; exact h)] at hv; cases hv
        rw [Array.getElem?_range] at hv
        rw [if_pos hlt] at hv
        simp only [Option.map_some, Option.some.injEq] at hv
        have hmod : (j - (ln + n) * i.size) % z.cells.size = j % cs.length := by
          rw [hz1, c5]
          have : j = (ln + n) * cs.length + (j - (ln + n) * cs.length) := by rw [c5] at hj; omega
          rw [this, Nat.mul_comm (ln + n) cs.length, Nat.mul_add_mod]; congr 1; omega
        have hpos : j % cs.length < z.cells.size := by rw [hz1]; exact Nat.mod_lt _ (by omega)
        refine z2 (j % cs.length) v ?_
        rw [← hmod, ← hv]
        have : (j - (ln + n) * i.size) % z.cells.size < z.cells.size := by rw [hmod]; exact hpos
        simp [this])
  refine ⟨_, _, _, l1.trans (Env.le_withB _ _ _), R2, ?_, hrun⟩
  simp only [Sat]
  refine ⟨_, _, ln + n, k, hb, Num.den_mono (l1.trans (Env.le_withB _ _ _)) hlenN, ?_, k1, ?_, rfl⟩
  · have := R.fresh_den (k : Int)
    exact Num.den_mono (Env.le_withB _ _ _) this
  · rw [hsz]; omega
theorem fits_shift {H : AH} {d : List Sh} {k : Nat} (hk : k % d.length = 0) : ∀ {l : List AV} {p : Nat}, fits H d p l = true → fits H d (k + p) l = true
  | [], p, h => rfl
  | a :: l, p, h => by
    simp only [fits, Bool.and_eq_true] at h ⊢
    have e : (k + p) % d.length = p % d.length := by
      obtain ⟨q, hq⟩ := Nat.dvd_of_mod_eq_zero hk
      rw [hq, Nat.mul_add_mod]
    refine ⟨by rw [e]; exact h.1, ?_⟩
    have := fits_shift hk h.2
    rwa [show k + (p + 1) = k + p + 1 by omega] at this
/-- Behind an unknown number of others, whatever room there is. -/
def appU (ro : Nat → Bool) (H : AH) (e : TypeId) (esz bytes : Nat) (z : List Value) (b off : Nat) (len cap : Num) (m : Nat) (news : List AV) : Option (List (AH × AV)) :=
  match H.hp.get b, H.range len with
  | some ab, some (l0, l1) => bif ab.t.isLeaf && !H.fm && Nat.beq esz ab.d.length && Nat.beq (off % esz) 0 && Nat.blt 0 esz && decide (0 ≤ l0) && decide ((l1 + m) * (2 * bytes) ≤ 281474976710656) && decide (l1 + m < 9223372036854775808) &&
      zerosOk z ab.d && Nat.beq news.length (m * esz) && fits H ab.d 0 news && ro b && news.all isCell then
      some [((H.fresh (l0 + m) 9223372036854775807).alloc { t := .leaf, d := ab.d, n := (l0 + m).toNat * esz, e := e }, .sl H.nb 0 esz (len.addc m) ⟨some H.nn, 0⟩), (H.put b ab, .sl b off esz (len.addc m) cap)]
    else none
  | _, _ => none
theorem appU_sound (R : Rel ro g σ H w) {t tx e ty : TypeId} {i : TypeInfo} {d : TypeDesc} {z : Value} (ht : P.underlying t = some (.slice e)) (hx : P.underlying tx = some d) (hd : isIntD d = false) (hi : P.info? e = some i) (hz : i.zero = some z)
    {b off n sz ln cp m : Nat} {len cap : Num} {x : Value} {news : List AV} {nv : List Value} (hn : σ.b[b]? = some (some (n, sz))) (hlen : len.den σ = some (ln : Int)) (hcap : cap.den σ = some (cp : Int)) (hsz : off + cp * i.size ≤ sz) (hlc : ln ≤ cp)
    (hl : ∀ w, (Builtin.lenOf x).run P w = .ok m w) (hf : ∀ w' : World, w'.heap = w.heap → (Builtin.firstCells i.size m x).run P w' = .ok ⟨nv⟩ w') (sn : SatL σ news nv)
    {outs : List (AH × AV)} (h : appU ro H e i.size i.bytes z.cells.toList b off len cap m news = some outs) :
    Acts ro g σ w P (Builtin.append_ #[t, tx] ty #[.slice (some ⟨n, off, none⟩) ln cp, x]) outs := by
  unfold appU at h
  split at h
  · rename_i ab l0 l1 hab hrg
    simp only [cond_eq_ite, Bool.and_eq_true, Nat.ble_eq, Nat.beq_eq, Nat.blt_eq, decide_eq_true_eq] at h
    split at h
    · rename_i hc
      obtain ⟨⟨⟨⟨⟨⟨⟨⟨⟨⟨⟨⟨c1, c2⟩, c3⟩, c4⟩, c5⟩, c6⟩, c7⟩, c8⟩, c9⟩, c10⟩, c11⟩, c12⟩, c13⟩ := hc
      cases h
      have hd' : ∀ k, d ≠ .int k := by intro k hk; subst hk; cases hd
      obtain ⟨r1, r2⟩ := R.range hlen hrg
      have hneed : (len.addc m).den σ = some ((ln + m : Nat) : Int) := by rw [Num.den_addc hlen]; congr 1
      obtain ⟨n', sz', hn', c, hc1, hc2, hc3, hc4⟩ := R.blk _ _ hab
      rw [hn] at hn'; cases hn'
      by_cases hle : ln + m ≤ cp
      · -- there is room
        have hmul : (ln + m) * i.size ≤ cp * i.size := Nat.mul_le_mul_right _ hle
        have hadd : (ln + m) * i.size = ln * i.size + m * i.size := Nat.add_mul ..
        have hnl := sn.length
        have hk : (off + ln * i.size) % ab.d.length = 0 := by
          rw [← c3]
          rw [Nat.add_mul_mod_self_right]; exact c4
        have hfit := fits_ok R (ab := ab) c1 (fits_shift hk c11) sn
        obtain ⟨c, e1, e2, e3⟩ := R.layAny (P := P) c12 hab hn (satL_oneCell sn c13) (off := off + ln * i.size) (by omega) (fun q v hv => by simpa using hfit q v hv)
        have hrun := append_room (ty := ty) (cp := cp) (ln := ln) ht hx hd' hi hl (hf w rfl) hle (ad := ⟨n, off, none⟩) (by rw [add_addr]; exact e2)
        refine ⟨_, List.mem_cons_of_mem _ (List.mem_singleton.2 rfl), σ, _, _, .refl σ, e3, ?_, hrun⟩
        simp only [Sat]
        exact ⟨n, sz, ln + m, cp, hn, hneed, hcap, hle, hsz, rfl⟩
      · have hcap2 : ln * i.size ≤ cp * i.size := Nat.mul_le_mul_right _ hlc
        have hlen' : ((c.toList.drop off).take (ln * i.size)).length = ln * i.size := by simp; omega
        have hfo : (Builtin.firstCells i.size ln (.slice (some ⟨n, off, none⟩) ln cp)).run P w.drew = .ok ⟨(c.toList.drop off).take (ln * i.size)⟩ w.drew := by
          have hrun := run_loadCells_list (P := P) w.drew ⟨n, off, none⟩ ((c.toList.drop off).take (ln * i.size)) (by
            intro j v hv
            rw [add_addr]
            have : w.drew.heap = w.heap := rfl
            simp only [World.cell?, this, hc1]
            have hj : j < ln * i.size := by have := (List.getElem?_eq_some_iff.1 hv).1; omega
            rw [List.getElem?_take_of_lt hj, List.getElem?_drop] at hv
            simpa using hv)
          rw [hlen'] at hrun
          exact hrun
        obtain ⟨σ', V, w', h1, h2, h3, h4⟩ := growD_core (ty := ty) R ht hx hd hi hz hl (hf w.drew rfl) hfo hlen' (fun j v hv => by
              have hj : j < ln * i.size := by have := (List.getElem?_eq_some_iff.1 hv).1; omega
              rw [List.getElem?_take_of_lt hj, List.getElem?_drop] at hv
              have h4' := hc4 (off + j) v (by simpa using hv)
              unfold CellOk at h4'
              rw [leaf_get c1] at h4'
              dsimp only at h4'
              have e3 : (off + j) % ab.d.length = j % ab.d.length := by
                rw [← c3]
                obtain ⟨q, hq⟩ := Nat.dvd_of_mod_eq_zero c4
                rw [hq, Nat.mul_add_mod]
              rw [e3] at h4'
              exact h4') sn (by omega) hneed (lo0 := l0 + m) (by omega) (nmin := (l0 + m).toNat * i.size) (Nat.mul_le_mul_right _ (by omega))
              (by have := Int.mul_le_mul_of_nonneg_right (show ((ln + m : Nat) : Int) ≤ l1 + m by omega) (show (0 : Int) ≤ 2 * (i.bytes : Int) by omega)
                  have e : (((ln + m) * (2 * i.bytes) : Nat) : Int) = ((ln + m : Nat) : Int) * (2 * (i.bytes : Int)) := by simp
                  omega) (by omega) c9 c3 c5 c10 (by
                have := fits_shift (k := ln * i.size) (by rw [← c3]; exact Nat.mul_mod_left _ _) c11
                simpa using this)
        exact ⟨_, List.mem_cons_self .., σ', V, w', h1, h2, h3, h4⟩
    · cases h
  · cases h
/-! a whole slice of the same kinds, laid behind the others -/
theorem shNth_at0 {σ : Env} {d : List Sh} {j : Nat} {v : Value} (hd : 0 < d.length) (h : Sat σ (shNth d j) v) : SatShAt σ.imm d (j % d.length) v := by
  unfold shNth at h
  have hlt : j % d.length < d.length := Nat.mod_lt _ hd
  rw [List.getElem?_eq_getElem hlt] at h
  exact (SatShAt.of_get d _ _ _ (List.getElem?_eq_getElem hlt)).2 (by simpa only [Sat] using h)
theorem perCells_get (d : List Sh) : ∀ (n p q : Nat), q < n → (perCells d p n)[q]? = some (shNth d (p + q))
  | 0, p, q, h => by omega
  | n + 1, p, 0, h => by simp [perCells]
  | n + 1, p, q + 1, h => by
    simp only [perCells, List.getElem?_cons_succ]
    rw [perCells_get d n (p + 1) q (by omega), show p + 1 + q = p + (q + 1) by omega]
theorem cellsFrom_get (ab : AB) : ∀ (n p q : Nat), q < n → (cellsFrom ab p n)[q]? = some (cellAV ab (p + q))
  | 0, p, q, h => by omega
  | n + 1, p, 0, h => by simp [cellsFrom]
  | n + 1, p, q + 1, h => by
    simp only [cellsFrom, List.getElem?_cons_succ]
    rw [cellsFrom_get ab n (p + 1) q (by omega), show p + 1 + q = p + (q + 1) by omega]
/-- How many elements of these kinds a slice has, where it is known. -/
def srcF (H : AH) (esz : Nat) (d : List Sh) (x : AV) : Option Nat :=
  match x with
  | .osl cs len => (match (H.norm len).s with
    | none => bif Nat.beq esz cs.length && decide (0 ≤ (H.norm len).c) && Sh.beqL cs d then some (H.norm len).c.toNat else none
    | some _ => none)
  | .sl b off esz' len _ => (match (H.norm len).s, H.hp.get b with
    | none, some ab => bif Nat.beq esz esz' && Nat.ble (off + (H.norm len).c.toNat * esz) ab.n && decide (0 ≤ (H.norm len).c) && ab.t.isLeaf && Sh.beqL ab.d d && Nat.beq (off % esz) 0 then some (H.norm len).c.toNat else none
    | _, _ => none)
  | _ => none
theorem srcF_sound (R : Rel ro g σ H w) {esz : Nat} {d : List Sh} (hd : esz = d.length) (hd0 : 0 < d.length) {x : AV} {u : Value} (hu : Sat σ x u) {m : Nat} (h : srcF H esz d x = some m) :
    ∃ vs : List Value, (∀ w, (Builtin.lenOf u).run P w = .ok m w) ∧ vs.length = m * esz ∧ (∀ q v, vs[q]? = some v → SatShAt σ.imm d (q % d.length) v) ∧
      ∀ w' : World, w'.heap = w.heap → (Builtin.firstCells esz m u).run P w' = .ok ⟨vs⟩ w' := by
  have fin : ∀ news : List AV, srcL H esz x = some (m, news) → (∀ q a, news[q]? = some a → ∃ j, a = shNth d j ∧ j % d.length = q % d.length) → ∃ vs : List Value, (∀ w, (Builtin.lenOf u).run P w = .ok m w) ∧ vs.length = m * esz ∧ (∀ q v, vs[q]? = some v → SatShAt σ.imm d (q % d.length) v) ∧
      ∀ w' : World, w'.heap = w.heap → (Builtin.firstCells esz m u).run P w' = .ok ⟨vs⟩ w' := by
    intro news hs hn
    obtain ⟨vs, q1, q2, q3, q4⟩ := srcL_sound (P := P) R hu hs
    dsimp only at q1 q2 q3 q4
    refine ⟨vs, q1, q3, fun q v hv => ?_, fun w' hw => ?_⟩
    · have hlt := (List.getElem?_eq_some_iff.1 hv).1
      rw [q2.length] at hlt
      obtain ⟨v', e1, e2⟩ := q2.get (List.getElem?_eq_getElem hlt)
      rw [hv] at e1; cases e1
      obtain ⟨j, e3, e4⟩ := hn q _ (List.getElem?_eq_getElem hlt)
      rw [e3] at e2
      rw [← e4]
      exact shNth_at0 hd0 e2
    · have := q4 w' hw m (Nat.le_refl _)
      rwa [List.take_of_length_le (by rw [q3]; exact Nat.le_refl _)] at this
  unfold srcF at h
  split at h
  · rename_i cs len
    split at h
    · rename_i hs
      simp only [cond_eq_ite, Bool.and_eq_true, Nat.beq_eq, decide_eq_true_eq] at h
      split at h
      · rename_i hc
        cases h
        obtain ⟨⟨c1, c2⟩, c3⟩ := hc
        have := Sh.beqL_eq _ _ c3
        subst this
        refine fin (perCells cs 0 ((H.norm len).c.toNat * esz)) (by simp [srcL, hs, c1, c2]) fun q a ha => ?_
        have hlt := (List.getElem?_eq_some_iff.1 ha).1
        have hlen : (perCells cs 0 ((H.norm len).c.toNat * esz)).length = (H.norm len).c.toNat * esz := by
          have : ∀ n p, (perCells cs p n).length = n := by
            intro n; induction n with
            | zero => intro p; rfl
            | succ n ih => intro p; simp [perCells, ih]
          exact this _ _
        rw [perCells_get cs _ 0 q (by omega)] at ha
        cases ha
        exact ⟨0 + q, rfl, by rw [Nat.zero_add]⟩
      · cases h
    · cases h
  · rename_i b off esz' len cap
    split at h
    · rename_i ab hs hab
      simp only [cond_eq_ite, Bool.and_eq_true, Nat.beq_eq, Nat.ble_eq, decide_eq_true_eq] at h
      split at h
      · rename_i hc
        cases h
        obtain ⟨⟨⟨⟨⟨c1, c2⟩, c3⟩, c4⟩, c5⟩, c6⟩ := hc
        have := Sh.beqL_eq _ _ c5
        subst this
        subst c1
        refine fin (cellsFrom ab off ((H.norm len).c.toNat * esz)) (by simp [srcL, hs, hab, c3, show Nat.ble (off + (H.norm len).c.toNat * esz) ab.n = true by rw [Nat.ble_eq]; exact c2]) fun q a ha => ?_
        have hlt := (List.getElem?_eq_some_iff.1 ha).1
        have hlen : (cellsFrom ab off ((H.norm len).c.toNat * esz)).length = (H.norm len).c.toNat * esz := by
          have : ∀ n p, (cellsFrom ab p n).length = n := by
            intro n; induction n with
            | zero => intro p; rfl
            | succ n ih => intro p; simp [cellsFrom, ih]
          exact this _ _
        rw [cellsFrom_get ab _ off q (by omega)] at ha
        cases ha
        refine ⟨off + q, by simp only [cellAV, leaf_get c4], ?_⟩
        rw [hd] at c6
        obtain ⟨r, hr⟩ := Nat.dvd_of_mod_eq_zero c6
        rw [hr, Nat.mul_add_mod]
      · cases h
    · cases h
  · cases h
def appF (ro : Nat → Bool) (H : AH) (b off esz : Nat) (len cap : Num) (x : AV) : Option (AH × AV) :=
  bif H.fm then none else match H.hp.get b with
  | some ab => (match srcF H esz ab.d x with
    | some m => bif ab.t.isLeaf && ro b && Nat.beq esz ab.d.length && Nat.beq (off % esz) 0 && Nat.blt 0 esz && ab.d.all shCell && H.leB (len.addc m) cap then some (H.put b ab, .sl b off esz (len.addc m) cap) else none
    | none => none)
  | none => none
theorem appF_sound (R : Rel ro g σ H w) {t tx e ty : TypeId} {i : TypeInfo} {d : TypeDesc} (ht : P.underlying t = some (.slice e)) (hx : P.underlying tx = some d) (hd : isIntD d = false) (hi : P.info? e = some i)
    {b off n sz ln cp : Nat} {len cap : Num} {x : AV} {u : Value} (hn : σ.b[b]? = some (some (n, sz))) (hlen : len.den σ = some (ln : Int)) (hcap : cap.den σ = some (cp : Int)) (hsz : off + cp * i.size ≤ sz)
    (hu : Sat σ x u) {p : AH × AV} (h : appF ro H b off i.size len cap x = some p) :
    ∃ σ' V w', σ.le σ' ∧ Rel ro g σ' p.1 w' ∧ Sat σ' p.2 V ∧ (Builtin.append_ #[t, tx] ty #[.slice (some ⟨n, off, none⟩) ln cp, u]).run P w = .ok V w' := by
  unfold appF at h
  rw [cond_eq_ite] at h
  split at h
  · cases h
  · split at h
    · rename_i ab hab
      split at h
      · rename_i m hm
        simp only [cond_eq_ite, Bool.and_eq_true, Nat.beq_eq, Nat.blt_eq] at h
        split at h
        · rename_i hc
          cases h
          obtain ⟨⟨⟨⟨⟨⟨c1, c2⟩, c3⟩, c4⟩, c5⟩, c6⟩, c7⟩ := hc
          have hd' : ∀ k, d ≠ .int k := by intro k hk; subst hk; cases hd
          obtain ⟨vs, q1, q2, q3, q4⟩ := srcF_sound (P := P) R c3 (by omega) hu hm
          have hneed : (len.addc m).den σ = some ((ln + m : Nat) : Int) := by rw [Num.den_addc hlen]; congr 1
          have hle := R.leB hneed hcap c7
          have hle : ln + m ≤ cp := by omega
          have hmul : (ln + m) * i.size ≤ cp * i.size := Nat.mul_le_mul_right _ hle
          have hadd : (ln + m) * i.size = ln * i.size + m * i.size := Nat.add_mul ..
          have hpos : 0 < ab.d.length := by omega
          obtain ⟨c, e1, e2, e3⟩ := R.layAny (P := P) c2 hab hn (vs := vs) (fun v hv => by
              obtain ⟨q, hq⟩ := List.getElem?_of_mem hv
              have hs := q3 q v hq
              have hlt : q % ab.d.length < ab.d.length := Nat.mod_lt _ hpos
              have hs := (SatShAt.of_get ab.d _ v _ (List.getElem?_eq_getElem hlt)).1 hs
              have hcell := (List.all_eq_true.1 c6) _ (List.getElem_mem hlt)
              exact flat_oneCell (shCell_flat hcell hs)) (off := off + ln * i.size) (by omega) (fun q v hv => by
              unfold CellOk
              rw [leaf_get c1]
              dsimp only
              have e : (off + ln * i.size + q) % ab.d.length = q % ab.d.length := by
                have hk : (off + ln * i.size) % ab.d.length = 0 := by
                  rw [← c3, Nat.add_mul_mod_self_right]; exact c4
                obtain ⟨r, hr⟩ := Nat.dvd_of_mod_eq_zero hk
                rw [hr, Nat.mul_add_mod]
              rw [e]; exact q3 q v hv)
          have hrun := append_room (ty := ty) (cp := cp) (ln := ln) ht hx hd' hi q1 (q4 w rfl) hle (ad := ⟨n, off, none⟩) (by rw [add_addr]; exact e2)
          refine ⟨σ, _, _, .refl σ, e3, ?_, hrun⟩
          simp only [Sat]
          exact ⟨n, sz, ln + m, cp, hn, hneed, hcap, hle, hsz, rfl⟩
        · cases h
      · cases h
    · cases h
def vAppend (P : Program) (ro : Nat → Bool) (H : AH) (tys : List TypeId) (args : List AV) : Option (List (AH × AV)) :=
  match tys, args with
  | [t, tx], [s, x] => match P.underlying t, P.underlying tx with
    | some (.slice e), some d => bif isIntD d then none else match P.info? e with
      | some i => match i.zero with
        | some z => bif Nat.beq z.cells.size i.size then
          match s with
          | .lit (.slice none 0 0) => match srcL H i.size x with
            | some (m + 1, news) => match appGrowD H e i.size i.bytes z.cells.toList (candD i.size news) 0 (m + 1) news with
              | some p => some [p]
              | none => match appGrow H e i.size i.bytes (0 + (m + 1)) [] news with
                | some p => some [p]
                | none => none
            | _ => none
          | .sl b off esz len cap => bif Nat.beq esz i.size then
              match appF ro H b off i.size (H.norm len) (H.norm cap) x with
              | some p => some [p]
              | none => match srcL H i.size x with
              | some (m, news) => match (H.norm len).s with
                | none => bif decide (0 ≤ (H.norm len).c) then appE ro H e i.size i.bytes z.cells.toList b off (H.norm cap) (H.norm len).c.toNat m news else none
                | some _ => match appW ro H b off i.size (H.norm len) (H.norm cap) m news with
                  | some p => some [p]
                  | none => appU ro H e i.size i.bytes z.cells.toList b off (H.norm len) (H.norm cap) m news
              | none => match x with
                | .osl cs lenx => bif decide (H.norm len = cNum 0) && decide (H.norm cap = cNum 0) then
                    optAll (fun q : AH × Bool => match q with
                      | (H', true) => some (H', s)
                      | (H', false) => appS H' e i.size i.bytes z.cells cs lenx) (forkB H (H.mkEq lenx (cNum 0)))
                  else none
                | _ => none
            else none
          | _ => none
          else none
        | none => none
      | none => none
    | _, _ => none
  | _, _ => none
theorem vAppend_sound (R : Rel ro g σ H w) {tys : Array TypeId} {ty : TypeId} {args : List AV} {vs : Array Value} (hs : SatL σ args vs.toList)
    {outs : List (AH × AV)} (h : vAppend P ro H tys.toList args = some outs) : Acts ro g σ w P (Builtin.append_ tys ty vs) outs := by
  unfold vAppend at h
  split at h
  · rename_i t tx s x htys
    rw [arr_eq htys]
    simp only [SatL] at hs
    obtain ⟨u, vs', e1, hu, v, vs'', rfl, hv, rfl⟩ := hs
    rw [arr_eq e1]
    split at h
    · rename_i e d ht hx
      rw [cond_eq_ite] at h
      split at h
      · cases h
      · rename_i hd
        have hd : isIntD d = false := by simpa using hd
        split at h
        · rename_i i hi
          split at h
          · rename_i z hz
            rw [cond_eq_ite] at h
            split at h
            · rename_i hzs
              rw [Nat.beq_eq] at hzs
              split at h
              · simp only [Sat] at hu
                subst hu
                split at h
                · rename_i m news hsrc
                  obtain ⟨nv, q1, q2, q3, q4⟩ := srcL_sound (P := P) R hv hsrc
                  have hf := q4 w.drew rfl (m + 1) (Nat.le_refl _)
                  dsimp only at q1 q2 q3
                  rw [List.take_of_length_le (by rw [q3]; exact Nat.le_refl _)] at hf
                  split at h
                  · rename_i p hp
                    cases h
                    obtain ⟨σ', V, w', h1, h2, h3, h4⟩ := appGrowD_sound (ty := ty) R ht hx hd hi hz (base := none) (ln := 0) (cp := 0) (n := m + 1) (ov := []) q1 hf rfl (by simp) (by simp) q2 (by omega) hp
                    exact ⟨p, List.mem_singleton.2 rfl, σ', V, w', h1, h2, h3, h4⟩
                  · split at h
                    · rename_i p hp
                      cases h
                      obtain ⟨σ', V, w', h1, h2, h3, h4⟩ := appGrow_sound (ty := ty) R ht hx hd hi hz hzs (base := none) (ln := 0) (cp := 0) (n := m + 1) (ov := []) q1 hf rfl (by simp [SatL]) q2 (by omega) hp
                      exact ⟨p, List.mem_singleton.2 rfl, σ', V, w', h1, h2, h3, h4⟩
                    · cases h
                · cases h
              · rename_i b off esz len cap
                rw [cond_eq_ite] at h
                split at h
                · rename_i hesz
                  rw [Nat.beq_eq] at hesz
                  subst hesz
                  simp only [Sat] at hu
                  obtain ⟨n, sz, ln, cp, hn, hl, hcap, hlc, hsz, rfl⟩ := hu
                  have hl := R.norm hl
                  have hcap := R.norm hcap
                  split at h
                  · rename_i p hp
                    cases h
                    obtain ⟨σ', V, w', h1, h2, h3, h4⟩ := appF_sound (ty := ty) R ht hx hd hi hn hl hcap hsz hv hp
                    exact ⟨p, List.mem_singleton.2 rfl, σ', V, w', h1, h2, h3, h4⟩
                  split at h
                  · rename_i m news hsrc
                    obtain ⟨nv, q1, q2, q3, q4⟩ := srcL_sound (P := P) R hv hsrc
                    have hf : ∀ w' : World, w'.heap = w.heap → (Builtin.firstCells i.size m v).run P w' = .ok ⟨nv⟩ w' := by
                      intro w' hw
                      have := q4 w' hw m (Nat.le_refl _)
                      dsimp only at q3
                      rwa [List.take_of_length_le (by rw [q3]; exact Nat.le_refl _)] at this
                    split at h
                    · rename_i hs0
                      rw [cond_eq_ite] at h
                      split at h
                      · simp only [Num.den, hs0, Option.some.injEq] at hl
                        rw [hl] at h
                        exact appE_sound (ty := ty) R ht hx hd hi hz hzs hn hcap hsz hlc q1 hf q2 h
                      · cases h
                    · split at h
                      · rename_i p hp
                        cases h
                        obtain ⟨σ', V, w', h1, h2, h3, h4⟩ := appW_sound (ty := ty) R ht hx hd hi hn hl hcap hsz q1 (hf w rfl) q2 hp
                        exact ⟨p, List.mem_singleton.2 rfl, σ', V, w', h1, h2, h3, h4⟩
                      · exact appU_sound (ty := ty) R ht hx hd hi hz hn hl hcap hsz hlc q1 hf q2 h
                  · split at h
                    · rename_i cs lenx
                      simp only [cond_eq_ite, Bool.and_eq_true, decide_eq_true_eq] at h
                      split at h
                      · rename_i hc
                        rw [hc.1] at hl
                        rw [hc.2] at hcap
                        have hl0 : ln = 0 := by rw [den_cNum] at hl; cases hl; rfl
                        have hc0 : cp = 0 := by rw [den_cNum] at hcap; cases hcap; rfl
                        subst hl0; subst hc0
                        have hx' := hv
                        simp only [Sat] at hx'
                        obtain ⟨xb, m, xc, hxe, hm, hmc, hxb⟩ := hx'
                        have hden := R.mkEq hm (den_cNum (σ := σ) 0)
                        obtain ⟨H', hmem, hsame, R'⟩ := R.forkB hden
                        obtain ⟨q, hq, he⟩ := optAll_mem h _ hmem
                        by_cases hm0 : (m : Int) = 0
                        · simp only [hm0, decide_true] at he
                          cases he
                          have hm0 : m = 0 := by omega
                          subst hm0
                          have hd' : ∀ k, d ≠ .int k := by intro k hk; subst hk; cases hd
                          have hf : (Builtin.firstCells i.size 0 v).run P w = .ok ⟨[]⟩ w := by
                            rw [hxe]
                            cases xb with
                            | none => rfl
                            | some a => simp [Builtin.firstCells, loadCells, loadCellsFrom]
                          have hrun := append_room (P := P) (w := w) (ty := ty) (ad := ⟨n, off, none⟩) (ln := 0) (cp := 0) (n := 0) (x := v) (news := []) ht hx hd' hi (fun w => by rw [hxe]; rfl) hf (by omega) (w' := w) (by simp [storeCells])
                          refine ⟨_, hq, σ, _, w, .refl σ, R', ?_, hrun⟩
                          simp only [Sat]
                          rename_i hl1 hcap1 _ _ _ _ _
                          exact ⟨n, sz, 0, 0, hn, by assumption, by assumption, by omega, hsz, rfl⟩
                        · simp only [hm0, decide_false] at he
                          obtain ⟨σ', V, w', h1, h2, h3, h4⟩ := appS_sound (ty := ty) R' ht hx hd hi hz (base := some ⟨n, off, none⟩) hv hm (by omega) he
                          exact ⟨q, hq, σ', V, w', h1, h2, h3, h4⟩
                      · cases h
                    · cases h
                · cases h
              · cases h
            · cases h
          · cases h
        · cases h
    · cases h
  · cases h
end
end
end Go.Proofs.YtgkoghgiclkbhaaGreatDoor.Sx
namespace Go.Proofs.YtgkoghgiclkbhaaGreatDoor.Sx
open Go
noncomputable section
set_option linter.unusedVariables false
set_option linter.unusedSimpArgs false

section
variable {ro : Nat → Bool} {g : Gh} {σ : Env} {H : AH} {w : World} {P : Program}
theorem copy_run {dT sT e ty : TypeId} {esz : Nat} (hd : P.underlying dT = some (.slice e)) (hs : tSize P e = some esz) {ad : Addr} {D cp m : Nat} {x : Value} {l : List Value} {w' : World}
    (hl : (Builtin.lenOf x).run P w = .ok m w) (hf : (Builtin.firstCells esz (Nat.min m D) x).run P w = .ok ⟨l⟩ w) (hst : (storeCells ad l).run P w = .ok () w') :
    (Builtin.copy_ #[dT, sT] ty #[.slice (some ad) D cp, x]).run P w = .ok (.int .i64 ((Nat.min m D : Nat) : Int)) w' := by
  simp only [Builtin.copy_, List.getElem?_toArray, List.getElem?_cons_zero, List.getElem?_cons_succ, Sem.run_bind, run_underlying hd, Result.andThen_ok, hl, run_sizeOf' hs, hf, hst, Sem.run_pure, goInt]
def vCopy (P : Program) (ro : Nat → Bool) (H : AH) (tys : List TypeId) (args : List AV) : Option (AH × AV) :=
  match tys, args with
  | [dT, sT], [.sl b off esz dlen cap, x] => match P.underlying dT with
    | some (.slice e) => bif decide (tSize P e = some esz) then
        match H.hp.get b, (match x with | .sl b2 off2 esz2 len2 cap2 => (H.hp.get b2).map fun ab2 => (ab2, esz2, len2) | _ => none) with
        | some ab, q =>
          match (match q with
            | some (ab2, esz2, len2) => bif ab.t.isLeaf && ab2.t.isLeaf && Sh.beqL ab2.d ab.d && Nat.beq ab.d.length 1 && ab.d.all shCell && Nat.beq esz2 esz && ro b then
                match H.range (H.norm dlen) with
                | some (lo, hi) => some ((H.put b ab).fresh 0 hi, AV.int .i64 ⟨some H.nn, 0⟩)
                | none => none
              else none
            | none => none) with
          | some r => some r
          | none => match srcL H esz x, (H.norm dlen).s with
            | some (m, l), none => bif decide (0 ≤ (H.norm dlen).c) && (l.take (min m (H.norm dlen).c.toNat * esz)).all isCell then
                match storeC ro H (.ptr b off) (l.take (min m (H.norm dlen).c.toNat * esz)) with
                | some H' => some (H', .int .i64 (cNum ((min m (H.norm dlen).c.toNat : Nat) : Int)))
                | none => none
              else none
            | _, _ => none
        | none, _ => none
      else none
    | _ => none
  | _, _ => none
theorem vCopy_sound (R : Rel ro g σ H w) {tys : Array TypeId} {ty : TypeId} {args : List AV} {vs : Array Value} (hs : SatL σ args vs.toList)
    {p : AH × AV} (h : vCopy P ro H tys.toList args = some p) : ∃ σ' V w', σ.le σ' ∧ Rel ro g σ' p.1 w' ∧ Sat σ' p.2 V ∧ (Builtin.copy_ tys ty vs).run P w = .ok V w' := by
  unfold vCopy at h
  split at h
  · rename_i dT sT b off esz dlen cap x htys
    rw [arr_eq htys]
    simp only [SatL] at hs
    obtain ⟨u, vs', e1, hu, v, vs'', rfl, hv, rfl⟩ := hs
    rw [arr_eq e1]
    have hu0 := hu
    simp only [Sat] at hu
    obtain ⟨n, sz, D, cp, hn, hD, hcap, hDc, hsz, rfl⟩ := hu
    have hD := R.norm hD
    split at h
    · rename_i e hd
      simp only [cond_eq_ite, decide_eq_true_eq] at h
      split at h
      · rename_i hes
        split at h
        · rename_i q ab hab
          obtain ⟨n', sz', hn', c, hc1, hc2, hc3, hc4⟩ := R.blk _ _ hab
          rw [hn] at hn'; cases hn'
          have hmul : D * esz ≤ cp * esz := Nat.mul_le_mul_right _ hDc
          split at h
          · rename_i r hr
            cases h
            split at hr
            · rename_i ab2 esz2 len2 hx
              split at hx
              · rename_i b2 off2 esz2' len2' cap2
                simp only [Option.map_eq_some_iff] at hx
                obtain ⟨ab2', hab2, hx⟩ := hx
                simp only [Prod.mk.injEq] at hx
                obtain ⟨rfl, rfl, rfl⟩ := hx
                simp only [cond_eq_ite, Bool.and_eq_true, Nat.beq_eq, Nat.ble_eq] at hr
                split at hr
                · rename_i hc
                  obtain ⟨⟨⟨⟨⟨⟨k1, k2⟩, k3⟩, k4⟩, k5⟩, rfl⟩, k7⟩ := hc
                  split at hr
                  · rename_i lo hi hrange
                    cases hr
                    have hDr := R.range hD hrange
                    simp only [Sat] at hv
                    obtain ⟨m, msz, l, c2', hm, hl, hcap2, hlc, hsz2, rfl⟩ := hv
                    obtain ⟨m', msz', hm', c2, hd1, hd2, hd3, hd4⟩ := R.blk _ _ hab2
                    rw [hm] at hm'; cases hm'
                    have hbe := Sh.beqL_eq _ _ k3
                    have hmin : Nat.min l D ≤ l ∧ Nat.min l D ≤ D := ⟨Nat.min_le_left _ _, Nat.min_le_right _ _⟩
                    have hm1 : Nat.min l D * esz2' ≤ c2' * esz2' := Nat.mul_le_mul_right _ (by omega)
                    have hm2 : Nat.min l D * esz2' ≤ D * esz2' := Nat.mul_le_mul_right _ (by omega)
                    have hlen : ((c2.toList.drop off2).take (Nat.min l D * esz2')).length = Nat.min l D * esz2' := by simp; omega
                    have hf : (Builtin.firstCells esz2' (Nat.min l D) (.slice (some ⟨m, off2, none⟩) l c2')).run P w = .ok ⟨(c2.toList.drop off2).take (Nat.min l D * esz2')⟩ w := by
                      have hrun := run_loadCells_list (P := P) w ⟨m, off2, none⟩ ((c2.toList.drop off2).take (Nat.min l D * esz2')) (by
                        intro j v hv
                        rw [add_addr]
                        simp only [World.cell?, hd1]
                        have hj : j < Nat.min l D * esz2' := by have := (List.getElem?_eq_some_iff.1 hv).1; omega
                        rw [List.getElem?_take_of_lt hj, List.getElem?_drop] at hv
                        simpa using hv)
                      rw [hlen] at hrun
                      exact hrun
                    have hval : ∀ (q : Nat) (v : Value), ((c2.toList.drop off2).take (Nat.min l D * esz2'))[q]? = some v → SatShAt σ.imm ab.d 0 v := by
                      intro q v hv
                      have hq : q < Nat.min l D * esz2' := by have := (List.getElem?_eq_some_iff.1 hv).1; omega
                      rw [List.getElem?_take_of_lt hq, List.getElem?_drop] at hv
                      have := hd4 (off2 + q) v (by simpa using hv)
                      unfold CellOk at this
                      rw [leaf_get k2, hbe] at this
                      dsimp only at this
                      rwa [k4, Nat.mod_one] at this
                    have hcell : ∀ v, SatShAt σ.imm ab.d 0 v → v.oneCell' = true := by
                      intro v hv
                      cases hdd : ab.d with
                      | nil => rw [hdd] at k4; simp at k4
                      | cons s l =>
                        rw [hdd] at hv k5
                        simp only [SatShAt] at hv
                        simp only [List.all_cons, Bool.and_eq_true] at k5
                        exact flat_oneCell (shCell_flat k5.1 hv)
                    obtain ⟨cc, q1, q2, q3⟩ := R.layAny (P := P) k7 hab hn (vs := (c2.toList.drop off2).take (Nat.min l D * esz2')) (off := off)
                      (fun v hv => by obtain ⟨q, hq⟩ := List.mem_iff_getElem?.1 hv; exact hcell v (hval q v hq)) (by omega)
                      (fun q v hv => by
                        unfold CellOk
                        rw [leaf_get k1]
                        dsimp only
                        rw [k4, Nat.mod_one]
                        exact hval q v hv)
                    have hrun := copy_run (sT := sT) (ty := ty) (cp := cp) (D := D) hd hes (by rfl) hf q2
                    have R2 := q3.fresh (lo := 0) (hi := hi) (n := ((Nat.min l D : Nat) : Int)) (by omega) (by omega)
                    exact ⟨_, _, _, σ.le_more _, R2, sat_int (q3.fresh_den _), hrun⟩
                  · cases hr
                · cases hr
              · cases hx
            · cases hr
          · split at h
            · rename_i m l hsrc hs0
              simp only [Bool.and_eq_true, decide_eq_true_eq] at h
              split at h
              · rename_i hc
                split at h
                · rename_i H1 hst
                  cases h
                  obtain ⟨nv, q1, q2, q3, q4⟩ := srcL_sound (P := P) R hv hsrc
                  have hDc' : (H.norm dlen).c.toNat = D := by simp only [Num.den, hs0, Option.some.injEq] at hD; omega
                  rw [hDc'] at hst hc ⊢
                  have hf := q4 w rfl (Nat.min m D) (Nat.min_le_left _ _)
                  obtain ⟨ad, σ', w', e2, l1, R1, hrun⟩ := storeC_sound (P := P) (u := .pointer (some ⟨n, off, none⟩)) R (by simp only [Sat]; exact ⟨n, sz, hn, rfl⟩) (q2.take (min m D * esz)) hc.2 hst
                  cases e2
                  exact ⟨σ', _, w', l1, R1, sat_int (den_cNum _), copy_run (ty := ty) hd hes (q1 w) hf hrun⟩
                · cases h
              · cases h
            · cases h
        · cases h
      · cases h
    · cases h
  · cases h
/-- A slice of bytes as a string. -/
def vBytes (P : Program) (s d : TypeId) (x : AV) : Bool :=
  match P.underlying s, P.underlying d, x with
  | some (.slice e), some .string, .osl [.int .u8 _ _] _ => (match P.underlying e with | some (.int .u8) => true | _ => false)
  | _, _, _ => false
theorem vBytes_sound (R : Rel ro g σ H w) {s d : TypeId} {x : AV} {u : Value} (hu : Sat σ x u) (h : vBytes P s d x = true) : ∃ b, (convert s d u).run P w = .ok (.string b) w := by
  unfold vBytes at h
  split at h
  · rename_i e lo hi len hs hd
    split at h
    · rename_i he
      simp only [Sat] at hu
      obtain ⟨base, l, cap, rfl, hl, hlc, hb⟩ := hu
      have hconv : (convert s d (.slice base l cap)).run P w = (Conv.bytesToString (.slice base l cap)).run P w := by
        simp [convert, run_underlying hs, run_underlying hd, run_underlying he]
      rw [hconv]
      rcases hb with ⟨rfl, rfl⟩ | ⟨b, off, c, e', fr, rfl, him, hsz, hall⟩
      · exact ⟨.empty, by simp [Conv.bytesToString]⟩
      · have him' := R.imm _ _ him
        simp only [List.length_cons, List.length_nil, Nat.zero_add, Nat.mul_one] at hsz hall
        have hv : ∀ j, j < l → ∃ n : Int, c[off + j]? = some (.int .u8 n) := by
          intro j hj
          have hlt : off + j < c.size := by omega
          have := hall j c[off + j] hj (by simp [hlt])
          rw [Nat.mod_one] at this
          simp only [SatShAt, SatSh] at this
          obtain ⟨n, hn, _⟩ := this
          exact ⟨n, by simp [hlt, hn]⟩
        have hex : ∃ ns : List Int, ns.length = l ∧ ∀ j n, ns[j]? = some n → c[off + j]? = some (.int .u8 n) := by
          clear hconv hall him hl hlc
          have : ∀ k, k ≤ l → ∃ ns : List Int, ns.length = k ∧ ∀ j n, ns[j]? = some n → c[off + j]? = some (.int .u8 n) := by
            intro k
            induction k with
            | zero => intro _; exact ⟨[], rfl, fun j n h => by simp at h⟩
            | succ k ih =>
              intro hk
              obtain ⟨ns, h1, h2⟩ := ih (by omega)
              obtain ⟨n, hn⟩ := hv k (by omega)
              refine ⟨ns ++ [n], by simp [h1], fun j m hm => ?_⟩
              by_cases hj : j < ns.length
              · rw [List.getElem?_append_left hj] at hm; exact h2 j m hm
              · rw [List.getElem?_append_right (by omega)] at hm
                have hlt := (List.getElem?_eq_some_iff.1 hm).1
                have : j = k := by simp at hlt; omega
                subst this
                rw [h1, Nat.sub_self] at hm
                simp at hm
                subst hm
                exact hn
          exact this l (Nat.le_refl _)
        obtain ⟨ns, h1, h2⟩ := hex
        have hload := run_loadCells_list (P := P) w ⟨b, off, none⟩ (ns.map (Value.int .u8)) (by
          intro j v hv
          rw [add_addr]
          simp only [World.cell?, him']
          simp only [List.getElem?_map, Option.map_eq_some_iff] at hv
          obtain ⟨n, hn, rfl⟩ := hv
          simpa using h2 j n hn)
        rw [List.length_map, h1] at hload
        exact ⟨_, run_bytesToString w _ l cap ns hload⟩
    · cases h
  · cases h
/-- Known bytes as a string. -/
def byteK : AV → Option Nat
  | .int .u8 ⟨none, .ofNat c⟩ => bif Nat.blt c 256 then some c else none
  | _ => none
def bytesK (P : Program) (H : AH) (s d : TypeId) (x : AV) : Option (List Nat) :=
  bif H.fm then
  match P.underlying s, P.underlying d, x with
  | some (.slice e), some .string, .sl _ _ _ _ _ => (match P.underlying e with
    | some (.int .u8) => (match srcL H 1 x with
      | some (_, news) => optAll byteK news
      | none => none)
    | _ => none)
  | _, _, _ => none
  else none
theorem foldl_push (l : List Nat) : ∀ s : ByteArray, (l.foldl (fun r n => r.push (UInt8.ofNat n)) s) = ⟨s.data ++ (l.map UInt8.ofNat).toArray⟩ := by
  induction l with
  | nil => intro s; simp
  | cons a l ih =>
    intro s
    rw [List.foldl_cons, ih]
    simp [ByteArray.push]
theorem satL_bytes {σ : Env} : ∀ {l : List AV} {vs : List Value} {cs : List Nat}, SatL σ l vs → optAll byteK l = some cs → vs = cs.map fun (c : Nat) => Value.int .u8 (c : Int)
  | [], vs, cs, h, e => by simp only [SatL] at h; subst h; simp only [optAll, Option.some.injEq] at e; subst e; rfl
  | a :: l, vs, cs, h, e => by
    simp only [SatL] at h
    obtain ⟨v, vs', rfl, h1, h2⟩ := h
    simp only [optAll] at e
    split at e
    · rename_i b hb
      split at e
      · rename_i r hr
        cases e
        rw [satL_bytes h2 hr]
        unfold byteK at hb
        split at hb
        · rename_i c
          rw [cond_eq_ite] at hb
          split at hb
          · cases hb
            simp only [Sat, Num.den] at h1
            obtain ⟨n, hn, rfl⟩ := h1
            cases hn
            rfl
          · cases hb
        · cases hb
      · cases e
    · cases e
theorem bytesK_sound (R : Rel ro g σ H w) {s d : TypeId} {x : AV} {u : Value} (hu : Sat σ x u) {l : List Nat} (h : bytesK P H s d x = some l) : (convert s d u).run P w = .ok (.string (strOf l)) w := by
  unfold bytesK at h
  rw [cond_eq_ite] at h
  split at h
  · split at h
    · rename_i e b off esz len cap hs hd
      split at h
      · rename_i he
        split at h
        · rename_i m news hsrc
          obtain ⟨vs, q1, q2, q3, q4⟩ := srcL_sound (P := P) R hu hsrc
          dsimp only at q1 q2 q3 q4
          have hvs := satL_bytes q2 h
          simp only [Sat] at hu
          obtain ⟨n, sz, ln, c, h1, h2, h3, h4, h5, rfl⟩ := hu
          have hconv : (convert s d (.slice (some ⟨n, off, none⟩) ln c)).run P w = (Conv.bytesToString (.slice (some ⟨n, off, none⟩) ln c)).run P w := by
            simp [convert, run_underlying hs, run_underlying hd, run_underlying he]
          rw [hconv]
          have hlen : ln = m := by
            have := q1 w
            simp [Builtin.lenOf] at this
            exact this
          subst hlen
          have hload := q4 w rfl ln (Nat.le_refl _)
          rw [List.take_of_length_le (by rw [q3]; exact Nat.le_refl _)] at hload
          have hload : (loadCells ⟨n, off, none⟩ ln).run P w = .ok ((l.map fun (c : Nat) => (c : Int)).map (Value.int .u8)).toArray w := by
            rw [hvs] at hload
            simpa [Builtin.firstCells, Function.comp_def] using hload
          rw [run_bytesToString w _ ln c _ hload]
          congr 2
          have : (l.map fun (c : Nat) => (c : Int)).foldl (fun r n => r.push (UInt8.ofNat n.toNat)) ByteArray.empty = l.foldl (fun r n => r.push (UInt8.ofNat n)) ByteArray.empty := by
            rw [List.foldl_map]; rfl
          rw [this, foldl_push]
          simp [strOf]
        · cases h
      · cases h
    · cases h
  · cases h
/-! a range over a known string -/
def AH.iterNew (H : AH) (l : List Nat) : AH := { H with nb := H.nb + 1, fx := .iter H.nb l 0 :: H.fx }
theorem Rel.iterNew (R : Rel ro g σ H w) (l : List Nat) : Rel ro g (σ.withB w.heap.size 0) (H.iterNew l) (w.iter (strOf l) 0) ∧ (σ.withB w.heap.size 0).b[H.nb]? = some (some (w.heap.size, 0)) := by
  have hle := σ.le_withB w.heap.size 0
  have hnew : (σ.withB w.heap.size 0).b[H.nb]? = some (some (w.heap.size, 0)) := by simp [Env.withB, ← R.blen]
  have old : ∀ b q, b ≠ H.nb → (σ.withB w.heap.size 0).b[b]? = some q → σ.b[b]? = some q := by
    intro b q hb hq
    simp only [Env.withB] at hq
    by_cases hlt : b < σ.b.length
    · rwa [List.getElem?_append_left hlt] at hq
    · have : b ≠ σ.b.length := by rw [R.blen]; exact hb
      rw [List.getElem?_eq_none (by simp; omega)] at hq; cases hq
  have hh : (w.iter (strOf l) 0).heap = w.heap.push (.stringIter (strOf l) 0) := rfl
  have hkeep : ∀ m, m < w.heap.size → (w.iter (strOf l) 0).heap[m]? = w.heap[m]? := by
    intro m hm; rw [hh, Array.getElem?_push]; simp; intro h; omega
  have hsz : (w.iter (strOf l) 0).heap.size = w.heap.size + 1 := by rw [hh]; simp
  have hlt : ∀ b ab, H.hp.get b = some ab → b ≠ H.nb := by
    intro b ab hb e
    obtain ⟨n, sz, h1, _⟩ := R.blk b ab hb
    have := (List.getElem?_eq_some_iff.1 h1).1
    rw [R.blen] at this; omega
  have himm : σ.imm w.heap.size = none := by
    cases h : σ.imm w.heap.size with
    | none => rfl
    | some o => have := R.imm_lt h; omega
  refine ⟨⟨R.nlen, R.rng, ?_, by simp [Env.withB, AH.iterNew, R.blen], ?_, ?_, ?_, ?_, ?_, ?_, ?_, ?_, R.immo, ?_⟩, hnew⟩
  · intro p hp
    obtain ⟨a, b, h3, h4, h5⟩ := R.lts p hp
    exact ⟨a, b, Num.den_mono hle h3, Num.den_mono hle h4, h5⟩
  · intro b ab hb
    obtain ⟨n, sz, h1, c, h2, h3⟩ := R.blk b ab hb
    obtain ⟨c', h2', h3'⟩ := BlkOk.mono hle (⟨c, h2, h3⟩ : BlkOk σ w ab n sz)
    exact ⟨n, sz, prefix_get hle.b h1, c', by rw [hkeep n (Array.getElem?_eq_some_iff.1 h2').1]; exact h2', h3'⟩
  · intro b1 b2 a1 a2 m s s' h h' e1 e2
    exact R.inj b1 b2 a1 a2 m s s' h h' (old _ _ (hlt _ _ h) e1) (old _ _ (hlt _ _ h') e2)
  · intro m o h
    rw [hkeep m (R.imm_lt h)]; exact R.imm m o h
  · intro b ab n sz h e
    exact R.immd b ab n sz h (old _ _ (hlt _ _ h) e)
  · intro m hm hp
    rw [hkeep m (Nat.lt_of_lt_of_le hm R.size)]; exact R.frame m hm hp
  · exact ⟨by rw [hsz]; have := R.size; omega, R.sz.os, R.sz.out⟩
  · intro b n sz hb hq
    by_cases e : b = H.nb
    · subst e; rw [hnew] at hq; cases hq; exact .inl R.size
    · exact R.own b n sz hb (old _ _ e hq)
  · intro b n sz hq
    rw [hsz]
    by_cases e : b = H.nb
    · subst e; rw [hnew] at hq; cases hq; omega
    · have := R.bnd b n sz (old _ _ e hq); omega
  · intro f hf
    rcases List.mem_cons.1 hf with rfl | hf
    · exact ⟨w.heap.size, 0, hnew, by rw [hh]; simp, himm⟩
    · exact ((R.fx f hf).mono hle (.inr (.same rfl))).heap hkeep
def findIter (b : Nat) : List Fx → Option (List Nat × Nat)
  | [] => none
  | .iter b' l k :: r => bif Nat.beq b' b then some (l, k) else findIter b r
  | _ :: r => findIter b r
theorem findIter_mem {b : Nat} {l : List Nat} {k : Nat} : ∀ {r : List Fx}, findIter b r = some (l, k) → Fx.iter b l k ∈ r
  | [], h => by simp [findIter] at h
  | f :: r, h => by
    cases f <;> simp only [findIter] at h <;> first | exact List.mem_cons_of_mem _ (findIter_mem h) | skip
    simp only [cond_eq_ite, Nat.beq_eq] at h
    split at h
    · rename_i e; subst e; cases h; exact List.mem_cons_self ..
    · exact List.mem_cons_of_mem _ (findIter_mem h)
def keepIt : Fx → Bool
  | .iter _ _ _ => false
  | .rd _ _ _ => false
  | _ => true
def AH.iterAt (H : AH) (b : Nat) (l : List Nat) (k : Nat) : AH := { H with fx := .iter b l k :: H.fx.filter keepIt }
theorem Rel.iterAt (R : Rel ro g σ H w) {b : Nat} {l : List Nat} {k k' n sz : Nat} (hro : ro b = true) (hn : σ.b[b]? = some (some (n, sz))) (hw : w.heap[n]? = some (.stringIter (strOf l) k)) (him : σ.imm n = none) :
    Rel ro g σ (H.iterAt b l k') { w with heap := w.heap.setIfInBounds n (.stringIter (strOf l) k') } := by
  have hlt := (Array.getElem?_eq_some_iff.1 hw).1
  have same : ∀ m, m ≠ n → (w.heap.setIfInBounds n (.stringIter (strOf l) k'))[m]? = w.heap[m]? := by
    intro m hm; rw [Array.getElem?_setIfInBounds]; rw [if_neg (Ne.symm hm)]
  have cells : ∀ m c e fr, w.heap[m]? = some (.cells c e fr) → m ≠ n := by
    intro m c e fr h hm; subst hm; rw [hw] at h; cases h
  refine ⟨R.nlen, R.rng, R.lts, R.blen, ?_, R.inj, ?_, R.immd, ?_, ⟨by simpa using R.size, R.sz.os, R.sz.out⟩, R.own, by simpa using R.bnd, R.immo, ?_⟩
  · intro b' ab h
    obtain ⟨m, s, h1, c, h2, h3⟩ := R.blk b' ab h
    exact ⟨m, s, h1, c, by show (w.heap.setIfInBounds n _)[m]? = _; rw [same m (cells m _ _ _ h2)]; exact h2, h3⟩
  · intro m o h
    have : m ≠ n := by intro e; subst e; rw [him] at h; cases h
    show (w.heap.setIfInBounds n _)[m]? = _
    rw [same m this]; exact R.imm m o h
  · intro m hm hp
    have : m ≠ n := by
      intro e; subst e
      rcases R.own b _ sz hro hn with h | h
      · omega
      · exact hp h
    show (w.heap.setIfInBounds n _)[m]? = _
    rw [same m this]; exact R.frame m hm hp
  · intro f hf
    rcases List.mem_cons.1 hf with rfl | hf
    · exact ⟨n, sz, hn, by simp [hlt], him⟩
    · rw [List.mem_filter] at hf
      have h0 := R.fx f hf.1
      have hk := hf.2
      cases f with
      | cell b' i kk v =>
        obtain ⟨m, s, c, e, fr, mv, j, k1, k2, k3, k4, k5⟩ := h0
        exact ⟨m, s, c, e, fr, mv, j, k1, by show (w.heap.setIfInBounds n _)[m]? = _; rw [same m (cells m _ _ _ k2)]; exact k2, k3, k4, k5⟩
      | rd => simp [keepIt] at hk
      | iter => simp [keepIt] at hk
      | _ => exact h0
theorem run_next_at (w : World) (n : Nat) (s : ByteArray) (pos : Nat) (ty : TypeId) (hn : w.heap[n]? = some (.stringIter s pos)) (h : pos < s.size) (ha : (s[pos]'h).toNat < 128) :
    (Instr.next (.pointer (some ⟨n, 0, none⟩)) true ty).run P w =
      .ok (.tuple #[.bool true, .int .i64 pos, .int .i32 (s[pos]'h).toNat]) { w with heap := w.heap.setIfInBounds n (.stringIter s (pos + 1)) } := by
  have hlt := (Array.getElem?_eq_some_iff.1 hn).1
  simp only [Instr.next, getObj, setObj, Sem.run_bind, Sem.run, hn, Result.andThen, h, if_true, decode_ascii s pos h ha]
  simp [goInt, Sem.run, hn, hlt]
theorem run_next_over (w : World) (n : Nat) (s : ByteArray) (pos : Nat) (ty : TypeId) (hn : w.heap[n]? = some (.stringIter s pos)) (h : ¬ pos < s.size) :
    (Instr.next (.pointer (some ⟨n, 0, none⟩)) true ty).run P w = .ok (.tuple #[.bool false]) w := by
  simp [Instr.next, getObj, Sem.run, hn, h]
def rangeV (P : Program) (H : AH) (t : TypeId) (x : AV) : Option (AH × AV) :=
  match P.underlying t, x with
  | some .string, .str l => some (H.iterNew l, .ptr H.nb 0)
  | _, _ => none
theorem rangeV_sound (R : Rel ro g σ H w) {t : TypeId} {x : AV} {u : Value} (hu : Sat σ x u) {p : AH × AV} (h : rangeV P H t x = some p) :
    ∃ σ' w' V, σ.le σ' ∧ Rel ro g σ' p.1 w' ∧ Sat σ' p.2 V ∧ (Instr.range t u).run P w = .ok V w' := by
  unfold rangeV at h
  split at h
  · rename_i l ht
    cases h
    simp only [Sat] at hu
    subst hu
    obtain ⟨R', hn⟩ := R.iterNew l
    exact ⟨_, _, _, σ.le_withB _ _, R', by simp only [Sat]; exact ⟨_, _, hn, rfl⟩, run_range_string w t _ ht⟩
  · cases h
def nextV (ro : Nat → Bool) (H : AH) (a : AV) : Option (AH × AV) :=
  match a with
  | .ptr b 0 => (match findIter b H.fx with
    | some (l, k) => (match l[k]? with
      | some c => bif Nat.blt c 128 && ro b then some (H.iterAt b l (k + 1), .tup [.bool (.c true), .int .i64 (cNum (k : Int)), .int .i32 (cNum (c : Int))]) else none
      | none => some (H, .tup [.bool (.c false)]))
    | none => none)
  | _ => none
theorem nextV_sound (R : Rel ro g σ H w) {a : AV} {u : Value} (hu : Sat σ a u) {p : AH × AV} (h : nextV ro H a = some p) (ty : TypeId) :
    ∃ σ' w' V, σ.le σ' ∧ Rel ro g σ' p.1 w' ∧ Sat σ' p.2 V ∧ (Instr.next u true ty).run P w = .ok V w' := by
  unfold nextV at h
  split at h
  · rename_i b
    split at h
    · rename_i l k hi
      obtain ⟨n, sz, h1, h2, h3⟩ := R.fx _ (findIter_mem hi)
      simp only [Sat] at hu
      obtain ⟨n', sz', h4, rfl⟩ := hu
      rw [h1] at h4; cases h4
      split at h
      · rename_i c hc
        simp only [cond_eq_ite, Bool.and_eq_true, Nat.blt_eq] at h
        split at h
        · rename_i hcc
          cases h
          have hlt := (List.getElem?_eq_some_iff.1 hc).1
          have hsz : k < (strOf l).size := by rw [strOf_size]; exact hlt
          have hget : ((strOf l)[k]'hsz).toNat = c := by
            have : (strOf l)[k]'hsz = UInt8.ofNat c := by
              show ((l.map UInt8.ofNat).toArray)[k]'(by simpa using hlt) = _
              have := (List.getElem?_eq_some_iff.1 hc).2
              simp [this]
            rw [this]; simp [UInt8.toNat_ofNat']; omega
          have hrun := run_next_at (P := P) w n (strOf l) k ty h2 hsz (by rw [hget]; exact hcc.1)
          refine ⟨σ, _, _, .refl σ, R.iterAt (k' := k + 1) hcc.2 h1 h2 h3, ?_, hrun⟩
          rw [hget]
          simp only [Sat, SatL]
          exact ⟨[.bool true, .int .i64 (k : Int), .int .i32 (c : Int)], rfl, _, _, rfl, ⟨true, rfl, rfl⟩, _, _, rfl, ⟨_, den_cNum _, rfl⟩, _, _, rfl, ⟨_, den_cNum _, rfl⟩, rfl⟩
        · cases h
      · rename_i hc
        cases h
        rw [List.getElem?_eq_none_iff] at hc
        refine ⟨σ, w, _, .refl σ, R, ?_, run_next_over (P := P) w n (strOf l) k ty h2 (by rw [strOf_size]; omega)⟩
        simp only [Sat, SatL]
        exact ⟨[.bool false], rfl, _, _, rfl, ⟨false, rfl, rfl⟩, rfl⟩
    · cases h
  · cases h
inductive MR where
  | val (v : AV)
  | skip
def mval (l : List (AH × AV)) : List (AH × MR) := l.map fun p => (p.1, .val p.2)
/-- What an operation leaves; none: it is none of those, or the walk knows too little. -/
def memV (P : Program) (ro : Nat → Bool) (H : AH) (F : Tr AV) : Op → Option (List (AH × MR))
  | .load t x => (optAll (fun q : AH × AV => match loadX P q.1 t q.2 with
      | some l => some (mval l)
      | none => none) (forkAddr H (aeval F x))).map List.flatten
  | .store t x y => optAll (fun q : AH × AV => match storeV P ro q.1 t q.2 (aeval F y) with
      | some H' => some (H', .skip)
      | none => none) (forkAddr H (aeval F x))
  | .alloc e => match allocV P H e with
    | some p => some (mval [p])
    | none => none
  | .box e x => match boxV H e (aeval F x) with
    | some p => some (mval [p])
    | none => none
  | .buildSlice t n parts => match vBuildSlice P H t n (parts.toList.map fun p => (p.1, aeval F p.2)) with
    | some p => some (mval [p])
    | none => none
  | .makeSlice t l c => match vMakeSlice P H t (aeval F l) (aeval F c) with
    | some p => some (mval [p])
    | none => none
  | .range t x => match rangeV P H t (aeval F x) with
    | some p => some (mval [p])
    | none => none
  | .next x true => match nextV ro H (aeval F x) with
    | some p => some (mval [p])
    | none => none
  | .convert s d x => match bytesK P H s d (aeval F x) with
    | some l => some (mval [(H, .str l)])
    | none => bif vBytes P s d (aeval F x) then some (mval [(H, .any .str)]) else none
  | .call c => match c.callee with
    | .builtin .append => match vAppend P ro H c.argTypes.toList (c.args.toList.map (aeval F)) with
      | some l => some (mval l)
      | none => none
    | .builtin .copy => match vCopy P ro H c.argTypes.toList (c.args.toList.map (aeval F)) with
      | some p => some (mval [p])
      | none => none
    | _ => none
  | _ => none
def MR.ok (σ : Env) (r : MR) (res : Result Next) (w' : World) : Prop :=
  match r with
  | .val v => ∃ V, res = .ok (.value V) w' ∧ Sat σ v V
  | .skip => res = .ok .skip w'
theorem memV_sound (R : Rel ro g σ H w) {F : Tr AV} {a : Act} (hf : FrOk σ F a) {o : Oper} {outs : List (AH × MR)} (h : memV P ro H F o.op = some outs) :
    ∃ p ∈ outs, ∃ σ' w', σ.le σ' ∧ Rel ro g σ' p.1 w' ∧ p.2.ok σ' ((execOp a.eval o).run P w) w' := by
  have one : ∀ {s : Sem Value} {p : AH × AV}, (∃ σ' w' V, σ.le σ' ∧ Rel ro g σ' p.1 w' ∧ Sat σ' p.2 V ∧ s.run P w = .ok V w') → ((execOp a.eval o).run P w = (s.run P w).andThen fun v w => .ok (.value v) w) →
      ∃ q ∈ mval [p], ∃ σ' w', σ.le σ' ∧ Rel ro g σ' q.1 w' ∧ q.2.ok σ' ((execOp a.eval o).run P w) w' := by
    rintro s p ⟨σ', w', V, h1, h2, h3, h4⟩ he
    exact ⟨(p.1, .val p.2), List.mem_singleton.2 rfl, σ', w', h1, h2, V, by rw [he, h4]; rfl, h3⟩
  unfold memV at h
  split at h
  · rename_i t x ho
    simp only [Option.map_eq_some_iff] at h
    obtain ⟨ll, hll, rfl⟩ := h
    obtain ⟨q, hq, R', s'⟩ := forkAddr_sound R (sat_aeval hf x)
    obtain ⟨r, hr, he⟩ := optAll_mem hll q hq
    split at he
    · rename_i b hb
      cases he
      obtain ⟨p, hp, σ', V, l1, R1, s1, e4⟩ := loadX_sound R' s' hb
      exact ⟨_, List.mem_flatten.2 ⟨_, hr, List.mem_map.2 ⟨p, hp, rfl⟩⟩, σ', w, l1, R1, V, by simp [execOp, ho, e4], s1⟩
    · cases he
  · rename_i t x y ho
    obtain ⟨q, hq, R', s'⟩ := forkAddr_sound R (sat_aeval hf x)
    obtain ⟨r, hr, he⟩ := optAll_mem h q hq
    split at he
    · rename_i H' hst
      cases he
      obtain ⟨σ', w', l1, R1, hrun⟩ := storeV_sound (P := P) R' s' (sat_aeval hf y) hst
      exact ⟨_, hr, σ', w', l1, R1, by simp [MR.ok, execOp, ho, hrun]⟩
    · cases he
  · rename_i e ho
    split at h
    · rename_i p hp; cases h
      exact one (allocV_sound (P := P) R hp) (by simp [execOp, ho])
    · cases h
  · rename_i e x ho
    split at h
    · rename_i p hp; cases h
      exact one (boxV_sound (P := P) R (sat_aeval hf x) hp) (by simp [execOp, ho])
    · cases h
  · rename_i t n parts ho
    split at h
    · rename_i p hp; cases h
      refine one (s := Instr.buildSlice t n (parts.map fun (i, x) => (i, a.eval x))) (vBuildSlice_sound R hp (by simp) ?_) (by simp [execOp, ho])
      intro j p q hp hq
      simp only [List.getElem?_map, Option.map_eq_some_iff] at hp
      obtain ⟨z, hz, rfl⟩ := hp
      simp only [Array.toList_map, List.getElem?_map, hz, Option.map_some, Option.some.injEq] at hq
      subst hq
      exact ⟨rfl, sat_aeval hf z.2⟩
    · cases h
  · rename_i t l c ho
    split at h
    · rename_i p hp; cases h
      exact one (vMakeSlice_sound (P := P) R (sat_aeval hf l) (sat_aeval hf c) hp) (by simp [execOp, ho])
    · cases h
  · rename_i t x ho
    split at h
    · rename_i p hp; cases h
      exact one (rangeV_sound (P := P) R (sat_aeval hf x) hp) (by simp [execOp, ho])
    · cases h
  · rename_i x ho
    split at h
    · rename_i p hp; cases h
      exact one (nextV_sound (P := P) R (sat_aeval hf x) hp o.type) (by simp [execOp, ho])
    · cases h
  · rename_i s d x ho
    split at h
    · rename_i l hl; cases h
      exact one (s := convert s d (a.eval x)) ⟨σ, w, .string (strOf l), .refl σ, R, by simp only [Sat], bytesK_sound (P := P) R (sat_aeval hf x) hl⟩ (by simp [execOp, ho])
    rw [cond_eq_ite] at h
    split at h
    · rename_i hb; cases h
      obtain ⟨b, hrun⟩ := vBytes_sound (P := P) R (sat_aeval hf x) hb
      exact one (s := convert s d (a.eval x)) ⟨σ, w, .string b, .refl σ, R, by simp only [Sat, SatSh]; exact ⟨b, rfl⟩, hrun⟩ (by simp [execOp, ho])
    · cases h
  · rename_i c ho
    have hargs : SatL σ (c.args.toList.map (aeval F)) (c.args.map a.eval).toList := by rw [Array.toList_map]; exact satL_map hf _
    split at h
    · rename_i hb
      split at h
      · rename_i l hl; cases h
        obtain ⟨p, hp, σ', V, w', h1, h2, h3, h4⟩ := vAppend_sound (ty := o.type) R hargs hl
        exact ⟨(p.1, .val p.2), List.mem_map.2 ⟨p, hp, rfl⟩, σ', w', h1, h2, V, by simp [execOp, ho, resolve, hb, invoke, builtin, h4], h3⟩
      · cases h
    · rename_i hb
      split at h
      · rename_i p hp; cases h
        obtain ⟨σ', V, w', h1, h2, h3, h4⟩ := vCopy_sound (ty := o.type) R hargs hp
        exact ⟨(p.1, .val p.2), List.mem_singleton.2 rfl, σ', w', h1, h2, V, by simp [execOp, ho, resolve, hb, invoke, builtin, h4], h3⟩
      · cases h
    · cases h
  · cases h
end
end
end Go.Proofs.YtgkoghgiclkbhaaGreatDoor.Sx
namespace Go.Proofs.YtgkoghgiclkbhaaGreatDoor.Sx
open Go
noncomputable section
set_option linter.unusedVariables false
set_option linter.unusedSimpArgs false

structure St where
  F : Tr AV
  H : AH
inductive AX where
  | normal
  | exit (id : Nat)
  | ret
  | panic (v : AV)
def XOk (σ : Env) (x : AX) (e : Exit) : Prop :=
  match x with
  | .normal => e = .normal
  | .exit id => e = .exit id
  | .ret => e = .ret
  | .panic v => ∃ V, Sat σ v V ∧ e = .panic [{ v := V, recovered := false }]
abbrev Outs := List (AX × St)
/-- The frame, as it is known. -/
structure Fr (nt : Nat) (d : List Deferred) (σ : Env) (F : Tr AV) (a : Act) : Prop where
  ok : FrOk σ F a
  size : a.tmps.size = nt
  defers : a.defers = d
theorem Fr.mono {nt : Nat} {d : List Deferred} {σ τ : Env} (h : σ.le τ) {F : Tr AV} {a : Act} (hf : Fr nt d σ F a) : Fr nt d τ F a := ⟨hf.ok.mono h, hf.size, hf.defers⟩
def GoodQ (nt : Nat) (d : List Deferred) (ro : Nat → Bool) (g : Gh) (σ : Env) (outs : Outs) (Q : Exit → Act → World → Prop) : Prop :=
  ∀ p ∈ outs, ∀ σ' a' w' e, σ.le σ' → Rel ro g σ' p.2.H w' → Fr nt d σ' p.2.F a' → XOk σ' p.1 e → Q e a' w'
theorem GoodQ.mono {nt : Nat} {d : List Deferred} {ro : Nat → Bool} {g : Gh} {σ τ : Env} {outs : Outs} {Q : Exit → Act → World → Prop} (h : GoodQ nt d ro g σ outs Q) (hle : σ.le τ) : GoodQ nt d ro g τ outs Q :=
  fun p hp σ' a' w' e hl => h p hp σ' a' w' e (hle.trans hl)
theorem GoodQ.sub {nt : Nat} {d : List Deferred} {ro : Nat → Bool} {g : Gh} {σ : Env} {outs outs' : Outs} {Q : Exit → Act → World → Prop} (h : GoodQ nt d ro g σ outs Q) (hs : ∀ p ∈ outs', p ∈ outs) : GoodQ nt d ro g σ outs' Q :=
  fun p hp => h p (hs p hp)
def putF (nt : Nat) (F : Tr AV) (dst : Option Tmp) (v : AV) : Tr AV :=
  match dst with
  | none => F
  | some t => F.set t (bif Nat.blt t nt then some v else none)
theorem Fr.put {nt : Nat} {d : List Deferred} {σ : Env} {F : Tr AV} {a : Act} (h : Fr nt d σ F a) (dst : Option Tmp) {v : AV} {V : Value} (hs : Sat σ v V) : Fr nt d σ (putF nt F dst v) (a.put dst V) := by
  cases dst with
  | none => exact h
  | some t =>
    refine ⟨fun i av hi => ?_, by simpa [Act.put] using h.size, h.defers⟩
    rcases Tr.get_set_some hi with ⟨rfl, hx⟩ | ⟨hne, hx⟩
    · rw [cond_eq_ite] at hx
      split at hx
      · rename_i hlt
        rw [Nat.blt_eq] at hlt
        cases hx
        exact ⟨V, by simp [Act.put, h.size, hlt], hs⟩
      · cases hx
    · obtain ⟨v', e1, e2⟩ := h.ok i av hx
      exact ⟨v', by simp only [Act.put]; rw [Array.getElem?_setIfInBounds_ne (Ne.symm hne)]; exact e1, e2⟩
/-! what a call leaves -/
inductive CO where
  | ret (v : AV)
  | pan (v : AV)
def CO.is (σ : Env) (c : CO) (e : Ending) : Prop :=
  match c with
  | .ret v => ∃ V, Sat σ v V ∧ e = .returned V
  | .pan v => ∃ V, Sat σ v V ∧ e = .panicked [{ v := V, recovered := false }]
abbrev Call1 := (Nat → Bool) → AH → FuncId → List AV → Option (List (CO × AH))
/-- The calls that the walk knows are as it knows them. -/
def CallOk (P : Program) (call : Call1) : Prop :=
  ∀ (ro : Nat → Bool) (g : Gh) (σ : Env) (H : AH) (w : World) (f : FuncId) (args : List AV) (vs : List Value) (outs : List (CO × AH)) (R : Ending → World → Prop),
    call ro H f args = some outs → Rel ro g σ H w → SatL σ args vs →
    (∀ p ∈ outs, ∀ σ' w' e, σ.le σ' → Rel ro g σ' p.2 w' → p.1.is σ' e → R e w') → 
    ∃ s : Bool, (∀ w1 : World, (callFunc f ⟨vs⟩).run P w1 = .ok (.enter f ⟨vs⟩) w1) ∧ Calls P f ⟨vs⟩ w R
structure Cfg where
  P : Program
  call : Call1
  meth : TypeId → String → Option FuncId
structure Cfg.Ok (C : Cfg) : Prop where
  call : CallOk C.P C.call
  meth : ∀ t n f, C.meth t n = some f → ∀ v w, (method (C.P.types.size + Made.depth) t v n).run C.P w = .ok (f, v) w
/-- Which function is called, with what. -/
def calleeV (C : Cfg) (F : Tr AV) (c : Call) : Option (FuncId × List AV) :=
  match c.callee with
  | .value f => match aeval F f with
    | .fn k caps => some (k, c.args.toList.map (aeval F) ++ caps)
    | _ => none
  | .invoke recv name => match aeval F recv with
    | .ifc t v => match C.meth t name with
      | some k => some (k, v :: c.args.toList.map (aeval F))
      | none => none
    | _ => none
  | .builtin _ => none
def coOut (nt : Nat) (F : Tr AV) (dst : Option Tmp) (p : CO × AH) : Outs :=
  match p.1 with
  | .ret v => (fin p.2 v).map fun q => (.normal, ⟨putF nt F dst q.2, q.1⟩)
  | .pan v => [(.panic v, ⟨F, p.2⟩)]
/-- An operation. -/
def stepO (C : Cfg) (ro : Nat → Bool) (nt : Nat) (o : Oper) (S : St) : Option Outs :=
  match pureV C.P S.H S.F o.op with
  | some outs => some (outs.flatMap fun p => (fin p.1 p.2).map fun q => (.normal, ⟨putF nt S.F o.dst q.2, q.1⟩))
  | none => match memV C.P ro S.H S.F o.op with
    | some outs => some (outs.map fun p => (.normal, ⟨putF nt S.F o.dst (match p.2 with | .val v => v | .skip => .top), p.1⟩))
    | none => match o.op with
      | .call c => match calleeV C S.F c with
        | some (f, args) => match C.call ro S.H f args with
          | some outs => some (outs.flatMap (coOut nt S.F o.dst))
          | none => none
        | none => none
      | .panic x => match aeval S.F x with
        | .ifc ty v => some [(.panic (.ifc ty v), S)]
        | _ => none
      | _ => none
section
variable {ro : Nat → Bool} {g : Gh} {σ : Env} {w : World} {C : Cfg} {nt : Nat} {d : List Deferred}
theorem calleeV_sound (hC : C.Ok) {F : Tr AV} {a : Act} (hf : FrOk σ F a) {c : Call} {o : Oper} (ho : o.op = .call c) {f : FuncId} {args : List AV} (h : calleeV C F c = some (f, args)) :
    ∃ vs : List Value, SatL σ args vs ∧ ∀ w, (execOp a.eval o).run C.P w = (callFunc f ⟨vs⟩).run C.P w := by
  unfold calleeV at h
  split at h
  · rename_i fo hc
    split at h
    · rename_i k caps hk
      cases h
      have hs := sat_aeval hf fo
      rw [hk] at hs
      simp only [Sat] at hs
      obtain ⟨cv, hv, hcv⟩ := hs
      refine ⟨c.args.toList.map a.eval ++ cv, (satL_map hf _).append hcv, fun w => ?_⟩
      have e : (c.args.map a.eval ++ (⟨cv⟩ : Array Value)) = ⟨c.args.toList.map a.eval ++ cv⟩ := by apply Array.ext'; simp
      simp [execOp, ho, resolve, hc, hv, Deferred.ofValue, invoke, e]
    · cases h
  · rename_i recv name hc
    split at h
    · rename_i t v hk
      split at h
      · rename_i k hm
        cases h
        have hs := sat_aeval hf recv
        rw [hk] at hs
        simp only [Sat] at hs
        obtain ⟨u, hv, hu⟩ := hs
        refine ⟨u :: c.args.toList.map a.eval, by simp only [SatL]; exact ⟨u, _, rfl, hu, satL_map hf _⟩, fun w => ?_⟩
        have e : (#[u] ++ (#[Value.iface t u] ++ c.args.map a.eval).extract 1 (#[Value.iface t u] ++ c.args.map a.eval).size) = (⟨u :: c.args.toList.map a.eval⟩ : Array Value) := by
          apply Array.ext'; simp [List.extract_eq_take_drop]; exact List.take_of_length_le (by simp)
        have hmm := hC.meth t name f hm
        simp only [execOp, ho, resolve, hc, hv, Sem.run_bind, Sem.run_pure, Result.andThen_ok, invoke]
        have h0 : (#[Value.iface t u] ++ c.args.map a.eval)[0]? = some (.iface t u) := by rw [Array.getElem?_append_left (by simp)]; rfl
        rw [h0]
        simp only [callMethod, Sem.run_bind, run_program, Result.andThen_ok, hmm]
        rw [e]
      · cases h
    · cases h
  · cases h
/-- Whatever the operation comes to is among what is told. -/
theorem stepO_sound (hC : C.Ok) {o : Oper} {S : St} {a : Act} (R : Rel ro g σ S.H w) (hf : Fr nt d σ S.F a) {outs : Outs} (h : stepO C ro nt o S = some outs)
    {next : Act → World → Prop} {Q : Exit → Act → World → Prop}
    (hq : ∀ p ∈ outs, ∀ σ' a' w' e, σ.le σ' → Rel ro g σ' p.2.H w' → Fr nt d σ' p.2.F a' → XOk σ' p.1 e → Exit.then next Q e a' w') : o.wp C.P a w next Q := by
  unfold stepO at h
  split at h
  · rename_i l hp
    cases h
    obtain ⟨p, hm, σ1, V, l1, R1, s1, hrun⟩ := pureV_sound R hf.ok hp
    obtain ⟨q, hq1, σ2, l2, R2, s2⟩ := R1.fin s1
    have := hq _ (List.mem_flatMap.2 ⟨p, hm, List.mem_map.2 ⟨q, hq1, rfl⟩⟩) σ2 (a.put o.dst V) w .normal (l1.trans l2) R2 ((hf.mono (l1.trans l2)).put o.dst s2) rfl
    unfold Oper.wp
    rw [hrun w]
    exact this
  · split at h
    · rename_i l hp
      cases h
      obtain ⟨p, hm, σ1, w1, l1, R1, s1⟩ := memV_sound R hf.ok hp
      have hq := hq _ (List.mem_map.2 ⟨p, hm, rfl⟩) σ1
      unfold Oper.wp
      cases hp2 : p.2 with
      | val v =>
        rw [hp2] at s1 hq
        obtain ⟨V, e1, e2⟩ := s1
        rw [e1]
        exact hq (a.put o.dst V) w1 .normal l1 R1 ((hf.mono l1).put o.dst e2) rfl
      | skip =>
        rw [hp2] at s1 hq
        simp only [MR.ok] at s1
        rw [s1]
        exact hq (a.put o.dst undef) w1 .normal l1 R1 ((hf.mono l1).put o.dst (by simp [Sat])) rfl
    · split at h
      · rename_i c ho
        split at h
        · rename_i f args hc
          split at h
          · rename_i l hl
            cases h
            obtain ⟨vs, hs, hrun⟩ := calleeV_sound hC hf.ok ho hc
            obtain ⟨_, hcf, hcalls⟩ := hC.call ro g σ S.H w f args vs l (fun
              | .returned v, w'' => next (a.put o.dst v) w''
              | .panicked chain, w'' => Q (.panic chain) a w''
              | .outgrown, _ => LetsOut Q) hl R hs (by
                intro p hp σ' w' e l1 R1 hi
                cases hp1 : p.1 with
                | ret v =>
                  rw [hp1] at hi
                  obtain ⟨V, sV, rfl⟩ := hi
                  obtain ⟨q, hq1, σ2, l2, R2, s2⟩ := R1.fin sV
                  have := hq (.normal, ⟨putF nt S.F o.dst q.2, q.1⟩) (List.mem_flatMap.2 ⟨p, hp, by unfold coOut; rw [hp1]; exact List.mem_map.2 ⟨q, hq1, rfl⟩⟩) σ2 (a.put o.dst V) w' .normal (l1.trans l2) R2 ((hf.mono (l1.trans l2)).put o.dst s2) rfl
                  exact this
                | pan v =>
                  rw [hp1] at hi
                  obtain ⟨V, sV, rfl⟩ := hi
                  have := hq (.panic v, ⟨S.F, p.2⟩) (List.mem_flatMap.2 ⟨p, hp, by unfold coOut; rw [hp1]; exact List.mem_singleton.2 rfl⟩) σ' a w' (.panic [{ v := V, recovered := false }]) l1 R1 (hf.mono l1) ⟨V, sV, rfl⟩
                  exact this)
            unfold Oper.wp
            rw [hrun w, hcf w]
            exact hcalls
          · cases h
        · cases h
      · rename_i x ho
        split at h
        · rename_i ty v hv
          cases h
          have hs := sat_aeval hf.ok x
          rw [hv] at hs
          have hs' := hs
          simp only [Sat] at hs'
          obtain ⟨u, hu, _⟩ := hs'
          have := hq _ (List.mem_singleton.2 rfl) σ a w (.panic [{ v := .iface ty u, recovered := false }]) (.refl σ) R hf ⟨.iface ty u, by rw [← hu]; exact hs, rfl⟩
          have hrun : (execOp a.eval o).run C.P w = .halt (.panic (.iface ty u)) w := by
            unfold execOp
            simp only [ho, hu]
            rfl
          unfold Oper.wp
          rw [hrun]
          exact this
        · cases h
      · cases h
/-! its guard -/
def guardV (ops : Array Oper) (F : Tr AV) (o : Oper) : Option (Option (BE × Bool)) :=
  match o.guard with
  | none => some none
  | some (j, want) => match (ops[j]?).bind (·.dst) with
    | some t => match F.get t with
      | some (.bool e) => some (some (e, want))
      | some (.lit (.tuple _)) => some (some (.c (!want), want))
      | _ => none
    | none => none
/-- What the guard looks at is known behind. -/
def guardF (ops : Array Oper) (F : Tr AV) (o : Oper) (b : Bool) : Tr AV :=
  match o.guard with
  | none => F
  | some (j, _) => match (ops[j]?).bind (·.dst) with
    | some t => match F.get t with
      | some (.bool _) => F.set t (some (.bool (.c b)))
      | _ => F
    | none => F
/-- An operation, if its guard lets it. -/
def stepG (C : Cfg) (ro : Nat → Bool) (nt : Nat) (ops : Array Oper) (o : Oper) (S : St) : Option Outs :=
  match guardV ops S.F o with
  | some none => stepO C ro nt o S
  | some (some (e, want)) => (optAll (fun q : AH × Bool => bif q.2 == want then stepO C ro nt o ⟨guardF ops S.F o q.2, q.1⟩ else some [(AX.normal, ⟨putF nt (guardF ops S.F o q.2) o.dst (.lit undef), q.1⟩)]) (forkB S.H e)).map List.flatten
  | none => none
theorem guardV_sound {ops : Array Oper} {F : Tr AV} {a : Act} (hf : FrOk σ F a) {o : Oper} {r : Option (BE × Bool)} (h : guardV ops F o = some r) :
    (r = none ∧ Region.wanted o (yielded ops a.tmps) = true) ∨ ∃ e want b, r = some (e, want) ∧ e.den σ = some b ∧ Region.wanted o (yielded ops a.tmps) = (b == want) := by
  unfold guardV at h
  split at h
  · rename_i hg; cases h; exact .inl ⟨rfl, by simp [Region.wanted, hg]⟩
  · rename_i j want hg
    split at h
    · rename_i t ht
      split at h
      · rename_i e he
        cases h
        obtain ⟨v, hv, hs⟩ := hf t _ he
        simp only [Sat] at hs
        obtain ⟨b, hb, rfl⟩ := hs
        refine .inr ⟨e, want, b, rfl, hb, ?_⟩
        simp only [Region.wanted, hg, yielded, ht, Option.bind_some, hv]
        cases b <;> cases want <;> rfl
      · rename_i tv he
        cases h
        obtain ⟨v, hv, hs⟩ := hf t _ he
        simp only [Sat] at hs
        subst hs
        refine .inr ⟨.c (!want), want, !want, rfl, rfl, ?_⟩
        simp only [Region.wanted, hg, yielded, ht, Option.bind_some, hv]
        cases want <;> rfl
      · cases h
    · cases h
theorem guardF_ok {nt : Nat} {d : List Deferred} {ops : Array Oper} {F : Tr AV} {a : Act} (hf : Fr nt d σ F a) {o : Oper} {e : BE} {want b : Bool} (h : guardV ops F o = some (some (e, want))) (hb : e.den σ = some b) : Fr nt d σ (guardF ops F o b) a := by
  refine ⟨?_, hf.size, hf.defers⟩
  unfold guardF
  cases hg : o.guard with
  | none => exact hf.ok
  | some jw =>
    obtain ⟨j, want'⟩ := jw
    dsimp only
    cases ht : (ops[j]?).bind (·.dst) with
    | none => exact hf.ok
    | some t =>
      dsimp only
      cases he : F.get t with
      | none => exact hf.ok
      | some av =>
        cases av with
        | bool e' =>
          dsimp only
          unfold guardV at h
          simp only [hg, ht, he, Option.some.injEq, Prod.mk.injEq] at h
          obtain ⟨rfl, rfl⟩ := h
          obtain ⟨v, hv, hs⟩ := hf.ok t _ he
          simp only [Sat] at hs
          obtain ⟨b', hb', rfl⟩ := hs
          rw [hb] at hb'; cases hb'
          intro i av hi
          rcases Tr.get_set_some hi with ⟨rfl, hx⟩ | ⟨_, hx⟩
          · cases hx; exact ⟨_, hv, by simp only [Sat]; exact ⟨b, rfl, rfl⟩⟩
          · exact hf.ok i av hx
        | _ => exact hf.ok
theorem stepG_sound (hC : C.Ok) {ops : Array Oper} {o : Oper} {S : St} {a : Act} (R : Rel ro g σ S.H w) (hf : Fr nt d σ S.F a) {outs : Outs} (h : stepG C ro nt ops o S = some outs)
    {next : Act → World → Prop} {Q : Exit → Act → World → Prop}
    (hq : ∀ p ∈ outs, ∀ σ' a' w' e, σ.le σ' → Rel ro g σ' p.2.H w' → Fr nt d σ' p.2.F a' → XOk σ' p.1 e → Exit.then next Q e a' w') :
    if Region.wanted o (yielded ops a.tmps) then o.wp C.P a w next Q ∨ (o.asks C.P a w ∧ LetsOut Q) else next (a.put o.dst undef) w := by
  unfold stepG at h
  split at h
  · rename_i hg
    rcases guardV_sound hf.ok hg with ⟨_, hw⟩ | ⟨e, want, b, h0, _⟩
    · rw [if_pos hw]; exact .inl (stepO_sound hC R hf h hq)
    · cases h0
  · rename_i e want hg
    rcases guardV_sound hf.ok hg with ⟨h0, _⟩ | ⟨e', want', b, h0, hb, hw⟩
    · cases h0
    · cases h0
      simp only [Option.map_eq_some_iff] at h
      obtain ⟨ll, hll, rfl⟩ := h
      obtain ⟨H', hm, _, R'⟩ := R.forkB hb
      obtain ⟨r, hr, he⟩ := optAll_mem hll _ hm
      rw [cond_eq_ite] at he
      by_cases hbw : (b == want) = true
      · rw [if_pos hbw] at he
        rw [hw, if_pos hbw]
        exact .inl (stepO_sound (S := ⟨guardF ops S.F o b, H'⟩) hC R' (guardF_ok hf hg hb) he fun p hp => hq p (List.mem_flatten.2 ⟨r, hr, hp⟩))
      · rw [if_neg hbw] at he
        rw [hw, if_neg hbw]
        cases he
        exact hq (AX.normal, ⟨putF nt (guardF ops S.F o b) o.dst (.lit undef), H'⟩) (List.mem_flatten.2 ⟨_, hr, List.mem_singleton.2 rfl⟩) σ (a.put o.dst undef) w .normal (.refl σ) R' ((guardF_ok hf hg hb).put o.dst (by simp [Sat])) rfl
  · cases h
/-! in order -/
def bindO (k : St → Option Outs) : Outs → Option Outs
  | [] => some []
  | (x, S) :: l => match (match x with | .normal => k S | x => some [(x, S)]) with
    | some r => match bindO k l with
      | some r' => some (r ++ r')
      | none => none
    | none => none
theorem bindO_mem {k : St → Option Outs} : ∀ {l : Outs} {r : Outs}, bindO k l = some r → ∀ p ∈ l, (p.1 = .normal ∧ ∃ r0, k p.2 = some r0 ∧ ∀ q ∈ r0, q ∈ r) ∨ (p.1 ≠ .normal ∧ p ∈ r)
  | [], r, h, p, hp => by cases hp
  | (x, S) :: l, r, h, p, hp => by
    simp only [bindO] at h
    split at h
    · rename_i r0 h0
      split at h
      · rename_i r' h'
        cases h
        rcases List.mem_cons.1 hp with rfl | hp
        · cases x with
          | normal => exact .inl ⟨rfl, r0, h0, fun q hq => List.mem_append_left _ hq⟩
          | exit id => simp only [Option.some.injEq] at h0; subst h0; exact .inr ⟨by simp, by simp⟩
          | ret => simp only [Option.some.injEq] at h0; subst h0; exact .inr ⟨by simp, by simp⟩
          | panic v => simp only [Option.some.injEq] at h0; subst h0; exact .inr ⟨by simp, by simp⟩
        · rcases bindO_mem h' p hp with ⟨e, r1, h1, h2⟩ | ⟨e, h1⟩
          · exact .inl ⟨e, r1, h1, fun q hq => List.mem_append_right _ (h2 q hq)⟩
          · exact .inr ⟨e, List.mem_append_right _ h1⟩
      · cases h
    · cases h
/-- What comes behind: where the first part ends normally. -/
theorem GoodQ.bind {k : St → Option Outs} {l r : Outs} (h : bindO k l = some r) {Q : Exit → Act → World → Prop} (hq : GoodQ nt d ro g σ r Q) {next : Act → World → Prop}
    (hk : ∀ S r0, k S = some r0 → ∀ σ' a' w', σ.le σ' → Rel ro g σ' S.H w' → Fr nt d σ' S.F a' → GoodQ nt d ro g σ' r0 Q → next a' w') : GoodQ nt d ro g σ l (Exit.then next Q) := by
  intro p hp σ' a' w' e l1 R1 f1 x1
  rcases bindO_mem h p hp with ⟨hx, r0, h0, hs⟩ | ⟨hx, hm⟩
  · rw [hx] at x1
    simp only [XOk] at x1
    subst x1
    exact hk p.2 r0 h0 σ' a' w' l1 R1 f1 ((hq.sub hs).mono l1)
  · have := hq p hm σ' a' w' e l1 R1 f1 x1
    cases hp1 : p.1 with
    | normal => exact absurd hp1 hx
    | exit id => rw [hp1] at x1; simp only [XOk] at x1; subst x1; exact this
    | ret => rw [hp1] at x1; simp only [XOk] at x1; subst x1; exact this
    | panic v => rw [hp1] at x1; obtain ⟨V, _, rfl⟩ := x1; exact this
def runL (C : Cfg) (ro : Nat → Bool) (nt : Nat) (ops : Array Oper) : List Nat → St → Option Outs
  | [], S => some [(.normal, S)]
  | i :: rest, S => match ops[i]? with
    | none => runL C ro nt ops rest S
    | some o => match stepG C ro nt ops o S with
      | some outs => bindO (runL C ro nt ops rest) outs
      | none => none
theorem runL_sound (hC : C.Ok) {ops : Array Oper} {Q : Exit → Act → World → Prop} : ∀ (l : List Nat) (σ : Env) (S : St) (a : Act) (w : World) (outs : Outs),
    runL C ro nt ops l S = some outs → Rel ro g σ S.H w → Fr nt d σ S.F a → GoodQ nt d ro g σ outs Q → wpOps C.P ops Q l a w
  | [], σ, S, a, w, outs, h, R, hf, hq => by
    simp only [runL, Option.some.injEq] at h
    subst h
    exact hq _ (List.mem_singleton.2 rfl) σ a w .normal (.refl σ) R hf rfl
  | i :: rest, σ, S, a, w, outs, h, R, hf, hq => by
    simp only [runL] at h
    simp only [wpOps]
    split at h
    · rename_i ho
      simp only [ho]
      exact runL_sound hC rest σ S a w outs h R hf hq
    · rename_i o ho
      simp only [ho]
      split at h
      · rename_i l1 h1
        refine stepG_sound hC R hf h1 (GoodQ.bind h hq fun S' r0 h0 σ' a' w' l2 R2 f2 q2 => runL_sound hC rest σ' S' a' w' r0 h0 R2 f2 q2)
      · cases h
end
end
end Go.Proofs.YtgkoghgiclkbhaaGreatDoor.Sx
namespace Go.Proofs.YtgkoghgiclkbhaaGreatDoor.Sx
open Go
noncomputable section
set_option linter.unusedVariables false
set_option linter.unusedSimpArgs false

def hot (W : List Nat) (listed : Array Bool) : Bool := W.any fun k => listed.getD k false
/-- Whatever order is picked from here on; 'T' holds as long as none of W has come up. -/
def wpX (P : Program) (ops : Array Oper) (Q : Exit → Act → World → Prop) (W : List Nat) (T : World → Prop) : Nat → Array Bool → Act → World → Prop
  | 0, listed, a, w => Region.ready .any ops listed = [] ∧ Q .normal a w
  | fuel + 1, listed, a, w =>
    (Region.ready .any ops listed = [] → Q .normal a w) ∧
    ∀ i ∈ Region.ready .any ops listed, wpOp P ops Q i (fun a' w' => (hot W (listed.setIfInBounds i true) = false → T w') ∧ wpX P ops Q W T fuel (listed.setIfInBounds i true) a' w') a w
section
variable {P : Program} {ops : Array Oper} {Q : Exit → Act → World → Prop} {W : List Nat} {T : World → Prop}
theorem wpAny_of_wpX : ∀ (fuel : Nat) (listed : Array Bool) (a : Act) (w : World), wpX P ops Q W T fuel listed a w → wpAny P .any ops Q fuel listed a w
  | 0, _, _, _, h => h
  | fuel + 1, _, _, _, h => ⟨h.1, fun i hi => wpOp_mono (fun a' w' h' => wpAny_of_wpX fuel _ a' w' h'.2) (h.2 i hi)⟩
theorem hot_set (i : Nat) (listed : Array Bool) (hi : i ∉ W) : hot W (listed.setIfInBounds i true) = hot W listed := by
  unfold hot
  rw [Bool.eq_iff_iff, List.any_eq_true, List.any_eq_true]
  constructor
  · rintro ⟨k, hk, h⟩
    refine ⟨k, hk, ?_⟩
    have hne : i ≠ k := by rintro rfl; exact hi hk
    rwa [getD_set_ne false hne] at h
  · rintro ⟨k, hk, h⟩
    have hne : i ≠ k := by rintro rfl; exact hi hk
    exact ⟨k, hk, by rw [getD_set_ne false hne]; exact h⟩
/-- What yields in whatever world may be taken first. -/
theorem wpX_pure {i : Nat} {oi : Oper} {v : Value} (hi : ops[i]? = some oi) (hsel : ∀ (j : Nat) (o : Oper) cs b, ops[j]? = some o → o.op ≠ .select cs b)
    (hQ : ∀ c a w, Q (.panic c) (a.put oi.dst v) w → Q (.panic c) a w) (hiW : i ∉ W) :
    ∀ (fuel : Nat) (listed : Array Bool) (a : Act) (w : World),
      (∀ j oj, ops[j]? = some oj → j ≠ i → listed.getD j true = false → (∀ e ∈ oj.after, Region.binds .any e = true → e.on ≠ i) → oi.apart ops oj = true) →
      i ∈ Region.ready .any ops listed → Yields P ops oi v a → (hot W listed = false → T w) →
      wpX P ops Q W T fuel (listed.setIfInBounds i true) (a.put oi.dst v) w → wpX P ops Q W T (fuel + 1) listed a w := by
  intro fuel
  induction fuel with
  | zero =>
    intro listed a w _ hr hy hT H
    refine ⟨fun h => (by rw [h] at hr; cases hr), fun j hj => ?_⟩
    by_cases hji : j = i
    · subst hji; exact hy.wpOp hi ⟨fun h => hT (by rwa [hot_set _ _ hiW] at h), H⟩
    · have := ready_mono hj hji
      rw [H.1] at this
      cases this
  | succ fuel ih =>
    intro listed a w hfree hr hy hT H
    refine ⟨fun h => (by rw [h] at hr; cases hr), fun j hj => ?_⟩
    by_cases hji : j = i
    · subst hji; exact hy.wpOp hi ⟨fun h => hT (by rwa [hot_set _ _ hiW] at h), H⟩
    · have h1 := H.2 j (ready_mono hj hji)
      obtain ⟨hjun, oj, hoj, hall⟩ := mem_ready.1 hj
      have hnot : ∀ e ∈ oj.after, Region.binds .any e = true → e.on ≠ i := fun e he hb heq => by
        have h1 := hall e he hb
        have h0 := (mem_ready.1 hr).1
        rw [heq] at h1
        rcases Nat.lt_or_ge i listed.size with h' | h'
        · simp [h'] at h0 h1; rw [h0] at h1; cases h1
        · simp [Array.getElem?_eq_none h'] at h1
      have h2 := wpOp_put hoj (hfree j oj hoj hji hjun hnot) (fun cs b => hsel i oi cs b hi) (fun cs b => hsel j oj cs b hoj) hQ hy h1
      have hfree' : ∀ k ok, ops[k]? = some ok → k ≠ i → (listed.setIfInBounds j true).getD k true = false →
          (∀ e ∈ ok.after, Region.binds .any e = true → e.on ≠ i) → oi.apart ops ok = true := fun k ok hk hki hun hno => by
        refine hfree k ok hk hki ?_ hno
        by_cases hjk : j = k
        · subst hjk; exact hjun
        · rw [getD_set_ne true hjk] at hun; exact hun
      refine wpOp_mono (fun a' w' h3 => ?_) h2
      have h4 := h3.2.1
      rw [Array.setIfInBounds_comm _ _ (Ne.symm hji), hot_set _ _ hiW] at h4
      refine ⟨h4, ih (listed.setIfInBounds j true) a' w' hfree' (ready_mono hr (Ne.symm hji)) h3.1 h4 ?_⟩
      rw [Array.setIfInBounds_comm _ _ hji]
      exact h3.2.2
/-- What yields in every world that meets T may be taken first, where all of W wait for it. -/
theorem wpX_load {i : Nat} {oi : Oper} {v : Value} (hi : ops[i]? = some oi) (hsel : ∀ (j : Nat) (o : Oper) cs b, ops[j]? = some o → o.op ≠ .select cs b)
    (hQ : ∀ c a w, Q (.panic c) (a.put oi.dst v) w → Q (.panic c) a w) (hiW : i ∉ W) {bl : Nat → Bool}
    (hbl : ∀ j, bl j = true → ∃ o, ops[j]? = some o ∧ ∃ e ∈ o.after, Region.binds .any e = true ∧ (e.on = i ∨ bl e.on = true)) (hW : ∀ k ∈ W, bl k = true) :
    ∀ (fuel : Nat) (listed : Array Bool) (a : Act) (w : World),
      (∀ j oj, ops[j]? = some oj → j ≠ i → listed.getD j true = false → (∀ e ∈ oj.after, Region.binds .any e = true → e.on ≠ i) → oi.apart ops oj = true) →
      i ∈ Region.ready .any ops listed → YieldsIf P ops T oi v a → T w → (∀ j, bl j = true → listed.getD j true = false) →
      wpX P ops Q W T fuel (listed.setIfInBounds i true) (a.put oi.dst v) w → wpX P ops Q W T (fuel + 1) listed a w := by
  have cold : ∀ listed : Array Bool, (∀ j, bl j = true → listed.getD j true = false) → hot W listed = false := by
    intro listed hI
    unfold hot
    rw [List.any_eq_false]
    intro k hk h
    have := hI k (hW k hk)
    rcases Nat.lt_or_ge k listed.size with h' | h'
    · simp [h'] at this h; rw [this] at h; cases h
    · simp [Array.getElem?_eq_none h'] at h
  intro fuel
  induction fuel with
  | zero =>
    intro listed a w _ hr hy hT hI H
    refine ⟨fun h => (by rw [h] at hr; cases hr), fun j hj => ?_⟩
    by_cases hji : j = i
    · subst hji; exact hy.wpOp hi hT ⟨fun _ => hT, H⟩
    · have := ready_mono hj hji
      rw [H.1] at this
      cases this
  | succ fuel ih =>
    intro listed a w hfree hr hy hT hI H
    refine ⟨fun h => (by rw [h] at hr; cases hr), fun j hj => ?_⟩
    by_cases hji : j = i
    · subst hji; exact hy.wpOp hi hT ⟨fun _ => hT, H⟩
    · have h1 := H.2 j (ready_mono hj hji)
      obtain ⟨hjun, oj, hoj, hall⟩ := mem_ready.1 hj
      have hnot : ∀ e ∈ oj.after, Region.binds .any e = true → e.on ≠ i := fun e he hb heq => by
        have h1 := hall e he hb
        have h0 := (mem_ready.1 hr).1
        rw [heq] at h1
        rcases Nat.lt_or_ge i listed.size with h' | h'
        · simp [h'] at h0 h1; rw [h0] at h1; cases h1
        · simp [Array.getElem?_eq_none h'] at h1
      have hjbl : bl j ≠ true := by
        intro hb
        obtain ⟨o, ho, e, he, hbind, hor⟩ := hbl j hb
        rw [hoj] at ho; cases ho
        have h1 := hall e he hbind
        rcases hor with heq | hb2
        · exact hnot e he hbind heq
        · have h0 := hI _ hb2
          rcases Nat.lt_or_ge e.on listed.size with h' | h'
          · simp [h'] at h0 h1; rw [h0] at h1; cases h1
          · simp [Array.getElem?_eq_none h'] at h1
      have hI' : ∀ k, bl k = true → (listed.setIfInBounds j true).getD k true = false := by
        intro k hk
        have hjk : j ≠ k := fun e => hjbl (e ▸ hk)
        rw [getD_set_ne true hjk]; exact hI k hk
      have h2 := wpOp_putIf hoj (hfree j oj hoj hji hjun hnot) (fun cs b => hsel i oi cs b hi) (fun cs b => hsel j oj cs b hoj) hQ hy h1
      have hfree' : ∀ k ok, ops[k]? = some ok → k ≠ i → (listed.setIfInBounds j true).getD k true = false →
          (∀ e ∈ ok.after, Region.binds .any e = true → e.on ≠ i) → oi.apart ops ok = true := fun k ok hk hki hun hno => by
        refine hfree k ok hk hki ?_ hno
        by_cases hjk : j = k
        · subst hjk; exact hjun
        · rw [getD_set_ne true hjk] at hun; exact hun
      refine wpOp_mono (fun a' w' h3 => ?_) h2
      have h4 := h3.2.1
      rw [Array.setIfInBounds_comm _ _ (Ne.symm hji), hot_set _ _ hiW] at h4
      have hT' := h4 (cold _ hI')
      refine ⟨fun _ => hT', ih (listed.setIfInBounds j true) a' w' hfree' (ready_mono hr (Ne.symm hji)) h3.1 hT' hI' ?_⟩
      rw [Array.setIfInBounds_comm _ _ hji]
      exact h3.2.2
end

/-! the inner view of a world: what stood at the region's beginning is left alone, but for what is written without having been read -/
def innerRo (ro : Nat → Bool) (H1 : AH) (ws : List Nat) (b : Nat) : Bool := Nat.ble H1.nb b || (ro b && ws.contains b && (H1.hp.get b).isSome)
def innerPre (ro : Nat → Bool) (H1 : AH) (ws : List Nat) (σ1 : Env) : List Nat := ws.filterMap fun b => if ro b && (H1.hp.get b).isSome then ((σ1.b[b]?).bind id).map (·.1) else none
theorem mem_innerPre {ro : Nat → Bool} {H1 : AH} {ws : List Nat} {σ1 : Env} {n : Nat} (h : n ∈ innerPre ro H1 ws σ1) : ∃ b sz, b ∈ ws ∧ ro b = true ∧ (∃ ab, H1.hp.get b = some ab) ∧ σ1.b[b]? = some (some (n, sz)) := by
  unfold innerPre at h
  rw [List.mem_filterMap] at h
  obtain ⟨b, hb, h⟩ := h
  split at h
  · rename_i hc
    simp only [Bool.and_eq_true, Option.isSome_iff_exists] at hc
    simp only [Option.map_eq_some_iff] at h
    obtain ⟨p, hp, rfl⟩ := h
    simp only [Option.bind_eq_some_iff, id] at hp
    obtain ⟨q, hq, rfl⟩ := hp
    exact ⟨b, p.2, hb, hc.1, hc.2, hq⟩
  · cases h
section
variable {ro : Nat → Bool} {g : Gh} {σ : Env} {H : AH} {w : World}
theorem Rel.inner (R : Rel ro g σ H w) (ws : List Nat) : Rel (innerRo ro H ws) { w0 := w, pre := innerPre ro H ws σ, imm0 := σ.imm } σ H w := by
  refine ⟨R.nlen, R.rng, R.lts, R.blen, R.blk, R.inj, R.imm, R.immd, fun _ _ _ => rfl, SzOk.refl _, ?_, R.bnd, fun _ _ h _ _ => h, R.fx⟩
  intro b n sz hb hn
  have hlt : b < σ.b.length := (List.getElem?_eq_some_iff.1 hn).1
  rw [R.blen] at hlt
  unfold innerRo at hb
  simp only [Bool.or_eq_true, Nat.ble_eq, Bool.and_eq_true] at hb
  rcases hb with hb | ⟨⟨h1, h2⟩, h3⟩
  · omega
  · right
    unfold innerPre
    rw [List.mem_filterMap]
    refine ⟨b, by simpa using h2, ?_⟩
    simp [h1, h3, hn]
theorem Rel.outer {w1 : World} {τ : Env} {K : AH} {ws : List Nat} (R : Rel ro g σ H w) (hle : σ.le τ) (R' : Rel (innerRo ro H ws) { w0 := w, pre := innerPre ro H ws σ, imm0 := σ.imm } τ K w1) : Rel ro g τ K w1 := by
  have notPre : ∀ m, m < g.w0.heap.size → m ∉ g.pre → m ∉ innerPre ro H ws σ := by
    intro m hm hp hmem
    obtain ⟨b, sz, _, hro, _, hb⟩ := mem_innerPre hmem
    rcases R.own b m sz hro hb with h | h
    · omega
    · exact hp h
  refine ⟨R'.nlen, R'.rng, R'.lts, R'.blen, R'.blk, R'.inj, R'.imm, R'.immd, ?_, ?_, ?_, R'.bnd, ?_, R'.fx⟩
  · intro m hm hp
    have := R'.frame m (by have := R.size; simp only []; omega) (notPre m hm hp)
    rw [this]; exact R.frame m hm hp
  · exact R.sz.trans R'.sz
  · intro b n sz hb hn
    by_cases hlt : b < H.nb
    · obtain ⟨r, hr⟩ := hle.b
      have : σ.b[b]? = some (some (n, sz)) := by
        rw [← hr, List.getElem?_append_left (by rw [R.blen]; exact hlt)] at hn; exact hn
      exact R.own b n sz hb this
    · have hin : innerRo ro H ws b = true := by unfold innerRo; simp only [Bool.or_eq_true, Nat.ble_eq]; left; omega
      rcases R'.own b n sz hin hn with h | h
      · left; have := R.size; simp only [] at h; omega
      · obtain ⟨b', sz', _, hro, _, hb'⟩ := mem_innerPre h
        exact R.own b' n sz' hro hb'
  · intro m o h h1 h2
    exact R.immo m o (R'.immo m o h (by have := R.size; simp only []; omega) (notPre m h1 h2)) h1 h2
end
/-! the walk of it -/
def oldAddr (old : Nat → Bool) : AV → Bool
  | .ptr b _ => old b
  | .eptr b _ _ _ _ _ => old b
  | _ => false
def oldIn (H1 : AH) (ws : List Nat) (b : Nat) : Bool := (H1.hp.get b).isSome && !ws.contains b
def yldV (P : Program) (old : Nat → Bool) (cold : Bool) (H : AH) (F : Tr AV) (op : Op) : Option (List (AH × AV)) :=
  match pureV P H F op with
  | some l => some (l.flatMap fun p => fin p.1 p.2)
  | none => match op with
    | .load t x => bif cold && oldAddr old (aeval F x) then match loadV P H t (aeval F x) with
        | some b => some (fin H b)
        | none => none
      else none
    | _ => none
def stepY (P : Program) (old : Nat → Bool) (cold : Bool) (nt : Nat) (ops : Array Oper) (o : Oper) (S : St) : Option (List St) :=
  match guardV ops S.F o with
  | some none => match yldV P old cold S.H S.F o.op with
    | some l => some (l.map fun q => ⟨putF nt S.F o.dst q.2, q.1⟩)
    | none => none
  | some (some (e, want)) => (optAll (fun q : AH × Bool => bif q.2 == want then (match yldV P old cold q.1 (guardF ops S.F o q.2) o.op with
      | some l => some (l.map fun r => (⟨putF nt (guardF ops S.F o q.2) o.dst r.2, r.1⟩ : St))
      | none => none) else some [(⟨putF nt (guardF ops S.F o q.2) o.dst (.lit undef), q.1⟩ : St)]) (forkB S.H e)).map List.flatten
  | none => none
def isLoad : Op → Bool
  | .load _ _ => true
  | _ => false
def isEffect : Op → Bool
  | .store _ _ _ => true
  | .call c => match c.callee with
    | .builtin .append => true
    | .builtin .copy => true
    | .builtin _ => false
    | _ => true
  | _ => false
/-- Which operations wait for number i. -/
def blGo (i : Nat) : List Oper → List Bool → List Bool
  | [], acc => acc
  | o :: r, acc => blGo i r (acc ++ [o.after.toList.any fun e => Region.binds .any e && (Nat.beq e.on i || acc.getD e.on false)])
def blChk (ops : Array Oper) (i : Nat) (bl : List Bool) : Bool :=
  Nat.ble bl.length ops.size && (List.range ops.size).all fun j => !(bl.getD j false) || (match ops[j]? with | some o => o.after.toList.any (fun e => Region.binds .any e && (Nat.beq e.on i || bl.getD e.on false)) | none => false)
def loadsOf (ops : Array Oper) : List Nat := (List.range ops.size).filter fun i => match ops[i]? with | some o => isLoad o.op | none => false
/-- The operations that may write what stood before: they wait for all loads. -/
def hotOps (ops : Array Oper) : List Nat :=
  let bls := (loadsOf ops).map fun i => blGo i ops.toList []
  (List.range ops.size).filter fun j => (match ops[j]? with | some o => isEffect o.op | none => false) && bls.all fun bl => bl.getD j false
/-- May number i be taken first? -/
def mayTake (ops : Array Oper) (W : List Nat) (listed : Array Bool) (i : Nat) (o : Oper) : Bool :=
  Region.free .any ops listed i && !(W.contains i) &&
  (!isLoad o.op || (blChk ops i (blGo i ops.toList []) && W.all (fun k => (blGo i ops.toList []).getD k false) && (List.range ops.size).all fun j => !((blGo i ops.toList []).getD j false) || !(listed.getD j true)))
def findTake (P : Program) (old : Nat → Bool) (nt : Nat) (ops : Array Oper) (W : List Nat) (listed : Array Bool) (S : St) : List Nat → Option (Nat × List St)
  | [] => none
  | i :: r => match ops[i]? with
    | some o => bif mayTake ops W listed i o then match stepY P old (!hot W listed) nt ops o S with
        | some l => some (i, l)
        | none => findTake P old nt ops W listed S r
      else findTake P old nt ops W listed S r
    | none => findTake P old nt ops W listed S r
/-- The place that an address is reckoned from: one that the region doesn't set. -/
def rootOp (ops : Array Oper) : Nat → Operand → Option Operand
  | 0, _ => none
  | f + 1, x => match x with
    | .tmp t => match ops.toList.find? (fun o => o.dst == some t) with
      | none => some x
      | some o => match o.op with
        | .fieldAddr _ y _ => rootOp ops f y
        | .nilCheck y => rootOp ops f y
        | .move y => rootOp ops f y
        | .indexAddr _ y _ => rootOp ops f y
        | _ => none
    | _ => none
/-- The blocks that are written while others may be read. -/
def wsOf (ops : Array Oper) (W : List Nat) (F : Tr AV) : List Nat :=
  (List.range ops.size).filterMap fun k => bif W.contains k then none else match ops[k]? with
    | some o => match o.op with
      | .store _ x _ => match rootOp ops 8 x with
        | some y => match aeval F y with
          | .ptr b _ => some b
          | .eptr b _ _ _ _ _ => some b
          | _ => none
        | none => none
      | _ => none
    | none => none
def runD (C : Cfg) (ro : Nat → Bool) (H1 : AH) (ws : List Nat) (nt : Nat) (ops : Array Oper) (W : List Nat) : Nat → Array Bool → St → Option Outs
  | 0, listed, S => match Region.ready .any ops listed with
    | [] => some [(.normal, S)]
    | _ => none
  | f + 1, listed, S => match Region.ready .any ops listed with
    | [] => some [(.normal, S)]
    | rd => match findTake C.P (oldIn H1 ws) nt ops W listed S rd with
      | some (i, l) => (optAll (runD C ro H1 ws nt ops W f (listed.setIfInBounds i true)) l).map List.flatten
      | none => (optAll (fun i => match ops[i]? with
          | some o => match stepG C (bif hot W (listed.setIfInBounds i true) then ro else innerRo ro H1 ws) nt ops o S with
            | some outs => bindO (runD C ro H1 ws nt ops W f (listed.setIfInBounds i true)) outs
            | none => none
          | none => none) rd).map List.flatten
section
variable {ro : Nat → Bool} {g : Gh} {σ : Env} {w : World} {C : Cfg} {nt : Nat} {d : List Deferred} {P : Program}
/-- A panic does not look at what was put ahead of it, but for some slots. -/
def PF (ks : List Nat) (Q : Exit → Act → World → Prop) : Prop := ∀ c a dst v w, (∀ t : Nat, dst = some t → t ∉ ks) → Q (.panic c) (Act.put a dst v) w → Q (.panic c) a w
def offKs (ks : List Nat) : List Oper → Bool
  | [] => true
  | o :: r => (match o.dst with | none => true | some t => !(ks.contains t)) && offKs ks r
theorem offKs_ok {ks : List Nat} : ∀ {l : List Oper}, offKs ks l = true → ∀ o ∈ l, ∀ t : Nat, o.dst = some t → t ∉ ks
  | [], _, o, ho, t, ht => by cases ho
  | a :: r, h, o, ho, t, ht => by
    simp only [offKs, Bool.and_eq_true] at h
    rcases List.mem_cons.1 ho with rfl | ho
    · have h1 := h.1
      rw [ht] at h1
      simpa using h1
    · exact offKs_ok h.2 o ho t ht
theorem yldV_sound {H : AH} {old : Nat → Bool} {cold : Bool} (R : Rel ro g σ H w) {F : Tr AV} {a : Act} (hf : FrOk σ F a) {o : Oper} {outs : List (AH × AV)} (h : yldV P old cold H F o.op = some outs)
    {T : World → Prop} (hT : cold = true → ∀ w', T w' → ∀ b n sz, old b = true → σ.b[b]? = some (some (n, sz)) → w'.heap[n]? = w.heap[n]?) :
    ∃ p ∈ outs, ∃ σ' V, σ.le σ' ∧ Rel ro g σ' p.1 w ∧ Sat σ' p.2 V ∧ ((∀ w', (execOp a.eval o).run P w' = .ok (.value V) w') ∨ (cold = true ∧ isLoad o.op = true ∧ ∀ w', T w' → (execOp a.eval o).run P w' = .ok (.value V) w')) := by
  unfold yldV at h
  split at h
  · rename_i l hl
    cases h
    obtain ⟨p, hp, σ1, V, l1, R1, s1, hrun⟩ := pureV_sound R hf hl
    obtain ⟨q, hq, σ2, l2, R2, s2⟩ := R1.fin s1
    exact ⟨q, List.mem_flatMap.2 ⟨p, hp, hq⟩, σ2, V, l1.trans l2, R2, s2, .inl hrun⟩
  · split at h
    · rename_i t x ho
      simp only [cond_eq_ite, Bool.and_eq_true] at h
      split at h
      · rename_i hc
        split at h
        · rename_i b hb
          cases h
          obtain ⟨bl, off, V, e1, e2, e3, e4⟩ := loadV_sound R (sat_aeval hf x) hb
          obtain ⟨p, hp, σ', l1, R1, s1⟩ := R.fin e3
          refine ⟨p, hp, σ', V, l1, R1, s1, .inr ⟨hc.1, by rw [ho]; rfl, fun w' hw' => ?_⟩⟩
          have hx := sat_aeval hf x
          have hbl : w'.heap[bl]? = w.heap[bl]? := by
            have ho := hc.2
            unfold oldAddr at ho
            split at ho
            · rename_i b' off' hx'
              rw [hx'] at hx
              simp only [Sat] at hx
              obtain ⟨n, sz, hn, hv⟩ := hx
              rw [hv] at e1
              cases e1
              exact hT hc.1 w' hw' b' _ sz ho hn
            · rename_i b' off' esz i sub lim hx'
              rw [hx'] at hx
              simp only [Sat] at hx
              obtain ⟨n, sz, k, hn, _, _, hv⟩ := hx
              rw [hv] at e1
              cases e1
              exact hT hc.1 w' hw' b' _ sz ho hn
            · cases ho
          simp [execOp, ho, e4 w' hbl]
        · cases h
      · cases h
    · cases h
theorem stepY_sound {old : Nat → Bool} {cold : Bool} {ops : Array Oper} {o : Oper} {S : St} {a : Act} (R : Rel ro g σ S.H w) (hf : Fr nt d σ S.F a) {l : List St} (h : stepY P old cold nt ops o S = some l)
    {T : World → Prop} (hT : cold = true → ∀ w', T w' → ∀ b n sz, old b = true → σ.b[b]? = some (some (n, sz)) → w'.heap[n]? = w.heap[n]?) :
    ∃ S' ∈ l, ∃ σ' V, σ.le σ' ∧ Rel ro g σ' S'.H w ∧ Fr nt d σ' S'.F (a.put o.dst V) ∧ (Yields P ops o V a ∨ (cold = true ∧ isLoad o.op = true ∧ YieldsIf P ops T o V a)) := by
  unfold stepY at h
  split at h
  · rename_i hg
    rcases guardV_sound hf.ok hg with ⟨_, hw⟩ | ⟨e, want, b, h0, _⟩
    · split at h
      · rename_i r hr
        cases h
        obtain ⟨p, hp, σ', V, l1, R1, s1, hy⟩ := yldV_sound R hf.ok hr hT
        refine ⟨_, List.mem_map.2 ⟨p, hp, rfl⟩, σ', V, l1, R1, (hf.mono l1).put o.dst s1, ?_⟩
        rcases hy with hy | ⟨h1, h2, hy⟩
        · exact .inl (.inl ⟨hw, hy⟩)
        · exact .inr ⟨h1, h2, .inl ⟨hw, hy⟩⟩
      · cases h
    · cases h0
  · rename_i e want hg
    rcases guardV_sound hf.ok hg with ⟨h0, _⟩ | ⟨e', want', b, h0, hb, hw⟩
    · cases h0
    · cases h0
      simp only [Option.map_eq_some_iff] at h
      obtain ⟨ll, hll, rfl⟩ := h
      obtain ⟨H', hm, _, R'⟩ := R.forkB hb
      obtain ⟨r, hr, he⟩ := optAll_mem hll _ hm
      rw [cond_eq_ite] at he
      by_cases hbw : (b == want) = true
      · rw [if_pos hbw] at he
        split at he
        · rename_i q hq
          cases he
          have hf2 := guardF_ok hf hg hb
          obtain ⟨p, hp, σ', V, l1, R1, s1, hy⟩ := yldV_sound R' hf2.ok hq hT
          refine ⟨_, List.mem_flatten.2 ⟨_, hr, List.mem_map.2 ⟨p, hp, rfl⟩⟩, σ', V, l1, R1, (hf2.mono l1).put o.dst s1, ?_⟩
          have hw' : Region.wanted o (yielded ops a.tmps) = true := by rw [hw]; exact hbw
          rcases hy with hy | ⟨h1, h2, hy⟩
          · exact .inl (.inl ⟨hw', hy⟩)
          · exact .inr ⟨h1, h2, .inl ⟨hw', hy⟩⟩
        · cases he
      · rw [if_neg hbw] at he
        cases he
        have hw' : Region.wanted o (yielded ops a.tmps) = false := by rw [hw]; simpa using hbw
        exact ⟨_, List.mem_flatten.2 ⟨_, hr, List.mem_singleton.2 rfl⟩, σ, undef, .refl σ, R', (guardF_ok hf hg hb).put o.dst (by simp [Sat]), .inl (.inr ⟨hw', rfl⟩)⟩
  · cases h
theorem findTake_sound {old : Nat → Bool} {ops : Array Oper} {W : List Nat} {listed : Array Bool} {S : St} : ∀ {rd : List Nat} {i : Nat} {l : List St}, findTake P old nt ops W listed S rd = some (i, l) →
    i ∈ rd ∧ ∃ o, ops[i]? = some o ∧ mayTake ops W listed i o = true ∧ stepY P old (!hot W listed) nt ops o S = some l
  | [], i, l, h => by simp [findTake] at h
  | j :: r, i, l, h => by
    simp only [findTake] at h
    split at h
    · rename_i o ho
      rw [cond_eq_ite] at h
      split at h
      · rename_i hm
        split at h
        · rename_i l' hl
          cases h
          exact ⟨List.mem_cons_self .., o, ho, hm, hl⟩
        · obtain ⟨h1, h2⟩ := findTake_sound h
          exact ⟨List.mem_cons_of_mem _ h1, h2⟩
      · obtain ⟨h1, h2⟩ := findTake_sound h
        exact ⟨List.mem_cons_of_mem _ h1, h2⟩
    · obtain ⟨h1, h2⟩ := findTake_sound h
      exact ⟨List.mem_cons_of_mem _ h1, h2⟩
/-- A world in which what stood at the beginning is as it was. -/
def Kept (w1 : World) (pre : List Nat) (w : World) : Prop := ∀ n, n < w1.heap.size → n ∉ pre → w.heap[n]? = w1.heap[n]?
theorem runD_sound (hC : C.Ok) {ops : Array Oper} (hs : Region.noSelect ops = true) {Q : Exit → Act → World → Prop} {ks : List Nat} (hQ : PF ks Q) (hks : offKs ks ops.toList = true) {W : List Nat} {σ1 : Env} {H1 : AH} {w1 : World} (R1 : Rel ro g σ1 H1 w1) (ws : List Nat) :
    ∀ (f : Nat) (listed : Array Bool) (σ : Env) (S : St) (a : Act) (w : World) (outs : Outs), runD C ro H1 ws nt ops W f listed S = some outs → σ1.le σ →
      Rel ro g σ S.H w → (hot W listed = false → Rel (innerRo ro H1 ws) { w0 := w1, pre := innerPre ro H1 ws σ1, imm0 := σ1.imm } σ S.H w) → Fr nt d σ S.F a → GoodQ nt d ro g σ outs Q → wpX C.P ops Q W (Kept w1 (innerPre ro H1 ws σ1)) f listed a w := by
  intro f
  induction f with
  | zero =>
    intro listed σ S a w outs h hl R Ri hf hq
    simp only [runD] at h
    split at h
    · rename_i hr
      cases h
      exact ⟨hr, hq _ (List.mem_singleton.2 rfl) σ a w .normal (.refl σ) R hf rfl⟩
    · cases h
  | succ f ih =>
    intro listed σ S a w outs h hl R Ri hf hq
    simp only [runD] at h
    split at h
    · rename_i hr
      cases h
      have := hq _ (List.mem_singleton.2 rfl) σ a w .normal (.refl σ) R hf rfl
      exact ⟨fun _ => this, by rw [hr]; simp⟩
    · rename_i hne
      split at h
      · rename_i i l hft
        obtain ⟨hi, o, ho, hmay, hstep⟩ := findTake_sound hft
        simp only [Option.map_eq_some_iff] at h
        obtain ⟨ll, hll, rfl⟩ := h
        unfold mayTake at hmay
        simp only [Bool.and_eq_true, Bool.not_eq_true', List.contains_eq_mem, decide_eq_false_iff_not] at hmay
        obtain ⟨⟨hfree, hiW⟩, hload⟩ := hmay
        have hTw : hot W listed = false → Kept w1 (innerPre ro H1 ws σ1) w := fun hc n hn hp => (Ri hc).frame n hn hp
        have hT : ((!hot W listed) = true) → ∀ w', Kept w1 (innerPre ro H1 ws σ1) w' → ∀ b n sz, oldIn H1 ws b = true → σ.b[b]? = some (some (n, sz)) → w'.heap[n]? = w.heap[n]? := by
          intro hc w' hw' b n sz hb hn
          have hc : hot W listed = false := by simpa using hc
          unfold oldIn at hb
          simp only [Bool.and_eq_true, Option.isSome_iff_exists, Bool.not_eq_true'] at hb
          obtain ⟨⟨ab, hab⟩, hws⟩ := hb
          obtain ⟨n1, sz1, hn1, _⟩ := R1.blk b ab hab
          have := prefix_get hl.b hn1
          rw [hn] at this; cases this
          have hlt := R1.bnd b n sz hn1
          have hnp : n ∉ innerPre ro H1 ws σ1 := by
            intro hmem
            obtain ⟨b', sz', hbw, _, ⟨ab', hab'⟩, hb'⟩ := mem_innerPre hmem
            have := R1.inj b b' ab ab' n sz sz' hab hab' hn1 hb'
            subst this
            have : ws.contains b = true := by simpa using hbw
            rw [hws] at this; cases this
          rw [hw' n hlt hnp, hTw hc n hlt hnp]
        -- the state behind, by either view
        have behind : ∃ S' ∈ l, ∃ σ' V, σ.le σ' ∧ Rel ro g σ' S'.H w ∧ (hot W listed = false → Rel (innerRo ro H1 ws) { w0 := w1, pre := innerPre ro H1 ws σ1, imm0 := σ1.imm } σ' S'.H w) ∧ Fr nt d σ' S'.F (a.put o.dst V) ∧ (Yields C.P ops o V a ∨ (hot W listed = false ∧ isLoad o.op = true ∧ YieldsIf C.P ops (Kept w1 (innerPre ro H1 ws σ1)) o V a)) := by
          cases hh : hot W listed with
          | true =>
            obtain ⟨S', hS, σ', V, l1, R', f', hy⟩ := stepY_sound (P := C.P) R hf hstep hT
            refine ⟨S', hS, σ', V, l1, R', (fun hc => by cases hc), f', hy.imp id ?_⟩
            rintro ⟨hc, _⟩; rw [hh] at hc; cases hc
          | false =>
            obtain ⟨S', hS, σ', V, l1, R', f', hy⟩ := stepY_sound (P := C.P) (Ri hh) hf hstep hT
            exact ⟨S', hS, σ', V, l1, R1.outer (hl.trans l1) R', fun _ => R', f', hy.imp id fun ⟨_, h2, h3⟩ => ⟨rfl, h2, h3⟩⟩
        obtain ⟨S', hS, σ', V, l1, Ro, Rin, f', hy⟩ := behind
        obtain ⟨r, hr, he⟩ := optAll_mem hll S' hS
        have hset := hot_set (W := W) i listed hiW
        have next := ih (listed.setIfInBounds i true) σ' S' (a.put o.dst V) w r he (hl.trans l1) Ro (fun hc => Rin (by rwa [hset] at hc)) f' ((hq.sub fun p hp => List.mem_flatten.2 ⟨r, hr, hp⟩).mono l1)
        rcases hy with hy | ⟨hc, hisl, hy⟩
        · exact wpX_pure ho (Region.noSelect_spec hs) (fun c a w => hQ c a o.dst V w (offKs_ok hks o (List.mem_of_getElem? (by rw [Array.getElem?_toList]; exact ho)))) hiW f listed a w (Region.free_spec ho hfree) hi hy hTw next
        · rw [hisl] at hload
          simp only [Bool.not_true, Bool.false_or, Bool.and_eq_true] at hload
          obtain ⟨⟨hchk, hWb⟩, hinv⟩ := hload
          unfold blChk at hchk
          simp only [Bool.and_eq_true, Nat.ble_eq, List.all_eq_true, List.mem_range] at hchk hinv
          have hbl : ∀ j, (blGo i ops.toList []).getD j false = true → j < ops.size := by
            intro j hj
            rcases Nat.lt_or_ge j (blGo i ops.toList []).length with h' | h'
            · omega
            · rw [List.getD_eq_getElem?_getD, List.getElem?_eq_none h'] at hj; cases hj
          refine wpX_load (bl := fun j => (blGo i ops.toList []).getD j false) ho (Region.noSelect_spec hs) (fun c a w => hQ c a o.dst V w (offKs_ok hks o (List.mem_of_getElem? (by rw [Array.getElem?_toList]; exact ho)))) hiW ?_ ?_ f listed a w (Region.free_spec ho hfree) hi hy (hTw hc) ?_ next
          · intro j hj
            have := hchk.2 j (hbl j hj)
            simp only [hj, Bool.not_true, Bool.false_or] at this
            split at this
            · rename_i oj hoj
              refine ⟨oj, hoj, ?_⟩
              simp only [List.any_eq_true, Bool.and_eq_true, Bool.or_eq_true, Nat.beq_eq] at this
              obtain ⟨e, he, hb, hor⟩ := this
              exact ⟨e, by simpa using he, hb, hor⟩
            · cases this
          · intro k hk
            exact (List.all_eq_true.1 hWb) k hk
          · intro j hj
            have := hinv j (hbl j hj)
            simp only [hj, Bool.not_true, Bool.false_or, Bool.not_eq_true'] at this
            exact this
      · rename_i hft
        simp only [Option.map_eq_some_iff] at h
        obtain ⟨ll, hll, rfl⟩ := h
        refine ⟨fun h0 => absurd h0 hne, fun i hi => ?_⟩
        obtain ⟨r, hr, he⟩ := optAll_mem hll i hi
        split at he
        · rename_i o ho
          split at he
          · rename_i outs1 h1
            unfold wpOp
            simp only [ho]
            have hq' : GoodQ nt d ro g σ r Q := hq.sub fun p hp => List.mem_flatten.2 ⟨r, hr, hp⟩
            cases hh : hot W (listed.setIfInBounds i true) with
            | true =>
              rw [hh] at h1
              refine stepG_sound hC R hf h1 (GoodQ.bind he hq' fun S' r0 h0 σ' a' w' l2 R2 f2 q2 => ?_)
              exact ⟨(fun hc => by cases hc), ih _ σ' S' a' w' r0 h0 (hl.trans l2) R2 (fun hc => by rw [hh] at hc; cases hc) f2 q2⟩
            | false =>
              rw [hh] at h1
              have hcold : hot W listed = false := by
                rw [← Bool.not_eq_true]
                intro hc
                unfold hot at hc hh
                rw [List.any_eq_false] at hh
                obtain ⟨k, hk, hk2⟩ := List.any_eq_true.1 hc
                exact hh k hk (getD_set_true hk2)
              refine stepG_sound hC (Ri hcold) hf h1 ?_
              intro p hp σ' a' w' e l2 R2 f2 x1
              have Ro := R1.outer (hl.trans l2) R2
              rcases bindO_mem he p hp with ⟨hx, r0, h0, hsub⟩ | ⟨hx, hm⟩
              · rw [hx] at x1
                simp only [XOk] at x1
                subst x1
                exact ⟨(fun _ n hn hp => R2.frame n hn hp), ih _ σ' p.2 a' w' r0 h0 (hl.trans l2) Ro (fun _ => R2) f2 ((hq'.sub hsub).mono l2)⟩
              · have := hq' p hm σ' a' w' e l2 Ro f2 x1
                cases hp1 : p.1 with
                | normal => exact absurd hp1 hx
                | exit id => rw [hp1] at x1; simp only [XOk] at x1; subst x1; exact this
                | ret => rw [hp1] at x1; simp only [XOk] at x1; subst x1; exact this
                | panic v => rw [hp1] at x1; obtain ⟨V, _, rfl⟩ := x1; exact this
          · cases he
        · cases he
end
end
end Go.Proofs.YtgkoghgiclkbhaaGreatDoor.Sx
