/- strings.Join of known strings, by its contract off the shelf. No condition but the hypotheses that stand in each. -/
import Derived.Test.YtgkoghgiclkbhaaGreatDoorA04XaHw
import Derived.Test.YtgkoghgiclkbhaaGreatDoorA15Jo
namespace Go.Proofs.YtgkoghgiclkbhaaGreatDoor.Sx
open Go
noncomputable section
set_option linter.unusedVariables false
set_option linter.unusedSimpArgs false
def joinN (sep : List Nat) : List (List Nat) → List Nat
  | [] => []
  | [x] => x
  | x :: y :: r => x ++ (sep ++ joinN sep (y :: r))
def u8L (l : List Nat) : List UInt8 := l.map UInt8.ofNat
theorem join_eq (sep : List Nat) : ∀ xs : List (List Nat), Lib.join (xs.map u8L) (u8L sep) = u8L (joinN sep xs)
  | [] => rfl
  | [x] => by simp [joinN, Lib.join_one]
  | x :: y :: r => by
    have ih := join_eq sep (y :: r)
    rw [List.map_cons, Lib.join_cons] at ih ⊢
    simp only [joinN, u8L, List.map_append]
    have h2 : Lib.joinTail (u8L sep) (List.map u8L (y :: r)) = u8L sep ++ (u8L y ++ Lib.joinTail (u8L sep) (List.map u8L r)) := by
      simp [Lib.joinTail]
    have e : List.map u8L (y :: r) = List.map u8L (y :: r) := rfl
    change u8L x ++ Lib.joinTail (u8L sep) (List.map u8L (y :: r)) = u8L x ++ (u8L sep ++ u8L (joinN sep (y :: r)))
    rw [h2, ih]
def strK : AV → Option (List Nat)
  | .str l => some l
  | _ => none
def hookJoin : Call1 := fun ro H f args =>
  bif Nat.beq f 200 then match args with
    | [.sl b off 1 len cap, .str sep] => (match (H.norm len).s, H.hp.get b with
      | none, some ab => bif decide (0 ≤ (H.norm len).c) && Nat.ble (off + (H.norm len).c.toNat) ab.n then
          (match optAll strK (cellsFrom ab off (H.norm len).c.toNat) with
            | some xs => bif Nat.ble xs.length 1000000 && Nat.ble (joinN sep xs).length 1000000 then some [(.ret (.str (joinN sep xs)), H)] else none
            | none => none)
        else none
      | _, _ => none)
    | _ => none
  else none
theorem optAll_strs {σ : Env} : ∀ {l : List AV} {vs : List Value} {xs : List (List Nat)}, SatL σ l vs → optAll strK l = some xs → vs = xs.map fun x => Value.string (strOf x)
  | [], vs, xs, h, e => by simp only [SatL] at h; subst h; simp only [optAll, Option.some.injEq] at e; subst e; rfl
  | a :: l, vs, xs, h, e => by
    simp only [SatL] at h
    obtain ⟨v, vs', rfl, h1, h2⟩ := h
    simp only [optAll] at e
    split at e
    · rename_i b hb
      split at e
      · rename_i r hr
        cases e
        rw [optAll_strs h2 hr]
        unfold strK at hb
        split at hb
        · cases hb
          simp only [Sat] at h1
          subst h1
          rfl
        · cases hb
      · cases e
    · cases e
set_option maxRecDepth 100000 in
theorem hookJoin_ok : CallOk Tryz.prog hookJoin := by
  intro ro g σ H w f args vs outs R h Rl hs hR
  unfold hookJoin at h
  rw [cond_eq_ite] at h
  split at h
  · rename_i hf
    rw [Nat.beq_eq] at hf
    subst hf
    split at h
    · rename_i b off len cap sep
      split at h
      · rename_i ab hsym hab
        simp only [cond_eq_ite, Bool.and_eq_true, decide_eq_true_eq, Nat.ble_eq] at h
        split at h
        · rename_i hc
          obtain ⟨h0, hle⟩ := hc
          split at h
          · rename_i xs hxs
            split at h
            · rename_i hc2
              obtain ⟨hn1, hn2⟩ := hc2
              cases h
              simp only [SatL, Sat] at hs
              obtain ⟨v0, r0, rfl, ⟨n, sz, l, c, hb, hl, hcap, hlc, hsz, rfl⟩, v1, r1, rfl, rfl, rfl⟩ := hs
              have hl := Rl.norm hl
              simp only [Num.den, hsym, Option.some.injEq] at hl
              rw [hl] at hle hxs
              simp only [Int.toNat_natCast] at hle hxs
              obtain ⟨n', sz', hb', cc, hc1, hc2, hc3, hc4⟩ := Rl.blk _ _ hab
              rw [hb] at hb'; cases hb'
              have hcells := satL_cellsFrom hc4 l off (by omega)
              have hvs := optAll_strs hcells hxs
              have hlen : xs.length = l := by
                have := congrArg List.length hvs
                simp at this
                omega
              obtain ⟨fi, hfi⟩ : ∃ fi, tblP Tryz.prog 200 = some fi := Option.isSome_iff_exists.1 (by kernel_rfl)
              refine ⟨true, fun w1 => callFunc_run (tbl_ok 200 fi hfi) _ w1, ?_⟩
              have hstr : ∀ x : List Nat, (strOf x).data.toList = u8L x := fun x => rfl
              have hj : (xs.map strOf).map (·.data.toList) = xs.map u8L := by simp [Function.comp_def, hstr]
              have := Tryz.strings_Join n off c (xs.map strOf) (strOf sep) w (fun j x hx => by
                  simp only [List.getElem?_map, Option.map_eq_some_iff] at hx
                  obtain ⟨y, hy, rfl⟩ := hx
                  have hjl : j < l := by have := (List.getElem?_eq_some_iff.1 hy).1; omega
                  have hv : ((cc.toList.drop off).take l)[j]? = some (Value.string (strOf y)) := by rw [hvs]; simp [hy]
                  rw [List.getElem?_take_of_lt hjl, List.getElem?_drop] at hv
                  simp only [World.cell?, hc1]
                  simpa using hv)
                (Array.getElem?_eq_some_iff.1 hc1).1 (by simp; omega) (by simp; omega) (by rw [hj, hstr, join_eq]; simp [u8L]; omega)
              rw [List.length_map, hlen] at this
              refine this.mono ?_
              rintro e w' ⟨rfl, hB⟩
              have hg : Grown w w' := ⟨hB.size, hB.block, hB.os, hB.output⟩
              obtain ⟨R2, l2⟩ := Rl.grown hg (fun _ _ h => h) (fun m o h => by rw [hg.2.1 m (Rl.imm_lt h)]; exact Rl.imm m o h) (fun m o h _ => h)
              refine hR _ (List.mem_singleton.2 rfl) _ w' _ l2 R2 ⟨.string (strOf (joinN sep xs)), by simp only [Sat], ?_⟩
              rw [hj, hstr, join_eq]
              rfl
            · cases h
          · cases h
        · cases h
      · cases h
    · cases h
  · cases h
end
end Go.Proofs.YtgkoghgiclkbhaaGreatDoor.Sx
