/- The machine with the image that lives, new; its script read. No condition but the hypotheses that stand in each. -/
import Derived.Test.YtgkoghgiclkbhaaGreatDoorA13Vg
import Derived.Test.YtgkoghgiclkbhaaGreatDoorA03ShHn
namespace Go.Proofs.YtgkoghgiclkbhaaGreatDoor.Sx
open Go
noncomputable section
set_option maxRecDepth 100000
theorem d72_ok : DOk Tryz.prog 72 := by
  obtain ⟨fi, hfi⟩ : ∃ fi, tblP Tryz.prog 72 = some fi := Option.isSome_iff_exists.1 (by kernel_rfl)
  exact ⟨fun w p => callFunc_run (tbl_ok 72 fi hfi) _ w, fun p w => c72_idle p w, fun p n older w w1 h => c72_panic p n older w w1 h⟩
def diParse : DI := ⟨26, 72, 3, 9⟩
def XPa : Env1 := envE hookNo noF [2, 3]
def isBus (f : FuncId) : Bool := Nat.beq f 10
def upA : AV → AV
  | .ptr b o => .ptr (b + 1) o
  | .sl b o e l c => .sl (b + 1) o e l c
  | a => a
def upB (x : AB) : AB := { x with t := trMap upA x.t }
def cBeg : List Int := [1, 176, 0, 19, 0, 216, 1, 77, 65534, 256, 0, 0, 0, 0, 0, 0, 0, 0, 0]
def newJ : AH := JM8 cBeg (memB 8192)
def newH : AH := { newJ with hp := setL .leaf 0 (imgB :: ((List.range 6).filterMap fun i => (newJ.hp.get i).map upB)), nb := 8 }
def mcNewL : MC := { f := 4, H0 := makeH [imgB], args := [.sl 0 0 1 (cNum 341) (cNum 341)], H1 := newH, res := .tup [.ptr 1 0, .int .i64 (cNum 0)], wr := [] }
def XNw : Env1 := envE (hookD XPa diParse) isBus []
theorem XNw_ok : XNw.Ok := envE_ok (hookD_ok (envE_ok hookNo_ok) d72_ok)
theorem newChk : mcChk XNw mcNewL = true := by kernel_rfl
theorem newL_ok : mcNewL.Ok Tryz.prog := mc_ok XNw_ok newChk
/-- The script that lives follows. -/
def scrS : List Nat := [114, 117, 110, 32, 49, 48, 10, 116, 114, 97, 99, 101, 32, 111, 110, 10, 114, 117, 110, 32, 49, 10, 112, 101, 101, 107, 32, 99, 48, 48, 48]
def scrB : AB := ⟨setL .leaf 0 (zipE [3, 3, 3, 3, 3, 3, 3, 3] [1, 10, 6, 1, 1, 1, 8, 49152]), [], 8, 125⟩
def mcScr : MC := { f := 38, H0 := makeH [], args := [.str scrS], H1 := { rng := setL .leaf 0 [(4, big)], nn := 1, lts := [], hp := setL .leaf 0 [scrB], nb := 1, fx := [], fm := true, n0 := 1 }, res := .tup [.sl 0 0 2 (cNum 4) ⟨some 0, 0⟩, .int .i64 (cNum 0), .int .i64 (cNum 0)], wr := [] }
theorem scrChk : mcChk XE mcScr = true := by kernel_rfl
theorem scr_ok : mcScr.Ok Tryz.prog := mc_ok (envE_ok hookNo_ok) scrChk
/-- The contract by the place in the program. -/
def pcOf (H : AH) (b : Nat) : Option Int := match H.hp.get b with
  | some ab => (match ab.t.get 11 with
    | some (.int _ ⟨none, c⟩) => some c
    | _ => none)
  | none => none
def pickPC (pc : Int) : List MC → Option MC
  | [] => none
  | M :: l => (match pcOf M.H0 0 with
    | some c => bif decide (c = pc) then some M else pickPC pc l
    | none => pickPC pc l)
theorem pickPC_mem {pc : Int} {M : MC} : ∀ {l : List MC}, pickPC pc l = some M → M ∈ l
  | [], h => by simp [pickPC] at h
  | N :: l, h => by
    simp only [pickPC, cond_eq_ite] at h
    split at h
    · split at h
      · cases h; exact List.mem_cons_self ..
      · exact List.mem_cons_of_mem _ (pickPC_mem h)
    · exact List.mem_cons_of_mem _ (pickPC_mem h)
def hookPC (l : List MC) : Call1 := fun ro H f args => bif Nat.beq f 8 then (match args with
  | .ptr b 0 :: _ => (match pcOf H b with
    | some pc => (match pickPC pc l with
      | some M => hookM M ro H f args
      | none => none)
    | none => none)
  | _ => none) else none
theorem hookPC_ok {l : List MC} (h : MsOk l) : CallOk Tryz.prog (hookPC l) := by
  intro ro g σ H w f args vs outs R h0
  unfold hookPC at h0
  rw [cond_eq_ite] at h0
  split at h0
  · split at h0
    · split at h0
      · split at h0
        · rename_i M hM
          exact hookM_ok (h M (pickPC_mem hM)) ro g σ H w f _ vs outs R h0
        · cases h0
      · cases h0
    · cases h0
  · cases h0
end
end Go.Proofs.YtgkoghgiclkbhaaGreatDoor.Sx
