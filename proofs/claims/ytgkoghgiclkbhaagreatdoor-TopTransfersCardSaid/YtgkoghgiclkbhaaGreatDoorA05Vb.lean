/- The processor at each cycle of the image that lives. No condition but the hypotheses that stand in each. -/
import Derived.Test.YtgkoghgiclkbhaaGreatDoorA04XaHw
namespace Go.Proofs.YtgkoghgiclkbhaaGreatDoor.Sx
open Go
noncomputable section
set_option maxRecDepth 100000
def howE : How := { lp := [], ms := [], ds := [] }
def envE (hc : Call1) (fmo : FuncId → Bool) (pr : List Nat) : Env1 := { envS Tryz.prog methT [] howE with hc := hc, mrg := fun _ l => mrgIf 1 l, cn := fun _ => true, gcf := fun _ => true, fmo := fmo, pr := pr }
theorem envE_ok {hc : Call1} {fmo : FuncId → Bool} {pr : List Nat} (hhc : CallOk Tryz.prog hc) : (envE hc fmo pr).Ok :=
  let e := envS_ok (h := howE) tbl_ok meth_ok (Sums.nil Tryz.prog) mixed_ok
  ⟨e.tbl, e.meth, e.sum, hhc, e.mixed, fun _ l => mrgIf_ok 1 l, e.mrr, e.mrl⟩
def hookNo : Call1 := fun _ _ _ _ => none
theorem hookNo_ok : CallOk Tryz.prog hookNo := by
  intro ro g σ H w f args vs outs R h0
  cases h0
def noF : FuncId → Bool := fun _ => false
def XE : Env1 := envE hookNo noF []
def allMC (X : Env1) : List MC → Bool
  | [] => true
  | M :: l => mcChk X M && allMC X l
theorem allMC_ok {l : List MC} (h : allMC XE l = true) : MsOk l := by
  induction l with
  | nil => exact MsOk.nil
  | cons M l ih =>
    simp only [allMC, Bool.and_eq_true] at h
    intro N hN
    rcases List.mem_cons.1 hN with rfl | hN
    · exact mc_ok (envE_ok hookNo_ok) h.1
    · exact ih h.2 N hN
theorem hookAll_ok {l : List MC} (h : MsOk l) : CallOk Tryz.prog (hookAll l) := by
  induction l with
  | nil => exact hookNo_ok
  | cons M l ih => exact orHook_ok (hookM_ok (h M (List.mem_cons_self ..))) (ih fun N hN => h N (List.mem_cons_of_mem _ hN))
theorem wants_ok : MsOk (mcWants cycles) := allMC_ok (by kernel_rfl)
end
end Go.Proofs.YtgkoghgiclkbhaaGreatDoor.Sx
