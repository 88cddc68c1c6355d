/- The law whole: whatever image and whatever inputs, it returns true. No condition but the hypotheses that stand in each. -/
import Derived.Test.YtgkoghgiclkbhaaGreatDoorA06Fa
import Derived.Test.YtgkoghgiclkbhaaGreatDoorA17Vd
import Derived.Test.YtgkoghgiclkbhaaGreatDoorA18Lp
import Derived.Test.YtgkoghgiclkbhaaGreatDoorA19Lq
import Derived.Test.YtgkoghgiclkbhaaGreatDoorA24Mw
import Derived.Test.YtgkoghgiclkbhaaGreatDoorA25Mn
import Derived.Test.YtgkoghgiclkbhaaGreatDoorA26Mo
import Derived.Test.YtgkoghgiclkbhaaGreatDoorA27Mc
import Derived.Test.YtgkoghgiclkbhaaGreatDoorA29Xd
import Derived.Test.YtgkoghgiclkbhaaGreatDoorA30Ca
import Derived.Test.YtgkoghgiclkbhaaGreatDoorA31Cb
import Derived.Test.YtgkoghgiclkbhaaGreatDoorA32Cc
import Derived.Test.YtgkoghgiclkbhaaGreatDoorA33Cd
import Derived.Test.YtgkoghgiclkbhaaGreatDoorA34Ce
import Derived.Test.YtgkoghgiclkbhaaGreatDoorA35Cf
namespace Go.Proofs.YtgkoghgiclkbhaaGreatDoor.Sx
open Go
noncomputable section
set_option maxRecDepth 100000
set_option linter.unusedVariables false
def exN : List Nat := [27, 34, 35, 36, 9, 4, 10]
def LN : SumT := (6, [.slice spSh 0 9223372036854775807, .int .i64 3000 3000], .slice inSh 0 3000) :: LM.filter (inl exN)
theorem LN_ok (h : Sums Tryz.prog L117) : Sums Tryz.prog LN := by
  intro p hp
  rcases List.mem_cons.1 hp with rfl | hp
  · exact ⟨⟨inFi, inFi_ok⟩, inputs_ok⟩
  · exact ((h.filter (inl exM)).filter (inl exN)) p hp
def XP : Env1 := { envS Tryz.prog methT LN how with hc := hookNo, mrg := fun _ l => mrgIf 1 l, pr := [2, 3] }
theorem XP_ok (h : Sums Tryz.prog L117) : XP.Ok :=
  let e := envS_ok (h := how) tbl_ok meth_ok (LN_ok h) mixed_ok
  ⟨e.tbl, e.meth, e.sum, hookNo_ok, e.mixed, fun _ l => mrgIf_ok 1 l, e.mrr, e.mrl⟩
def howT : How := { lp := [], ms := [(9, 20), (4, 20)], ds := [], cn := [(9, 1), (10, 1)] }
def XT : Env1 := { envS Tryz.prog methT LN howT with hc := orHook (hookM mcLives) (hookD XP diParse), gcf := fun _ => true }
theorem XT_ok (h : Sums Tryz.prog L117) : XT.Ok :=
  let e := envS_ok (h := howT) tbl_ok meth_ok (LN_ok h) mixed_ok
  ⟨e.tbl, e.meth, e.sum, orHook_ok (hookM_ok (lives_ok h)) (hookD_ok (XP_ok h) d72_ok), e.mixed, e.mrg, e.mrr, e.mrl⟩
def lawE : Outs := [(.exit 0, ⟨.leaf, AH.empty⟩)]
def lawFi : FnI := (tblP Tryz.prog 3).getD ⟨0, [], .skip⟩
theorem lawFi_ok : tblP Tryz.prog 3 = some lawFi := by kernel_rfl
theorem law_loops : loopsOf 100 lawFi.body = [lawBody] := by kernel_rfl
theorem law_nt : lawFi.nt = 105 := by kernel_rfl
def lfL : Code → St → Option Outs := lfJ ro1 0 10 lawJs lawE
def lawSh : List Sh := [u8s, .slice spSh 0 9223372036854775807]
/-- Each way ends in true. -/
def outTrue (P : Program) (res : List ResultVar) (outs : Outs) : Bool :=
  outs.all fun p => (match p.1 with | .normal => true | .ret => true | _ => false) && (match resV P p.2.H p.2.F res with | some (.bool (.c true)) => true | _ => false)
def topChk : Bool := Nat.ble (startS lawSh).2.length lawFi.nt && (match execO XT lfL 3 ro1 lawFi.nt 100 lawFi.body ⟨argsF 0 (startS lawSh).2, (startS lawSh).1⟩ with
    | some outs => outTrue XT.P lawFi.res outs
    | none => false)
theorem topOk : topChk = true := by kernel_rfl
end
end Go.Proofs.YtgkoghgiclkbhaaGreatDoor.Sx
