/- The given statement of TopTransfers, its tied card, is proved: for every input the law returns true and leaves its arguments as they were. No condition. -/
import Derived.Test.YtgkoghgiclkbhaaGreatDoorRows
import Derived.Test.YtgkoghgiclkbhaaGreatDoorTie
import Derived.Test.YtgkoghgiclkbhaaGreatDoorCards
import Derived.WalkKit
import Derived.ProofKit
import Derived.Below
import Derived.SizedLaws
import Derived.LaidLaws
import Derived.LaidHandle
import Derived.Lay
import Derived.Stop.Joined
import Derived.SevenTiedAt
import Derived.Test.YtgkoghgiclkbhaaGreatDoorA38Rv
namespace Go.Proofs.YtgkoghgiclkbhaaGreatDoor.Sx
open Go
noncomputable section
open Go.ChangeShapes Go.WideShapes Go.ChangeAt Go.RowKit
set_option linter.unusedVariables false
set_option maxRecDepth 100000
theorem own : ownKnob Tryz.prog.godebug = none := by kernel_rfl
theorem laidOut : laidOutB Tryz.prog = true := by kernel_rfl
/-- A world in which the listed variables read as they are listed: the handle laid by hand, the tables by the kit's function. -/
noncomputable def hand0 (os : Os) : World :=
  let w0 := World.holding Tryz.prog os ⟨#[], #[], []⟩
  { w0 with heap := w0.heap.modify 0 fun
      | .cells _ t frozen => .cells #[.iface 295 (.agg #[typeHandle Tryz.prog 162])] t frozen
      | o => o }
def tables : List (String × DataW Unit) := Rows.topTransfersRow.laid.filter fun x => x.2.handleName?.isNone
noncomputable def laidW (os : Os) : World := (hand0 os).layVars Tryz.prog tables
theorem laidW_met (os : Os) (args : Array Value) : laidMetH Tryz.prog Rows.topTransfersRow.laid ((laidW os).forCall (fun _ _ => 0) ⟨#[], args, []⟩).memory := by
  refine laidMetH_of_parts ?_ (by kernel_rfl)
  have e1 : (tables.filter fun x => (tables.map (·.1)).contains x.1) = tables := List.filter_eq_self.2 fun x hx => List.contains_iff_mem.2 (List.mem_map.2 ⟨x, hx, rfl⟩)
  have e2 : (tables.filter fun x => !(tables.map (·.1)).contains x.1) = [] := List.filter_eq_nil_iff.2 fun x hx => by rw [List.contains_iff_mem.2 (List.mem_map.2 ⟨x, hx, rfl⟩)]; simp
  have h : laidMet Tryz.prog tables (laidW os) := laidMet_layVars (w0 := hand0 os) (tables.map (·.1)) [] (by rw [e1]; rfl) (by rw [e1]; kernel_rfl) (by rw [e1]; kernel_rfl) (by rw [e2]; exact LaidIn.none)
  exact h.of_heap (by simp [World.memory, World.forCall, Input.heap])
end
end Go.Proofs.YtgkoghgiclkbhaaGreatDoor.Sx
