/- What is read twice, from the cartridge: how it is walked. No condition but the hypotheses that stand in each. -/
import Derived.Test.YtgkoghgiclkbhaaGreatDoorA04XaHw
namespace Go.Proofs.YtgkoghgiclkbhaaGreatDoor.Sx
open Go
noncomputable section
set_option maxRecDepth 100000
/-- The walk of what is read twice: nothing is joined. -/
def howS : How := { lp := [], ms := [], ds := [] }
def idM (_ : FuncId) (l : Outs) : Outs := l
theorem idM_ok (f : FuncId) (l : Outs) : ∀ p ∈ l, ∃ q ∈ idM f l, q.1 = p.1 ∧ LeS p.2 q.2 := fun p hp => ⟨p, hp, rfl, .refl _⟩
def XS (hc : Call1) : Env1 := envL [] howS hc idM idM
theorem XS_ok {hc : Call1} (h : CallOk Tryz.prog hc) : (XS hc).Ok := envL_ok (Sums.nil _) h idM_ok idM_ok
def noHook : Call1 := fun _ _ _ _ => none
theorem noHook_ok {P : Program} : CallOk P noHook := fun _ _ _ _ _ _ _ _ _ _ h => by simp [noHook] at h
def cartL : List (Nat × Nat) := [(1, 0), (1, 1), (1, 2), (1, 3), (1, 4), (1, 5), (1, 12), (1, 13), (1, 14), (1, 15), (1, 16), (1, 17), (1, 24), (1, 31)]
def JS1 : AH := (openCells JRc1 cartL).setFm true
def JS2 : AH := (openCells JRc2 cartL).setFm true
def JS3 : AH := (openCells JRd cartL).setFm true
end
end Go.Proofs.YtgkoghgiclkbhaaGreatDoor.Sx
