/-
  DERIVED. GIVEN WITH THE SEED: THE CARDS: each row of YtgkoghgiclkbhaaGreatDoorRows.lean that lists a variable, with what it lists TIED to the program's text (the seventh form; the later family's looks); each row that meets fmt, with fmt's text TOLD by the authors' own Lean function (tested against real Go, not proved from fmt's source: count such statements apart). THE CARD IS WHAT COUNTS. Prove the row's statement (the work); the ties are given (YtgkoghgiclkbhaaGreatDoorTie.lean); close each card by the builder's one call (the guide's Derived/Test/ToyasCard.lean, 'card_holds'). Laid BY PROGRAM, IN A SANDBOX (cutbox-door.mjs). By AI agents, Wed Nov 11 2026. No macro, syntax, notation, axiom, sorry.
-/
import Derived.Test.YtgkoghgiclkbhaaGreatDoorRows
import GoSem.ClaimSeven
namespace Go.Proofs.YtgkoghgiclkbhaaGreatDoor
namespace Rows

/-- THE TIED CARD OF 'whirligigtop.TopTransfers'. -/
def topTransfersCard : Claim7 := { stood := { row := topTransfersRow, standIns := [], harness := (true, "14253a32373910eaf04d8021de4efa61d29be782a3f3d4abb109e763abbcb8b6"), looks := true }, kinds := [], alts := [], laidByText := true, laidKinds := [.data, .data, .data, .handle], laidTests := true, laidLooks := .later }
def TopTransfersCardSaid : Prop := Claim7.holds Tryz.pinned (.plain (OpenSpec.ofChange topTransfersSpec)) topTransfersCard

/-- THE SECOND FORM's CARD OF 'whirligigtop.TopTransfers'. -/
def topTransfersUptoCard : Claim7 := { stood := { row := topTransfersUptoRow, standIns := [], harness := (true, "14253a32373910eaf04d8021de4efa61d29be782a3f3d4abb109e763abbcb8b6"), looks := true }, kinds := [], alts := [], laidByText := true, laidKinds := [.data, .data, .data, .handle], laidTests := true, laidLooks := .later }
def TopTransfersUptoCardSaid : Prop := Claim7.holds Tryz.pinned (.plain (OpenSpec.upto topTransfersSpec)) topTransfersUptoCard
end Rows
end Go.Proofs.YtgkoghgiclkbhaaGreatDoor
