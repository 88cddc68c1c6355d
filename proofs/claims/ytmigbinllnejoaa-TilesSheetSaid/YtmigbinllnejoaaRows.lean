/-
  No cell of these rows narrows 'for every input' (looked for: loops, veiled, ifaces, maps, wideKeys, modest, calm, conditions, laid).
  DERIVED. THE GIVEN ROWS OF THIS SEAT. 7 by the template 'for every input the law returns true; each argument reads behind the call as it read before'; 0 by the template 'total and deterministic' (their statements: YtmigbinllnejoaaTotals.lean).
  GIVEN WITH THE SEED: the statements are not yours to turn. If you find one false, say at which input.
  Laid BY PROGRAM, IN A SANDBOX (cutbox-rows.mjs): the forced cells as the released guide's own fill.sh prints them over the translation 05e29b64c4f33cbc… (all of the seat's roots in one cut). By AI agents, Wed Nov 11 2026. No macro, syntax, notation, axiom, sorry.
-/
import Derived.Test.YtmigbinllnejoaaChecked
import GoSem.Claim
import GoSem.ClaimJoined
import GoSem.ClaimMapViews
import Derived.JoinedTies
import Derived.KernelRfl
namespace Go.Proofs.Ytmigbinllnejoaa
/- THE CELL 'sum', in the pinned program and in every row, IS THE sha256 OF THE DUMP (.gsa) THAT YtmigbinllnejoaaProg.lean LOADS. Nothing in Lean hashes anything: it is a label: what it is worth is what the hold of that sum in a sandbox is worth. -/
noncomputable def Try.pinned : Pinned := { name := "ytmigbinllnejoaa", sum := "05e29b64c4f33cbc0d44c4e99764246b47f538e4d7766f818951d4e4ebe8c8a3", checked := Try.checked }
namespace Rows
def none {H : Type} : Left H := { results := [], args := [] }

/-- 'whirligiglaw17.TilesPixels': WHATEVER THE INPUT: true; the input reads as it did. -/
def tilesPixelsSpec : ChangeSpec := { name := "tilesPixels", fn := fun _ => fun
  | [d1, d2, d3] => { results := [.lit (.bool true)], args := [d1, d2, d3] }
  | _ => none }
def tilesPixelsRow : OpenClaim := { program := "ytmigbinllnejoaa", sum := "05e29b64c4f33cbc0d44c4e99764246b47f538e4d7766f818951d4e4ebe8c8a3", func := "whirligig/whirligiglaw17.TilesPixels", spec := "tilesPixels", apart := false }
def TilesPixelsSaid : Prop := tilesPixelsRow.holds Try.pinned (OpenSpec.ofChange tilesPixelsSpec)

/-- ITS FALSE NEIGHBOUR: 'it returns false'. Refute it at one input. -/
def tilesPixelsWrong : ChangeSpec := { name := "tilesPixels", fn := fun _ => fun
  | [d1, d2, d3] => { results := [.lit (.bool false)], args := [d1, d2, d3] }
  | _ => none }
def TilesPixelsWrongFalsely : Prop := tilesPixelsRow.holds Try.pinned (OpenSpec.ofChange tilesPixelsWrong)

/-- 'whirligiglaw17.TilesPlaces': WHATEVER THE INPUT: true; the input reads as it did. -/
def tilesPlacesSpec : ChangeSpec := { name := "tilesPlaces", fn := fun _ => fun
  | [d1, d2, d3, d4] => { results := [.lit (.bool true)], args := [d1, d2, d3, d4] }
  | _ => none }
def tilesPlacesRow : OpenClaim := { program := "ytmigbinllnejoaa", sum := "05e29b64c4f33cbc0d44c4e99764246b47f538e4d7766f818951d4e4ebe8c8a3", func := "whirligig/whirligiglaw17.TilesPlaces", spec := "tilesPlaces", apart := false }
def TilesPlacesSaid : Prop := tilesPlacesRow.holds Try.pinned (OpenSpec.ofChange tilesPlacesSpec)

/-- ITS FALSE NEIGHBOUR: 'it returns false'. Refute it at one input. -/
def tilesPlacesWrong : ChangeSpec := { name := "tilesPlaces", fn := fun _ => fun
  | [d1, d2, d3, d4] => { results := [.lit (.bool false)], args := [d1, d2, d3, d4] }
  | _ => none }
def TilesPlacesWrongFalsely : Prop := tilesPlacesRow.holds Try.pinned (OpenSpec.ofChange tilesPlacesWrong)

/-- 'whirligiglaw17.TilesBack': WHATEVER THE INPUT: true; the input reads as it did. -/
def tilesBackSpec : ChangeSpec := { name := "tilesBack", fn := fun _ => fun
  | [d1, d2] => { results := [.lit (.bool true)], args := [d1, d2] }
  | _ => none }
def tilesBackRow : OpenClaim := { program := "ytmigbinllnejoaa", sum := "05e29b64c4f33cbc0d44c4e99764246b47f538e4d7766f818951d4e4ebe8c8a3", func := "whirligig/whirligiglaw17.TilesBack", spec := "tilesBack", apart := false }
def TilesBackSaid : Prop := tilesBackRow.holds Try.pinned (OpenSpec.ofChange tilesBackSpec)

/-- ITS FALSE NEIGHBOUR: 'it returns false'. Refute it at one input. -/
def tilesBackWrong : ChangeSpec := { name := "tilesBack", fn := fun _ => fun
  | [d1, d2] => { results := [.lit (.bool false)], args := [d1, d2] }
  | _ => none }
def TilesBackWrongFalsely : Prop := tilesBackRow.holds Try.pinned (OpenSpec.ofChange tilesBackWrong)

/-- 'whirligiglaw17.TilesApart': WHATEVER THE INPUT: true; the input reads as it did. -/
def tilesApartSpec : ChangeSpec := { name := "tilesApart", fn := fun _ => fun
  | [d1, d2, d3, d4, d5] => { results := [.lit (.bool true)], args := [d1, d2, d3, d4, d5] }
  | _ => none }
def tilesApartRow : OpenClaim := { program := "ytmigbinllnejoaa", sum := "05e29b64c4f33cbc0d44c4e99764246b47f538e4d7766f818951d4e4ebe8c8a3", func := "whirligig/whirligiglaw17.TilesApart", spec := "tilesApart", apart := false }
def TilesApartSaid : Prop := tilesApartRow.holds Try.pinned (OpenSpec.ofChange tilesApartSpec)

/-- ITS FALSE NEIGHBOUR: 'it returns false'. Refute it at one input. -/
def tilesApartWrong : ChangeSpec := { name := "tilesApart", fn := fun _ => fun
  | [d1, d2, d3, d4, d5] => { results := [.lit (.bool false)], args := [d1, d2, d3, d4, d5] }
  | _ => none }
def TilesApartWrongFalsely : Prop := tilesApartRow.holds Try.pinned (OpenSpec.ofChange tilesApartWrong)

/-- 'whirligiglaw17.TilesPalettes': WHATEVER THE INPUT: true; the input reads as it did. -/
def tilesPalettesSpec : ChangeSpec := { name := "tilesPalettes", fn := fun _ => fun
  | [d] => { results := [.lit (.bool true)], args := [d] }
  | _ => none }
def tilesPalettesRow : OpenClaim := { program := "ytmigbinllnejoaa", sum := "05e29b64c4f33cbc0d44c4e99764246b47f538e4d7766f818951d4e4ebe8c8a3", func := "whirligig/whirligiglaw17.TilesPalettes", spec := "tilesPalettes", apart := false }
def TilesPalettesSaid : Prop := tilesPalettesRow.holds Try.pinned (OpenSpec.ofChange tilesPalettesSpec)

/-- ITS FALSE NEIGHBOUR: 'it returns false'. Refute it at one input. -/
def tilesPalettesWrong : ChangeSpec := { name := "tilesPalettes", fn := fun _ => fun
  | [d] => { results := [.lit (.bool false)], args := [d] }
  | _ => none }
def TilesPalettesWrongFalsely : Prop := tilesPalettesRow.holds Try.pinned (OpenSpec.ofChange tilesPalettesWrong)

/-- 'whirligiglaw17.TilesShades': WHATEVER THE INPUT: true; the input reads as it did. -/
def tilesShadesSpec : ChangeSpec := { name := "tilesShades", fn := fun _ => fun
  | [d1, d2, d3, d4] => { results := [.lit (.bool true)], args := [d1, d2, d3, d4] }
  | _ => none }
def tilesShadesRow : OpenClaim := { program := "ytmigbinllnejoaa", sum := "05e29b64c4f33cbc0d44c4e99764246b47f538e4d7766f818951d4e4ebe8c8a3", func := "whirligig/whirligiglaw17.TilesShades", spec := "tilesShades", apart := false }
def TilesShadesSaid : Prop := tilesShadesRow.holds Try.pinned (OpenSpec.ofChange tilesShadesSpec)

/-- ITS FALSE NEIGHBOUR: 'it returns false'. Refute it at one input. -/
def tilesShadesWrong : ChangeSpec := { name := "tilesShades", fn := fun _ => fun
  | [d1, d2, d3, d4] => { results := [.lit (.bool false)], args := [d1, d2, d3, d4] }
  | _ => none }
def TilesShadesWrongFalsely : Prop := tilesShadesRow.holds Try.pinned (OpenSpec.ofChange tilesShadesWrong)

/-- 'whirligiglaw17.TilesSheet': WHATEVER THE INPUT: true; the input reads as it did. -/
def tilesSheetSpec : ChangeSpec := { name := "tilesSheet", fn := fun _ => fun
  | [d1, d2] => { results := [.lit (.bool true)], args := [d1, d2] }
  | _ => none }
def tilesSheetRow : OpenClaim := { program := "ytmigbinllnejoaa", sum := "05e29b64c4f33cbc0d44c4e99764246b47f538e4d7766f818951d4e4ebe8c8a3", func := "whirligig/whirligiglaw17.TilesSheet", spec := "tilesSheet", inPlace := ["sync/atomic.LoadInt64", "sync/atomic.AddInt64", "sync/atomic.LoadUint32", "(*internal/sync.Mutex).Lock", "internal/race.Disable", "sync/atomic.CompareAndSwapInt32", "internal/race.Enable", "internal/race.Acquire", "(*internal/sync.Mutex).lockSlow", "internal/sync.runtime_canSpin", "internal/sync.runtime_doSpin", "internal/sync.throw", "internal/sync.runtime_nanotime", "internal/sync.runtime_SemacquireMutex", "sync/atomic.AddInt32", "(*internal/sync.Mutex).Unlock", "internal/race.ReleaseMerge", "(*internal/sync.Mutex).unlockSlow", "internal/sync.fatal", "internal/sync.runtime_Semrelease", "sync/atomic.StoreUint32"], unfollowed := true, recurses := true, apart := false }
def TilesSheetSaid : Prop := tilesSheetRow.holds Try.pinned (OpenSpec.ofChange tilesSheetSpec)

/-- ITS FALSE NEIGHBOUR: 'it returns false'. Refute it at one input. -/
def tilesSheetWrong : ChangeSpec := { name := "tilesSheet", fn := fun _ => fun
  | [d1, d2] => { results := [.lit (.bool false)], args := [d1, d2] }
  | _ => none }
def TilesSheetWrongFalsely : Prop := tilesSheetRow.holds Try.pinned (OpenSpec.ofChange tilesSheetWrong)

/- THE SECOND FORM. 'bulk': how many values and letters a reading holds, each counted each time it is reached (what is shared counts as often as it is met; a slice's spare places count too). A statement '..UptoSaid' is the law's where the arguments, and the package variables that the reading takes, are together of bulk at most 1048576: NARROWER than '..Said'. Prove '..Said' where nothing that the law and all that it calls make is longer than what came in: it says more and counts as full. Else prove '..UptoSaid'. A law counts once. -/
mutual
def uptoBulk {H : Type} : DataW H → Nat
  | .lit (.string bytes) => bytes.length + 1
  | .lit _ => 1
  | .nil => 1
  | .ptr d => uptoBulk d + 1
  | .slice elems spare => uptoBulkAll elems + uptoBulkAll spare + 1
  | .agg parts => uptoBulkAll parts + 1
  | .iface _ d => uptoBulk d + 1
  | .map entries => uptoBulkEntries entries + 1
  | .held _ => 1
def uptoBulkAll {H : Type} : List (DataW H) → Nat
  | [] => 0
  | d :: r => uptoBulk d + uptoBulkAll r
def uptoBulkEntries {H : Type} : List (Lit × DataW H) → Nat
  | [] => 0
  | x :: r => uptoBulkEntry x + uptoBulkEntries r
def uptoBulkEntry {H : Type} : Lit × DataW H → Nat
  | (.string bytes, d) => bytes.length + uptoBulk d + 1
  | (_, d) => uptoBulk d + 1
 end
def uptoSmall : (H : Type) → List (DataW H) → Bool := fun _ ds => decide (uptoBulkAll ds ≤ 1048576)
def OpenSpec.upto (s : _root_.Go.ChangeSpec) : _root_.Go.OpenSpec := { _root_.Go.OpenSpec.ofChange s with cond := some uptoSmall }

/-- 'whirligiglaw17.TilesPixels', WHERE WHAT IT READS IS OF BULK AT MOST 1048576: true; the input reads as it did. -/
def tilesPixelsUptoRow : OpenClaim := { program := "ytmigbinllnejoaa", sum := "05e29b64c4f33cbc0d44c4e99764246b47f538e4d7766f818951d4e4ebe8c8a3", func := "whirligig/whirligiglaw17.TilesPixels", spec := "tilesPixels", apart := false, narrowed := true }
def TilesPixelsUptoSaid : Prop := tilesPixelsUptoRow.holds Try.pinned (OpenSpec.upto tilesPixelsSpec)

/-- 'whirligiglaw17.TilesPlaces', WHERE WHAT IT READS IS OF BULK AT MOST 1048576: true; the input reads as it did. -/
def tilesPlacesUptoRow : OpenClaim := { program := "ytmigbinllnejoaa", sum := "05e29b64c4f33cbc0d44c4e99764246b47f538e4d7766f818951d4e4ebe8c8a3", func := "whirligig/whirligiglaw17.TilesPlaces", spec := "tilesPlaces", apart := false, narrowed := true }
def TilesPlacesUptoSaid : Prop := tilesPlacesUptoRow.holds Try.pinned (OpenSpec.upto tilesPlacesSpec)

/-- 'whirligiglaw17.TilesBack', WHERE WHAT IT READS IS OF BULK AT MOST 1048576: true; the input reads as it did. -/
def tilesBackUptoRow : OpenClaim := { program := "ytmigbinllnejoaa", sum := "05e29b64c4f33cbc0d44c4e99764246b47f538e4d7766f818951d4e4ebe8c8a3", func := "whirligig/whirligiglaw17.TilesBack", spec := "tilesBack", apart := false, narrowed := true }
def TilesBackUptoSaid : Prop := tilesBackUptoRow.holds Try.pinned (OpenSpec.upto tilesBackSpec)

/-- 'whirligiglaw17.TilesApart', WHERE WHAT IT READS IS OF BULK AT MOST 1048576: true; the input reads as it did. -/
def tilesApartUptoRow : OpenClaim := { program := "ytmigbinllnejoaa", sum := "05e29b64c4f33cbc0d44c4e99764246b47f538e4d7766f818951d4e4ebe8c8a3", func := "whirligig/whirligiglaw17.TilesApart", spec := "tilesApart", apart := false, narrowed := true }
def TilesApartUptoSaid : Prop := tilesApartUptoRow.holds Try.pinned (OpenSpec.upto tilesApartSpec)

/-- 'whirligiglaw17.TilesPalettes', WHERE WHAT IT READS IS OF BULK AT MOST 1048576: true; the input reads as it did. -/
def tilesPalettesUptoRow : OpenClaim := { program := "ytmigbinllnejoaa", sum := "05e29b64c4f33cbc0d44c4e99764246b47f538e4d7766f818951d4e4ebe8c8a3", func := "whirligig/whirligiglaw17.TilesPalettes", spec := "tilesPalettes", apart := false, narrowed := true }
def TilesPalettesUptoSaid : Prop := tilesPalettesUptoRow.holds Try.pinned (OpenSpec.upto tilesPalettesSpec)

/-- 'whirligiglaw17.TilesShades', WHERE WHAT IT READS IS OF BULK AT MOST 1048576: true; the input reads as it did. -/
def tilesShadesUptoRow : OpenClaim := { program := "ytmigbinllnejoaa", sum := "05e29b64c4f33cbc0d44c4e99764246b47f538e4d7766f818951d4e4ebe8c8a3", func := "whirligig/whirligiglaw17.TilesShades", spec := "tilesShades", apart := false, narrowed := true }
def TilesShadesUptoSaid : Prop := tilesShadesUptoRow.holds Try.pinned (OpenSpec.upto tilesShadesSpec)

/-- 'whirligiglaw17.TilesSheet', WHERE WHAT IT READS IS OF BULK AT MOST 1048576: true; the input reads as it did. -/
def tilesSheetUptoRow : OpenClaim := { program := "ytmigbinllnejoaa", sum := "05e29b64c4f33cbc0d44c4e99764246b47f538e4d7766f818951d4e4ebe8c8a3", func := "whirligig/whirligiglaw17.TilesSheet", spec := "tilesSheet", inPlace := ["sync/atomic.LoadInt64", "sync/atomic.AddInt64", "sync/atomic.LoadUint32", "(*internal/sync.Mutex).Lock", "internal/race.Disable", "sync/atomic.CompareAndSwapInt32", "internal/race.Enable", "internal/race.Acquire", "(*internal/sync.Mutex).lockSlow", "internal/sync.runtime_canSpin", "internal/sync.runtime_doSpin", "internal/sync.throw", "internal/sync.runtime_nanotime", "internal/sync.runtime_SemacquireMutex", "sync/atomic.AddInt32", "(*internal/sync.Mutex).Unlock", "internal/race.ReleaseMerge", "(*internal/sync.Mutex).unlockSlow", "internal/sync.fatal", "internal/sync.runtime_Semrelease", "sync/atomic.StoreUint32"], unfollowed := true, recurses := true, apart := false, narrowed := true }
def TilesSheetUptoSaid : Prop := tilesSheetUptoRow.holds Try.pinned (OpenSpec.upto tilesSheetSpec)

end Rows
end Go.Proofs.Ytmigbinllnejoaa
