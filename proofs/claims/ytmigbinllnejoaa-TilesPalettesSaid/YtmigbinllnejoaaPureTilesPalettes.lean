/- TilesPalettes, the plain part: a palette's four shades are 0 to 3, and make up the palette. No condition. -/
import Derived.Test.YtmigbinllnejoaaPx19
import Derived.Test.YtmigbinllnejoaaPlain
namespace Go.Proofs.Ytmigbinllnejoaa.Pure
open Go.RowKit Go.Proofs.Ytmigbinllnejoaa.P Go.Proofs.Ytmigbinllnejoaa.Plain
set_option maxRecDepth 100000

theorem palettes_all : ∀ p : Nat, p < 256 → whirligiglaw17_TilesPalettes.f 6 (p : Int) = some true := by decide +kernel

theorem TilesPalettes : whirligiglaw17_TilesPalettes.Pure := by
  intro p ep
  obtain ⟨p, hp, rfl⟩ := u8_nat ep
  exact ⟨6, palettes_all p hp⟩

end Go.Proofs.Ytmigbinllnejoaa.Pure
