/-
  DERIVED. GIVEN WITH THE SEED: THE CARDS: each row of YtcopemgkjbaaeaaDoorRows.lean that lists a variable, with what it lists TIED to the program's text (the seventh form; the later family's looks); each row that meets fmt, with fmt's text TOLD by the authors' own Lean function (tested against real Go, not proved from fmt's source: count such statements apart). THE CARD IS WHAT COUNTS. Prove the row's statement (the work); the ties are given (YtcopemgkjbaaeaaDoorTie.lean); close each card by the builder's one call (the guide's Derived/Test/ToyasCard.lean, 'card_holds'). Laid BY PROGRAM, IN A SANDBOX (cutbox-door.mjs). By AI agents, Wed Nov 11 2026. No macro, syntax, notation, axiom, sorry.
-/
import Derived.Test.YtcopemgkjbaaeaaDoorRows
import GoSem.ClaimSeven
namespace Go.Proofs.YtcopemgkjbaaeaaDoor
namespace Rows

/-- THE TIED CARD OF 'tidelinelaw13.MatchSame'. -/
def matchSameCard : Claim7 := { stood := { row := matchSameRow, standIns := [], harness := (true, "74140d0313133dc5918aa9f7c161e2803fa3ee313db1d9481bd9edc9c7ba2f20"), looks := true }, kinds := [], alts := [], laidByText := true, laidKinds := [.data], laidTests := true, laidLooks := .later }
def MatchSameCardSaid : Prop := Claim7.holds Tryd.pinned (.plain (OpenSpec.ofChange matchSameSpec)) matchSameCard

/-- THE TIED CARD OF 'tidelinelaw13.MatchMeets'. -/
def matchMeetsCard : Claim7 := { stood := { row := matchMeetsRow, standIns := [], harness := (true, "74140d0313133dc5918aa9f7c161e2803fa3ee313db1d9481bd9edc9c7ba2f20"), looks := true }, kinds := [], alts := [], laidByText := true, laidKinds := [.data], laidTests := true, laidLooks := .later }
def MatchMeetsCardSaid : Prop := Claim7.holds Tryd.pinned (.plain (OpenSpec.ofChange matchMeetsSpec)) matchMeetsCard

/-- THE TIED CARD OF 'tidelinelaw08.StoreFolds'. -/
def storeFoldsCard : Claim7 := { stood := { row := storeFoldsRow, standIns := [], harness := (true, "74140d0313133dc5918aa9f7c161e2803fa3ee313db1d9481bd9edc9c7ba2f20"), looks := true }, kinds := [], alts := [], laidByText := true, laidKinds := [.data], laidTests := true, laidLooks := .later }
def StoreFoldsCardSaid : Prop := Claim7.holds Tryd.pinned (.plain (OpenSpec.ofChange storeFoldsSpec)) storeFoldsCard

/-- THE TIED CARD OF 'tidelinelaw10.ImageTurned'. -/
def imageTurnedCard : Claim7 := { stood := { row := imageTurnedRow, standIns := [], harness := (true, "74140d0313133dc5918aa9f7c161e2803fa3ee313db1d9481bd9edc9c7ba2f20"), looks := true }, kinds := [], alts := [], laidByText := true, laidKinds := [.data], laidTests := true, laidLooks := .later }
def ImageTurnedCardSaid : Prop := Claim7.holds Tryd.pinned (.plain (OpenSpec.ofChange imageTurnedSpec)) imageTurnedCard

/-- THE TIED CARD OF 'tidelinelaw13.MatchTiles'. -/
def matchTilesCard : Claim7 := { stood := { row := matchTilesRow, standIns := [], harness := (true, "74140d0313133dc5918aa9f7c161e2803fa3ee313db1d9481bd9edc9c7ba2f20"), looks := true }, kinds := [], alts := [], laidByText := true, laidKinds := [.data], laidTests := true, laidLooks := .later }
def MatchTilesCardSaid : Prop := Claim7.holds Tryd.pinned (.plain (OpenSpec.ofChange matchTilesSpec)) matchTilesCard

/-- THE TIED CARD OF 'tidelinelaw10.ImageGoesOn'. -/
def imageGoesOnCard : Claim7 := { stood := { row := imageGoesOnRow, standIns := [], harness := (true, "74140d0313133dc5918aa9f7c161e2803fa3ee313db1d9481bd9edc9c7ba2f20"), looks := true }, kinds := [], alts := [], laidByText := true, laidKinds := [.data], laidTests := true, laidLooks := .later }
def ImageGoesOnCardSaid : Prop := Claim7.holds Tryd.pinned (.plain (OpenSpec.ofChange imageGoesOnSpec)) imageGoesOnCard

/-- THE SECOND FORM's CARD OF 'tidelinelaw13.MatchSame'. -/
def matchSameUptoCard : Claim7 := { stood := { row := matchSameUptoRow, standIns := [], harness := (true, "74140d0313133dc5918aa9f7c161e2803fa3ee313db1d9481bd9edc9c7ba2f20"), looks := true }, kinds := [], alts := [], laidByText := true, laidKinds := [.data], laidTests := true, laidLooks := .later }
def MatchSameUptoCardSaid : Prop := Claim7.holds Tryd.pinned (.plain (OpenSpec.upto matchSameSpec)) matchSameUptoCard

/-- THE SECOND FORM's CARD OF 'tidelinelaw13.MatchMeets'. -/
def matchMeetsUptoCard : Claim7 := { stood := { row := matchMeetsUptoRow, standIns := [], harness := (true, "74140d0313133dc5918aa9f7c161e2803fa3ee313db1d9481bd9edc9c7ba2f20"), looks := true }, kinds := [], alts := [], laidByText := true, laidKinds := [.data], laidTests := true, laidLooks := .later }
def MatchMeetsUptoCardSaid : Prop := Claim7.holds Tryd.pinned (.plain (OpenSpec.upto matchMeetsSpec)) matchMeetsUptoCard

/-- THE SECOND FORM's CARD OF 'tidelinelaw08.StoreFolds'. -/
def storeFoldsUptoCard : Claim7 := { stood := { row := storeFoldsUptoRow, standIns := [], harness := (true, "74140d0313133dc5918aa9f7c161e2803fa3ee313db1d9481bd9edc9c7ba2f20"), looks := true }, kinds := [], alts := [], laidByText := true, laidKinds := [.data], laidTests := true, laidLooks := .later }
def StoreFoldsUptoCardSaid : Prop := Claim7.holds Tryd.pinned (.plain (OpenSpec.upto storeFoldsSpec)) storeFoldsUptoCard

/-- THE SECOND FORM's CARD OF 'tidelinelaw10.ImageTurned'. -/
def imageTurnedUptoCard : Claim7 := { stood := { row := imageTurnedUptoRow, standIns := [], harness := (true, "74140d0313133dc5918aa9f7c161e2803fa3ee313db1d9481bd9edc9c7ba2f20"), looks := true }, kinds := [], alts := [], laidByText := true, laidKinds := [.data], laidTests := true, laidLooks := .later }
def ImageTurnedUptoCardSaid : Prop := Claim7.holds Tryd.pinned (.plain (OpenSpec.upto imageTurnedSpec)) imageTurnedUptoCard

/-- THE SECOND FORM's CARD OF 'tidelinelaw13.MatchTiles'. -/
def matchTilesUptoCard : Claim7 := { stood := { row := matchTilesUptoRow, standIns := [], harness := (true, "74140d0313133dc5918aa9f7c161e2803fa3ee313db1d9481bd9edc9c7ba2f20"), looks := true }, kinds := [], alts := [], laidByText := true, laidKinds := [.data], laidTests := true, laidLooks := .later }
def MatchTilesUptoCardSaid : Prop := Claim7.holds Tryd.pinned (.plain (OpenSpec.upto matchTilesSpec)) matchTilesUptoCard

/-- THE SECOND FORM's CARD OF 'tidelinelaw10.ImageGoesOn'. -/
def imageGoesOnUptoCard : Claim7 := { stood := { row := imageGoesOnUptoRow, standIns := [], harness := (true, "74140d0313133dc5918aa9f7c161e2803fa3ee313db1d9481bd9edc9c7ba2f20"), looks := true }, kinds := [], alts := [], laidByText := true, laidKinds := [.data], laidTests := true, laidLooks := .later }
def ImageGoesOnUptoCardSaid : Prop := Claim7.holds Tryd.pinned (.plain (OpenSpec.upto imageGoesOnSpec)) imageGoesOnUptoCard
end Rows
end Go.Proofs.YtcopemgkjbaaeaaDoor
