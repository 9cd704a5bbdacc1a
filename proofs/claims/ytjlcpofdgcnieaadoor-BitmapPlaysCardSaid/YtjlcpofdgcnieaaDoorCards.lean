/-
  DERIVED. GIVEN WITH THE SEED: THE CARDS: each row of YtjlcpofdgcnieaaDoorRows.lean that lists a variable, with what it lists TIED to the program's text (the seventh form; the later family's looks); each row that meets fmt, with fmt's text TOLD by the authors' own Lean function (tested against real Go, not proved from fmt's source: count such statements apart). THE CARD IS WHAT COUNTS. Prove the row's statement (the work); the ties are given (YtjlcpofdgcnieaaDoorTie.lean); close each card by the builder's one call (the guide's Derived/Test/ToyasCard.lean, 'card_holds'). Laid BY PROGRAM, IN A SANDBOX (cutbox-door.mjs). By AI agents, Wed Nov 11 2026. No macro, syntax, notation, axiom, sorry.
-/
import Derived.Test.YtjlcpofdgcnieaaDoorRows
import GoSem.ClaimSeven
namespace Go.Proofs.YtjlcpofdgcnieaaDoor
namespace Rows

/-- THE TIED CARD OF 'portagelaw07.BitmapFinds'. -/
def bitmapFindsCard : Claim7 := { stood := { row := bitmapFindsRow, standIns := [], harness := (true, "baedfa896edd2ed2a83fd5041f98ac5dbcb9431ca050b8eefd3b6db978c64e1c"), looks := true }, kinds := [], alts := [], laidByText := true, laidKinds := [.data], laidTests := true, laidLooks := .later }
def BitmapFindsCardSaid : Prop := Claim7.holds Tryd.pinned (.plain (OpenSpec.ofChange bitmapFindsSpec)) bitmapFindsCard

/-- THE TIED CARD OF 'portagelaw07.BitmapRuns'. -/
def bitmapRunsCard : Claim7 := { stood := { row := bitmapRunsRow, standIns := [], harness := (true, "baedfa896edd2ed2a83fd5041f98ac5dbcb9431ca050b8eefd3b6db978c64e1c"), looks := true }, kinds := [], alts := [], laidByText := true, laidKinds := [.data], laidTests := true, laidLooks := .later }
def BitmapRunsCardSaid : Prop := Claim7.holds Tryd.pinned (.plain (OpenSpec.ofChange bitmapRunsSpec)) bitmapRunsCard

/-- THE TIED CARD OF 'portagelaw07.BitmapPlays'. -/
def bitmapPlaysCard : Claim7 := { stood := { row := bitmapPlaysRow, standIns := [], harness := (true, "baedfa896edd2ed2a83fd5041f98ac5dbcb9431ca050b8eefd3b6db978c64e1c"), looks := true }, kinds := [], alts := [], laidByText := true, laidKinds := [.data], laidTests := true, laidLooks := .later }
def BitmapPlaysCardSaid : Prop := Claim7.holds Tryd.pinned (.plain (OpenSpec.ofChange bitmapPlaysSpec)) bitmapPlaysCard

/-- THE SECOND FORM's CARD OF 'portagelaw07.BitmapFinds'. -/
def bitmapFindsUptoCard : Claim7 := { stood := { row := bitmapFindsUptoRow, standIns := [], harness := (true, "baedfa896edd2ed2a83fd5041f98ac5dbcb9431ca050b8eefd3b6db978c64e1c"), looks := true }, kinds := [], alts := [], laidByText := true, laidKinds := [.data], laidTests := true, laidLooks := .later }
def BitmapFindsUptoCardSaid : Prop := Claim7.holds Tryd.pinned (.plain (OpenSpec.upto bitmapFindsSpec)) bitmapFindsUptoCard

/-- THE SECOND FORM's CARD OF 'portagelaw07.BitmapRuns'. -/
def bitmapRunsUptoCard : Claim7 := { stood := { row := bitmapRunsUptoRow, standIns := [], harness := (true, "baedfa896edd2ed2a83fd5041f98ac5dbcb9431ca050b8eefd3b6db978c64e1c"), looks := true }, kinds := [], alts := [], laidByText := true, laidKinds := [.data], laidTests := true, laidLooks := .later }
def BitmapRunsUptoCardSaid : Prop := Claim7.holds Tryd.pinned (.plain (OpenSpec.upto bitmapRunsSpec)) bitmapRunsUptoCard

/-- THE SECOND FORM's CARD OF 'portagelaw07.BitmapPlays'. -/
def bitmapPlaysUptoCard : Claim7 := { stood := { row := bitmapPlaysUptoRow, standIns := [], harness := (true, "baedfa896edd2ed2a83fd5041f98ac5dbcb9431ca050b8eefd3b6db978c64e1c"), looks := true }, kinds := [], alts := [], laidByText := true, laidKinds := [.data], laidTests := true, laidLooks := .later }
def BitmapPlaysUptoCardSaid : Prop := Claim7.holds Tryd.pinned (.plain (OpenSpec.upto bitmapPlaysSpec)) bitmapPlaysUptoCard
end Rows
end Go.Proofs.YtjlcpofdgcnieaaDoor
