/-
  DERIVED. GIVEN WITH THE SEED: THE CARDS: each row of YtejaonodaplbhaaDoorRows.lean that lists a variable, with what it lists TIED to the program's text (the seventh form; the later family's looks); each row that meets fmt, with fmt's text TOLD by the authors' own Lean function (tested against real Go, not proved from fmt's source: count such statements apart). THE CARD IS WHAT COUNTS. Prove the row's statement (the work); the ties are given (YtejaonodaplbhaaDoorTie.lean); close each card by the builder's one call (the guide's Derived/Test/ToyasCard.lean, 'card_holds'). Laid BY PROGRAM, IN A SANDBOX (cutbox-door.mjs). By AI agents, Wed Nov 11 2026. No macro, syntax, notation, axiom, sorry.
-/
import Derived.Test.YtejaonodaplbhaaDoorRows
import GoSem.ClaimSeven
namespace Go.Proofs.YtejaonodaplbhaaDoor
namespace Rows

/-- THE TIED CARD OF 'portagelaw08.SpaceAddrs'. -/
def spaceAddrsCard : Claim7 := { stood := { row := spaceAddrsRow, standIns := [], harness := (true, "26e3836636e69c89a2088bd1d3436860535e316ddbfaf8a3cb9de952b4aedd2d"), looks := true }, kinds := [], alts := [], laidByText := true, laidKinds := [.data], laidTests := true, laidLooks := .later }
def SpaceAddrsCardSaid : Prop := Claim7.holds Tryd.pinned (.plain (OpenSpec.ofChange spaceAddrsSpec)) spaceAddrsCard

/-- THE TIED CARD OF 'portagelaw08.SpaceFills'. -/
def spaceFillsCard : Claim7 := { stood := { row := spaceFillsRow, standIns := [], harness := (true, "26e3836636e69c89a2088bd1d3436860535e316ddbfaf8a3cb9de952b4aedd2d"), looks := true }, kinds := [], alts := [], laidByText := true, laidKinds := [.data], laidTests := true, laidLooks := .later }
def SpaceFillsCardSaid : Prop := Claim7.holds Tryd.pinned (.plain (OpenSpec.ofChange spaceFillsSpec)) spaceFillsCard

/-- THE TIED CARD OF 'portagelaw08.SpaceSafe'. -/
def spaceSafeCard : Claim7 := { stood := { row := spaceSafeRow, standIns := [], harness := (true, "26e3836636e69c89a2088bd1d3436860535e316ddbfaf8a3cb9de952b4aedd2d"), looks := true }, kinds := [], alts := [], laidByText := true, laidKinds := [.data], laidTests := true, laidLooks := .later }
def SpaceSafeCardSaid : Prop := Claim7.holds Tryd.pinned (.plain (OpenSpec.ofChange spaceSafeSpec)) spaceSafeCard

/-- THE TIED CARD OF 'portagelaw08.SpaceSettles'. -/
def spaceSettlesCard : Claim7 := { stood := { row := spaceSettlesRow, standIns := [], harness := (true, "26e3836636e69c89a2088bd1d3436860535e316ddbfaf8a3cb9de952b4aedd2d"), looks := true }, kinds := [], alts := [], laidByText := true, laidKinds := [.data], laidTests := true, laidLooks := .later }
def SpaceSettlesCardSaid : Prop := Claim7.holds Tryd.pinned (.plain (OpenSpec.ofChange spaceSettlesSpec)) spaceSettlesCard

/-- THE TIED CARD OF 'portagelaw08.SpaceBack'. -/
def spaceBackCard : Claim7 := { stood := { row := spaceBackRow, standIns := [], harness := (true, "26e3836636e69c89a2088bd1d3436860535e316ddbfaf8a3cb9de952b4aedd2d"), looks := true }, kinds := [], alts := [], laidByText := true, laidKinds := [.data], laidTests := true, laidLooks := .later }
def SpaceBackCardSaid : Prop := Claim7.holds Tryd.pinned (.plain (OpenSpec.ofChange spaceBackSpec)) spaceBackCard

/-- THE SECOND FORM's CARD OF 'portagelaw08.SpaceAddrs'. -/
def spaceAddrsUptoCard : Claim7 := { stood := { row := spaceAddrsUptoRow, standIns := [], harness := (true, "26e3836636e69c89a2088bd1d3436860535e316ddbfaf8a3cb9de952b4aedd2d"), looks := true }, kinds := [], alts := [], laidByText := true, laidKinds := [.data], laidTests := true, laidLooks := .later }
def SpaceAddrsUptoCardSaid : Prop := Claim7.holds Tryd.pinned (.plain (OpenSpec.upto spaceAddrsSpec)) spaceAddrsUptoCard

/-- THE SECOND FORM's CARD OF 'portagelaw08.SpaceFills'. -/
def spaceFillsUptoCard : Claim7 := { stood := { row := spaceFillsUptoRow, standIns := [], harness := (true, "26e3836636e69c89a2088bd1d3436860535e316ddbfaf8a3cb9de952b4aedd2d"), looks := true }, kinds := [], alts := [], laidByText := true, laidKinds := [.data], laidTests := true, laidLooks := .later }
def SpaceFillsUptoCardSaid : Prop := Claim7.holds Tryd.pinned (.plain (OpenSpec.upto spaceFillsSpec)) spaceFillsUptoCard

/-- THE SECOND FORM's CARD OF 'portagelaw08.SpaceSafe'. -/
def spaceSafeUptoCard : Claim7 := { stood := { row := spaceSafeUptoRow, standIns := [], harness := (true, "26e3836636e69c89a2088bd1d3436860535e316ddbfaf8a3cb9de952b4aedd2d"), looks := true }, kinds := [], alts := [], laidByText := true, laidKinds := [.data], laidTests := true, laidLooks := .later }
def SpaceSafeUptoCardSaid : Prop := Claim7.holds Tryd.pinned (.plain (OpenSpec.upto spaceSafeSpec)) spaceSafeUptoCard

/-- THE SECOND FORM's CARD OF 'portagelaw08.SpaceSettles'. -/
def spaceSettlesUptoCard : Claim7 := { stood := { row := spaceSettlesUptoRow, standIns := [], harness := (true, "26e3836636e69c89a2088bd1d3436860535e316ddbfaf8a3cb9de952b4aedd2d"), looks := true }, kinds := [], alts := [], laidByText := true, laidKinds := [.data], laidTests := true, laidLooks := .later }
def SpaceSettlesUptoCardSaid : Prop := Claim7.holds Tryd.pinned (.plain (OpenSpec.upto spaceSettlesSpec)) spaceSettlesUptoCard

/-- THE SECOND FORM's CARD OF 'portagelaw08.SpaceBack'. -/
def spaceBackUptoCard : Claim7 := { stood := { row := spaceBackUptoRow, standIns := [], harness := (true, "26e3836636e69c89a2088bd1d3436860535e316ddbfaf8a3cb9de952b4aedd2d"), looks := true }, kinds := [], alts := [], laidByText := true, laidKinds := [.data], laidTests := true, laidLooks := .later }
def SpaceBackUptoCardSaid : Prop := Claim7.holds Tryd.pinned (.plain (OpenSpec.upto spaceBackSpec)) spaceBackUptoCard
end Rows
end Go.Proofs.YtejaonodaplbhaaDoor
