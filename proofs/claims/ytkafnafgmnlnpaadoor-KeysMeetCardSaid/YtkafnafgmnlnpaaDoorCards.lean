/-
  DERIVED. GIVEN WITH THE SEED: THE CARDS: each row of YtkafnafgmnlnpaaDoorRows.lean that lists a variable, with what it lists TIED to the program's text (the seventh form; the later family's looks); each row that meets fmt, with fmt's text TOLD by the authors' own Lean function (tested against real Go, not proved from fmt's source: count such statements apart). THE CARD IS WHAT COUNTS. Prove the row's statement (the work); the ties are given (YtkafnafgmnlnpaaDoorTie.lean); close each card by the builder's one call (the guide's Derived/Test/ToyasCard.lean, 'card_holds'). Laid BY PROGRAM, IN A SANDBOX (cutbox-door.mjs). By AI agents, Wed Nov 11 2026. No macro, syntax, notation, axiom, sorry.
-/
import Derived.Test.YtkafnafgmnlnpaaDoorRows
import GoSem.ClaimSeven
namespace Go.Proofs.YtkafnafgmnlnpaaDoor
namespace Rows

/-- THE TIED CARD OF 'jalousielaw11.KeysSets'. -/
def keysSetsCard : Claim7 := { stood := { row := keysSetsRow, standIns := [], harness := (true, "10c50d6b3438af2c5d2585b49e8789fd98b1906a9bebb6511a7ca2a126fa5e8e"), looks := false }, kinds := [], alts := [], laidByText := true, laidKinds := [.data, .data], laidTests := true, laidLooks := .later }
def KeysSetsCardSaid : Prop := Claim7.holds Tryd.pinned (.plain (OpenSpec.ofChange keysSetsSpec)) keysSetsCard

/-- THE TIED CARD OF 'jalousielaw11.KeysMeet'. -/
def keysMeetCard : Claim7 := { stood := { row := keysMeetRow, standIns := [], harness := (true, "10c50d6b3438af2c5d2585b49e8789fd98b1906a9bebb6511a7ca2a126fa5e8e"), looks := false }, kinds := [], alts := [], laidByText := true, laidKinds := [.data], laidTests := true, laidLooks := .later }
def KeysMeetCardSaid : Prop := Claim7.holds Tryd.pinned (.plain (OpenSpec.ofChange keysMeetSpec)) keysMeetCard

/-- THE TIED CARD OF 'jalousielaw11.KeysOrder'. -/
def keysOrderCard : Claim7 := { stood := { row := keysOrderRow, standIns := [], harness := (true, "10c50d6b3438af2c5d2585b49e8789fd98b1906a9bebb6511a7ca2a126fa5e8e"), looks := false }, kinds := [], alts := [], laidByText := true, laidKinds := [.data], laidTests := true, laidLooks := .later }
def KeysOrderCardSaid : Prop := Claim7.holds Tryd.pinned (.plain (OpenSpec.ofChange keysOrderSpec)) keysOrderCard

/-- THE TIED CARD OF 'jalousielaw11.KeysTokens'. -/
def keysTokensCard : Claim7 := { stood := { row := keysTokensRow, standIns := [], harness := (true, "10c50d6b3438af2c5d2585b49e8789fd98b1906a9bebb6511a7ca2a126fa5e8e"), looks := false }, kinds := [], alts := [], laidByText := true, laidKinds := [.data, .data], laidTests := true, laidLooks := .later }
def KeysTokensCardSaid : Prop := Claim7.holds Tryd.pinned (.plain (OpenSpec.ofChange keysTokensSpec)) keysTokensCard

/-- THE TIED CARD OF 'jalousielaw19.FilterWishes'. -/
def filterWishesCard : Claim7 := { stood := { row := filterWishesRow, standIns := [], harness := (true, "10c50d6b3438af2c5d2585b49e8789fd98b1906a9bebb6511a7ca2a126fa5e8e"), looks := false }, kinds := [], alts := [], laidByText := true, laidKinds := [.data], laidTests := true, laidLooks := .later }
def FilterWishesCardSaid : Prop := Claim7.holds Tryd.pinned (.plain (OpenSpec.ofChange filterWishesSpec)) filterWishesCard

/-- THE SECOND FORM's CARD OF 'jalousielaw11.KeysSets'. -/
def keysSetsUptoCard : Claim7 := { stood := { row := keysSetsUptoRow, standIns := [], harness := (true, "10c50d6b3438af2c5d2585b49e8789fd98b1906a9bebb6511a7ca2a126fa5e8e"), looks := false }, kinds := [], alts := [], laidByText := true, laidKinds := [.data, .data], laidTests := true, laidLooks := .later }
def KeysSetsUptoCardSaid : Prop := Claim7.holds Tryd.pinned (.plain (OpenSpec.upto keysSetsSpec)) keysSetsUptoCard

/-- THE SECOND FORM's CARD OF 'jalousielaw11.KeysMeet'. -/
def keysMeetUptoCard : Claim7 := { stood := { row := keysMeetUptoRow, standIns := [], harness := (true, "10c50d6b3438af2c5d2585b49e8789fd98b1906a9bebb6511a7ca2a126fa5e8e"), looks := false }, kinds := [], alts := [], laidByText := true, laidKinds := [.data], laidTests := true, laidLooks := .later }
def KeysMeetUptoCardSaid : Prop := Claim7.holds Tryd.pinned (.plain (OpenSpec.upto keysMeetSpec)) keysMeetUptoCard

/-- THE SECOND FORM's CARD OF 'jalousielaw11.KeysOrder'. -/
def keysOrderUptoCard : Claim7 := { stood := { row := keysOrderUptoRow, standIns := [], harness := (true, "10c50d6b3438af2c5d2585b49e8789fd98b1906a9bebb6511a7ca2a126fa5e8e"), looks := false }, kinds := [], alts := [], laidByText := true, laidKinds := [.data], laidTests := true, laidLooks := .later }
def KeysOrderUptoCardSaid : Prop := Claim7.holds Tryd.pinned (.plain (OpenSpec.upto keysOrderSpec)) keysOrderUptoCard

/-- THE SECOND FORM's CARD OF 'jalousielaw11.KeysTokens'. -/
def keysTokensUptoCard : Claim7 := { stood := { row := keysTokensUptoRow, standIns := [], harness := (true, "10c50d6b3438af2c5d2585b49e8789fd98b1906a9bebb6511a7ca2a126fa5e8e"), looks := false }, kinds := [], alts := [], laidByText := true, laidKinds := [.data, .data], laidTests := true, laidLooks := .later }
def KeysTokensUptoCardSaid : Prop := Claim7.holds Tryd.pinned (.plain (OpenSpec.upto keysTokensSpec)) keysTokensUptoCard

/-- THE SECOND FORM's CARD OF 'jalousielaw19.FilterWishes'. -/
def filterWishesUptoCard : Claim7 := { stood := { row := filterWishesUptoRow, standIns := [], harness := (true, "10c50d6b3438af2c5d2585b49e8789fd98b1906a9bebb6511a7ca2a126fa5e8e"), looks := false }, kinds := [], alts := [], laidByText := true, laidKinds := [.data], laidTests := true, laidLooks := .later }
def FilterWishesUptoCardSaid : Prop := Claim7.holds Tryd.pinned (.plain (OpenSpec.upto filterWishesSpec)) filterWishesUptoCard
end Rows
end Go.Proofs.YtkafnafgmnlnpaaDoor
