/-
  DERIVED. GIVEN WITH THE SEED: THE CARDS: each row of YtjbnlebnofnkoaaDoorRows.lean that lists a variable, with what it lists TIED to the program's text (the seventh form; the later family's looks); each row that meets fmt, with fmt's text TOLD by the authors' own Lean function (tested against real Go, not proved from fmt's source: count such statements apart). THE CARD IS WHAT COUNTS. Prove the row's statement (the work); the ties are given (YtjbnlebnofnkoaaDoorTie.lean); close each card by the builder's one call (the guide's Derived/Test/ToyasCard.lean, 'card_holds'). Laid BY PROGRAM, IN A SANDBOX (cutbox-door.mjs). By AI agents, Wed Nov 11 2026. No macro, syntax, notation, axiom, sorry.
-/
import Derived.Test.YtjbnlebnofnkoaaDoorRows
import GoSem.ClaimSeven
namespace Go.Proofs.YtjbnlebnofnkoaaDoor
namespace Rows

/-- THE TIED CARD OF 'selkielaw03.ConvReads'. -/
def convReadsCard : Claim7 := { stood := { row := convReadsRow, standIns := [], harness := (true, "ac5333077df5eb171bd3d3c715ab2ec923a8c70ab6ddd14ddf3d3864722e0df4"), looks := true }, kinds := [], alts := [], laidByText := true, laidKinds := [.data, .data, .data, .data, .sentinel, .sentinel, .pinned], laidTests := true, laidLooks := .later }
def ConvReadsCardSaid : Prop := Claim7.holds Tryd.pinned (.plain (OpenSpec.ofChange convReadsSpec)) convReadsCard

/-- THE TIED CARD OF 'selkielaw03.ConvBack'. -/
def convBackCard : Claim7 := { stood := { row := convBackRow, standIns := [], harness := (true, "ac5333077df5eb171bd3d3c715ab2ec923a8c70ab6ddd14ddf3d3864722e0df4"), looks := true }, kinds := [], alts := [], laidByText := true, laidKinds := [.data, .data, .data, .data, .sentinel, .sentinel, .pinned], laidTests := true, laidLooks := .later }
def ConvBackCardSaid : Prop := Claim7.holds Tryd.pinned (.plain (OpenSpec.ofChange convBackSpec)) convBackCard

/-- THE TIED CARD OF 'selkielaw03.ConvHex'. -/
def convHexCard : Claim7 := { stood := { row := convHexRow, standIns := [], harness := (true, "ac5333077df5eb171bd3d3c715ab2ec923a8c70ab6ddd14ddf3d3864722e0df4"), looks := true }, kinds := [], alts := [], laidByText := true, laidKinds := [.data, .data, .data, .data, .sentinel, .sentinel, .pinned], laidTests := true, laidLooks := .later }
def ConvHexCardSaid : Prop := Claim7.holds Tryd.pinned (.plain (OpenSpec.ofChange convHexSpec)) convHexCard

/-- THE TIED CARD OF 'selkielaw03.ConvBases'. -/
def convBasesCard : Claim7 := { stood := { row := convBasesRow, standIns := [], harness := (true, "ac5333077df5eb171bd3d3c715ab2ec923a8c70ab6ddd14ddf3d3864722e0df4"), looks := true }, kinds := [], alts := [], laidByText := true, laidKinds := [.data, .data, .data, .data, .sentinel, .sentinel, .pinned], laidTests := true, laidLooks := .later }
def ConvBasesCardSaid : Prop := Claim7.holds Tryd.pinned (.plain (OpenSpec.ofChange convBasesSpec)) convBasesCard

/-- THE TIED CARD OF 'selkielaw03.ConvValues'. -/
def convValuesCard : Claim7 := { stood := { row := convValuesRow, standIns := [], harness := (true, "ac5333077df5eb171bd3d3c715ab2ec923a8c70ab6ddd14ddf3d3864722e0df4"), looks := true }, kinds := [], alts := [], laidByText := true, laidKinds := [.data, .data, .data, .data, .sentinel, .sentinel, .pinned], laidTests := true, laidLooks := .later }
def ConvValuesCardSaid : Prop := Claim7.holds Tryd.pinned (.plain (OpenSpec.ofChange convValuesSpec)) convValuesCard

/-- THE SECOND FORM's CARD OF 'selkielaw03.ConvReads'. -/
def convReadsUptoCard : Claim7 := { stood := { row := convReadsUptoRow, standIns := [], harness := (true, "ac5333077df5eb171bd3d3c715ab2ec923a8c70ab6ddd14ddf3d3864722e0df4"), looks := true }, kinds := [], alts := [], laidByText := true, laidKinds := [.data, .data, .data, .data, .sentinel, .sentinel, .pinned], laidTests := true, laidLooks := .later }
def ConvReadsUptoCardSaid : Prop := Claim7.holds Tryd.pinned (.plain (OpenSpec.upto convReadsSpec)) convReadsUptoCard

/-- THE SECOND FORM's CARD OF 'selkielaw03.ConvBack'. -/
def convBackUptoCard : Claim7 := { stood := { row := convBackUptoRow, standIns := [], harness := (true, "ac5333077df5eb171bd3d3c715ab2ec923a8c70ab6ddd14ddf3d3864722e0df4"), looks := true }, kinds := [], alts := [], laidByText := true, laidKinds := [.data, .data, .data, .data, .sentinel, .sentinel, .pinned], laidTests := true, laidLooks := .later }
def ConvBackUptoCardSaid : Prop := Claim7.holds Tryd.pinned (.plain (OpenSpec.upto convBackSpec)) convBackUptoCard

/-- THE SECOND FORM's CARD OF 'selkielaw03.ConvHex'. -/
def convHexUptoCard : Claim7 := { stood := { row := convHexUptoRow, standIns := [], harness := (true, "ac5333077df5eb171bd3d3c715ab2ec923a8c70ab6ddd14ddf3d3864722e0df4"), looks := true }, kinds := [], alts := [], laidByText := true, laidKinds := [.data, .data, .data, .data, .sentinel, .sentinel, .pinned], laidTests := true, laidLooks := .later }
def ConvHexUptoCardSaid : Prop := Claim7.holds Tryd.pinned (.plain (OpenSpec.upto convHexSpec)) convHexUptoCard

/-- THE SECOND FORM's CARD OF 'selkielaw03.ConvBases'. -/
def convBasesUptoCard : Claim7 := { stood := { row := convBasesUptoRow, standIns := [], harness := (true, "ac5333077df5eb171bd3d3c715ab2ec923a8c70ab6ddd14ddf3d3864722e0df4"), looks := true }, kinds := [], alts := [], laidByText := true, laidKinds := [.data, .data, .data, .data, .sentinel, .sentinel, .pinned], laidTests := true, laidLooks := .later }
def ConvBasesUptoCardSaid : Prop := Claim7.holds Tryd.pinned (.plain (OpenSpec.upto convBasesSpec)) convBasesUptoCard

/-- THE SECOND FORM's CARD OF 'selkielaw03.ConvValues'. -/
def convValuesUptoCard : Claim7 := { stood := { row := convValuesUptoRow, standIns := [], harness := (true, "ac5333077df5eb171bd3d3c715ab2ec923a8c70ab6ddd14ddf3d3864722e0df4"), looks := true }, kinds := [], alts := [], laidByText := true, laidKinds := [.data, .data, .data, .data, .sentinel, .sentinel, .pinned], laidTests := true, laidLooks := .later }
def ConvValuesUptoCardSaid : Prop := Claim7.holds Tryd.pinned (.plain (OpenSpec.upto convValuesSpec)) convValuesUptoCard
end Rows
end Go.Proofs.YtjbnlebnofnkoaaDoor
