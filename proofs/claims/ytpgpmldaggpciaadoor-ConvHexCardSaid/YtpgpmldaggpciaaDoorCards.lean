/-
  DERIVED. GIVEN WITH THE SEED: THE CARDS: each row of YtpgpmldaggpciaaDoorRows.lean that lists a variable, with what it lists TIED to the program's text (the seventh form; the later family's looks); each row that meets fmt, with fmt's text TOLD by the authors' own Lean function (tested against real Go, not proved from fmt's source: count such statements apart). THE CARD IS WHAT COUNTS. Prove the row's statement (the work); the ties are given (YtpgpmldaggpciaaDoorTie.lean); close each card by the builder's one call (the guide's Derived/Test/ToyasCard.lean, 'card_holds'). Laid BY PROGRAM, IN A SANDBOX (cutbox-door.mjs). By AI agents, Wed Nov 11 2026. No macro, syntax, notation, axiom, sorry.
-/
import Derived.Test.YtpgpmldaggpciaaDoorRows
import GoSem.ClaimSeven
namespace Go.Proofs.YtpgpmldaggpciaaDoor
namespace Rows

/-- THE TIED CARD OF 'selkielaw03.ConvBack'. -/
def convBackCard : Claim7 := { stood := { row := convBackRow, standIns := [], harness := (true, "b2f054d0116f9b188c8c4209819f945d36e812969c7e7a5d1fdce4aae6649a49"), looks := true }, kinds := [], alts := [], laidByText := true, laidKinds := [.data, .data, .data, .data, .sentinel, .sentinel, .pinned], laidTests := true, laidLooks := .later }
def ConvBackCardSaid : Prop := Claim7.holds Tryd.pinned (.plain (OpenSpec.ofChange convBackSpec)) convBackCard

/-- THE TIED CARD OF 'selkielaw03.ConvHex'. -/
def convHexCard : Claim7 := { stood := { row := convHexRow, standIns := [], harness := (true, "b2f054d0116f9b188c8c4209819f945d36e812969c7e7a5d1fdce4aae6649a49"), looks := true }, kinds := [], alts := [], laidByText := true, laidKinds := [.data, .data, .data, .data, .sentinel, .sentinel, .pinned], laidTests := true, laidLooks := .later }
def ConvHexCardSaid : Prop := Claim7.holds Tryd.pinned (.plain (OpenSpec.ofChange convHexSpec)) convHexCard

/-- THE TIED CARD OF 'selkielaw10.WordsValues'. -/
def wordsValuesCard : Claim7 := { stood := { row := wordsValuesRow, standIns := [], harness := (true, "b2f054d0116f9b188c8c4209819f945d36e812969c7e7a5d1fdce4aae6649a49"), looks := true }, kinds := [], alts := [], laidByText := true, laidKinds := [.data, .data, .data, .data, .sentinel, .sentinel, .pinned], laidTests := true, laidLooks := .later }
def WordsValuesCardSaid : Prop := Claim7.holds Tryd.pinned (.plain (OpenSpec.ofChange wordsValuesSpec)) wordsValuesCard

/-- THE TIED CARD OF 'selkielaw10.WordsName'. -/
def wordsNameCard : Claim7 := { stood := { row := wordsNameRow, standIns := [], harness := (true, "b2f054d0116f9b188c8c4209819f945d36e812969c7e7a5d1fdce4aae6649a49"), looks := true }, kinds := [], alts := [], laidByText := true, laidKinds := [.data, .data, .data, .data, .sentinel, .sentinel, .pinned], laidTests := true, laidLooks := .later }
def WordsNameCardSaid : Prop := Claim7.holds Tryd.pinned (.plain (OpenSpec.ofChange wordsNameSpec)) wordsNameCard

/-- THE TIED CARD OF 'selkielaw10.WordsThings'. -/
def wordsThingsCard : Claim7 := { stood := { row := wordsThingsRow, standIns := [], harness := (true, "b2f054d0116f9b188c8c4209819f945d36e812969c7e7a5d1fdce4aae6649a49"), looks := true }, kinds := [], alts := [], laidByText := true, laidKinds := [.data, .data, .data, .data, .sentinel, .sentinel, .pinned], laidTests := true, laidLooks := .later }
def WordsThingsCardSaid : Prop := Claim7.holds Tryd.pinned (.plain (OpenSpec.ofChange wordsThingsSpec)) wordsThingsCard

/-- THE TIED CARD OF 'selkielaw11.OperOrders'. -/
def operOrdersCard : Claim7 := { stood := { row := operOrdersRow, standIns := [], harness := (true, "b2f054d0116f9b188c8c4209819f945d36e812969c7e7a5d1fdce4aae6649a49"), looks := true }, kinds := [], alts := [], laidByText := true, laidKinds := [.data, .data, .data, .data, .sentinel, .sentinel, .pinned], laidTests := true, laidLooks := .later }
def OperOrdersCardSaid : Prop := Claim7.holds Tryd.pinned (.plain (OpenSpec.ofChange operOrdersSpec)) operOrdersCard

/-- THE TIED CARD OF 'selkielaw11.OperSwaps'. -/
def operSwapsCard : Claim7 := { stood := { row := operSwapsRow, standIns := [], harness := (true, "b2f054d0116f9b188c8c4209819f945d36e812969c7e7a5d1fdce4aae6649a49"), looks := true }, kinds := [], alts := [], laidByText := true, laidKinds := [.data, .data, .data, .data, .sentinel, .sentinel, .pinned], laidTests := true, laidLooks := .later }
def OperSwapsCardSaid : Prop := Claim7.holds Tryd.pinned (.plain (OpenSpec.ofChange operSwapsSpec)) operSwapsCard

/-- THE TIED CARD OF 'selkielaw11.OperNumbers'. -/
def operNumbersCard : Claim7 := { stood := { row := operNumbersRow, standIns := [], harness := (true, "b2f054d0116f9b188c8c4209819f945d36e812969c7e7a5d1fdce4aae6649a49"), looks := true }, kinds := [], alts := [], laidByText := true, laidKinds := [.data, .data, .data, .data, .sentinel, .sentinel, .pinned], laidTests := true, laidLooks := .later }
def OperNumbersCardSaid : Prop := Claim7.holds Tryd.pinned (.plain (OpenSpec.ofChange operNumbersSpec)) operNumbersCard

/-- THE TIED CARD OF 'selkielaw11.OperConcats'. -/
def operConcatsCard : Claim7 := { stood := { row := operConcatsRow, standIns := [], harness := (true, "b2f054d0116f9b188c8c4209819f945d36e812969c7e7a5d1fdce4aae6649a49"), looks := true }, kinds := [], alts := [], laidByText := true, laidKinds := [.data, .data, .data, .data, .sentinel, .sentinel, .pinned], laidTests := true, laidLooks := .later }
def OperConcatsCardSaid : Prop := Claim7.holds Tryd.pinned (.plain (OpenSpec.ofChange operConcatsSpec)) operConcatsCard

/-- THE SECOND FORM's CARD OF 'selkielaw03.ConvBack'. -/
def convBackUptoCard : Claim7 := { stood := { row := convBackUptoRow, standIns := [], harness := (true, "b2f054d0116f9b188c8c4209819f945d36e812969c7e7a5d1fdce4aae6649a49"), looks := true }, kinds := [], alts := [], laidByText := true, laidKinds := [.data, .data, .data, .data, .sentinel, .sentinel, .pinned], laidTests := true, laidLooks := .later }
def ConvBackUptoCardSaid : Prop := Claim7.holds Tryd.pinned (.plain (OpenSpec.upto convBackSpec)) convBackUptoCard

/-- THE SECOND FORM's CARD OF 'selkielaw03.ConvHex'. -/
def convHexUptoCard : Claim7 := { stood := { row := convHexUptoRow, standIns := [], harness := (true, "b2f054d0116f9b188c8c4209819f945d36e812969c7e7a5d1fdce4aae6649a49"), looks := true }, kinds := [], alts := [], laidByText := true, laidKinds := [.data, .data, .data, .data, .sentinel, .sentinel, .pinned], laidTests := true, laidLooks := .later }
def ConvHexUptoCardSaid : Prop := Claim7.holds Tryd.pinned (.plain (OpenSpec.upto convHexSpec)) convHexUptoCard

/-- THE SECOND FORM's CARD OF 'selkielaw10.WordsValues'. -/
def wordsValuesUptoCard : Claim7 := { stood := { row := wordsValuesUptoRow, standIns := [], harness := (true, "b2f054d0116f9b188c8c4209819f945d36e812969c7e7a5d1fdce4aae6649a49"), looks := true }, kinds := [], alts := [], laidByText := true, laidKinds := [.data, .data, .data, .data, .sentinel, .sentinel, .pinned], laidTests := true, laidLooks := .later }
def WordsValuesUptoCardSaid : Prop := Claim7.holds Tryd.pinned (.plain (OpenSpec.upto wordsValuesSpec)) wordsValuesUptoCard

/-- THE SECOND FORM's CARD OF 'selkielaw10.WordsName'. -/
def wordsNameUptoCard : Claim7 := { stood := { row := wordsNameUptoRow, standIns := [], harness := (true, "b2f054d0116f9b188c8c4209819f945d36e812969c7e7a5d1fdce4aae6649a49"), looks := true }, kinds := [], alts := [], laidByText := true, laidKinds := [.data, .data, .data, .data, .sentinel, .sentinel, .pinned], laidTests := true, laidLooks := .later }
def WordsNameUptoCardSaid : Prop := Claim7.holds Tryd.pinned (.plain (OpenSpec.upto wordsNameSpec)) wordsNameUptoCard

/-- THE SECOND FORM's CARD OF 'selkielaw10.WordsThings'. -/
def wordsThingsUptoCard : Claim7 := { stood := { row := wordsThingsUptoRow, standIns := [], harness := (true, "b2f054d0116f9b188c8c4209819f945d36e812969c7e7a5d1fdce4aae6649a49"), looks := true }, kinds := [], alts := [], laidByText := true, laidKinds := [.data, .data, .data, .data, .sentinel, .sentinel, .pinned], laidTests := true, laidLooks := .later }
def WordsThingsUptoCardSaid : Prop := Claim7.holds Tryd.pinned (.plain (OpenSpec.upto wordsThingsSpec)) wordsThingsUptoCard

/-- THE SECOND FORM's CARD OF 'selkielaw11.OperOrders'. -/
def operOrdersUptoCard : Claim7 := { stood := { row := operOrdersUptoRow, standIns := [], harness := (true, "b2f054d0116f9b188c8c4209819f945d36e812969c7e7a5d1fdce4aae6649a49"), looks := true }, kinds := [], alts := [], laidByText := true, laidKinds := [.data, .data, .data, .data, .sentinel, .sentinel, .pinned], laidTests := true, laidLooks := .later }
def OperOrdersUptoCardSaid : Prop := Claim7.holds Tryd.pinned (.plain (OpenSpec.upto operOrdersSpec)) operOrdersUptoCard

/-- THE SECOND FORM's CARD OF 'selkielaw11.OperSwaps'. -/
def operSwapsUptoCard : Claim7 := { stood := { row := operSwapsUptoRow, standIns := [], harness := (true, "b2f054d0116f9b188c8c4209819f945d36e812969c7e7a5d1fdce4aae6649a49"), looks := true }, kinds := [], alts := [], laidByText := true, laidKinds := [.data, .data, .data, .data, .sentinel, .sentinel, .pinned], laidTests := true, laidLooks := .later }
def OperSwapsUptoCardSaid : Prop := Claim7.holds Tryd.pinned (.plain (OpenSpec.upto operSwapsSpec)) operSwapsUptoCard

/-- THE SECOND FORM's CARD OF 'selkielaw11.OperNumbers'. -/
def operNumbersUptoCard : Claim7 := { stood := { row := operNumbersUptoRow, standIns := [], harness := (true, "b2f054d0116f9b188c8c4209819f945d36e812969c7e7a5d1fdce4aae6649a49"), looks := true }, kinds := [], alts := [], laidByText := true, laidKinds := [.data, .data, .data, .data, .sentinel, .sentinel, .pinned], laidTests := true, laidLooks := .later }
def OperNumbersUptoCardSaid : Prop := Claim7.holds Tryd.pinned (.plain (OpenSpec.upto operNumbersSpec)) operNumbersUptoCard

/-- THE SECOND FORM's CARD OF 'selkielaw11.OperConcats'. -/
def operConcatsUptoCard : Claim7 := { stood := { row := operConcatsUptoRow, standIns := [], harness := (true, "b2f054d0116f9b188c8c4209819f945d36e812969c7e7a5d1fdce4aae6649a49"), looks := true }, kinds := [], alts := [], laidByText := true, laidKinds := [.data, .data, .data, .data, .sentinel, .sentinel, .pinned], laidTests := true, laidLooks := .later }
def OperConcatsUptoCardSaid : Prop := Claim7.holds Tryd.pinned (.plain (OpenSpec.upto operConcatsSpec)) operConcatsUptoCard
end Rows
end Go.Proofs.YtpgpmldaggpciaaDoor
