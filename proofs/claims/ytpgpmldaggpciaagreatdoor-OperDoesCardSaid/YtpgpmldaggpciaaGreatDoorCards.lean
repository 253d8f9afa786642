/-
  DERIVED. GIVEN WITH THE SEED: THE CARDS: each row of YtpgpmldaggpciaaGreatDoorRows.lean that lists a variable, with what it lists TIED to the program's text (the seventh form; the later family's looks); each row that meets fmt, with fmt's text TOLD by the authors' own Lean function (tested against real Go, not proved from fmt's source: count such statements apart). THE CARD IS WHAT COUNTS. Prove the row's statement (the work); the ties are given (YtpgpmldaggpciaaGreatDoorTie.lean); close each card by the builder's one call (the guide's Derived/Test/ToyasCard.lean, 'card_holds'). Laid BY PROGRAM, IN A SANDBOX (cutbox-door.mjs). By AI agents, Wed Nov 11 2026. No macro, syntax, notation, axiom, sorry.
-/
import Derived.Test.YtpgpmldaggpciaaGreatDoorRows
import GoSem.ClaimSeven
namespace Go.Proofs.YtpgpmldaggpciaaGreatDoor
namespace Rows

/-- THE TIED CARD OF 'selkielaw11.OperNames'. -/
def operNamesCard : Claim7 := { stood := { row := operNamesRow, standIns := [], harness := (true, "cd55da55ae9eb05d21fce411db722f1757bc07c9a8c87d674b82d458a156a31c"), looks := true }, kinds := [], alts := [], laidByText := true, laidKinds := [.data, .data, .data, .data, .sentinel, .sentinel, .pinned], laidTests := true, laidLooks := .later }
def OperNamesCardSaid : Prop := Claim7.holds Tryz.pinned (.plain (OpenSpec.ofChange operNamesSpec)) operNamesCard

/-- THE TIED CARD OF 'selkielaw11.OperDoes'. -/
def operDoesCard : Claim7 := { stood := { row := operDoesRow, standIns := [], harness := (true, "cd55da55ae9eb05d21fce411db722f1757bc07c9a8c87d674b82d458a156a31c"), looks := true }, kinds := [], alts := [], laidByText := true, laidKinds := [.data, .data, .data, .data, .sentinel, .sentinel, .pinned], laidTests := true, laidLooks := .later }
def OperDoesCardSaid : Prop := Claim7.holds Tryz.pinned (.plain (OpenSpec.ofChange operDoesSpec)) operDoesCard

/-- THE SECOND FORM's CARD OF 'selkielaw11.OperNames'. -/
def operNamesUptoCard : Claim7 := { stood := { row := operNamesUptoRow, standIns := [], harness := (true, "cd55da55ae9eb05d21fce411db722f1757bc07c9a8c87d674b82d458a156a31c"), looks := true }, kinds := [], alts := [], laidByText := true, laidKinds := [.data, .data, .data, .data, .sentinel, .sentinel, .pinned], laidTests := true, laidLooks := .later }
def OperNamesUptoCardSaid : Prop := Claim7.holds Tryz.pinned (.plain (OpenSpec.upto operNamesSpec)) operNamesUptoCard

/-- THE SECOND FORM's CARD OF 'selkielaw11.OperDoes'. -/
def operDoesUptoCard : Claim7 := { stood := { row := operDoesUptoRow, standIns := [], harness := (true, "cd55da55ae9eb05d21fce411db722f1757bc07c9a8c87d674b82d458a156a31c"), looks := true }, kinds := [], alts := [], laidByText := true, laidKinds := [.data, .data, .data, .data, .sentinel, .sentinel, .pinned], laidTests := true, laidLooks := .later }
def OperDoesUptoCardSaid : Prop := Claim7.holds Tryz.pinned (.plain (OpenSpec.upto operDoesSpec)) operDoesUptoCard
end Rows
end Go.Proofs.YtpgpmldaggpciaaGreatDoor
