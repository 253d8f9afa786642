/-
  DERIVED. GIVEN WITH THE SEED: THE CARDS: each row of YtbmenmcjlidadaaDoorRows.lean that lists a variable, with what it lists TIED to the program's text (the seventh form; the later family's looks); each row that meets fmt, with fmt's text TOLD by the authors' own Lean function (tested against real Go, not proved from fmt's source: count such statements apart). THE CARD IS WHAT COUNTS. Prove the row's statement (the work); the ties are given (YtbmenmcjlidadaaDoorTie.lean); close each card by the builder's one call (the guide's Derived/Test/ToyasCard.lean, 'card_holds'). Laid BY PROGRAM, IN A SANDBOX (cutbox-door.mjs). By AI agents, Wed Nov 11 2026. No macro, syntax, notation, axiom, sorry.
-/
import Derived.Test.YtbmenmcjlidadaaDoorRows
import GoSem.ClaimSeven
namespace Go.Proofs.YtbmenmcjlidadaaDoor
namespace Rows

/-- THE TIED CARD OF 'selkielaw01.ValueAsks'. -/
def valueAsksCard : Claim7 := { stood := { row := valueAsksRow, standIns := [], harness := (true, "0dbcf767f8d4db7817a90ed23a4d3e7164d95abf7f5c751e369eb11857f05a9b"), looks := false }, kinds := [], alts := [], laidByText := true, laidKinds := [.data, .data, .data], laidTests := true, laidLooks := .later }
def ValueAsksCardSaid : Prop := Claim7.holds Tryd.pinned (.plain (OpenSpec.ofChange valueAsksSpec)) valueAsksCard

/-- THE TIED CARD OF 'selkielaw01.ValuePairs'. -/
def valuePairsCard : Claim7 := { stood := { row := valuePairsRow, standIns := [], harness := (true, "0dbcf767f8d4db7817a90ed23a4d3e7164d95abf7f5c751e369eb11857f05a9b"), looks := false }, kinds := [], alts := [], laidByText := true, laidKinds := [.data, .data, .data], laidTests := true, laidLooks := .later }
def ValuePairsCardSaid : Prop := Claim7.holds Tryd.pinned (.plain (OpenSpec.ofChange valuePairsSpec)) valuePairsCard

/-- THE TIED CARD OF 'selkielaw01.ValueEquals'. -/
def valueEqualsCard : Claim7 := { stood := { row := valueEqualsRow, standIns := [], harness := (true, "0dbcf767f8d4db7817a90ed23a4d3e7164d95abf7f5c751e369eb11857f05a9b"), looks := false }, kinds := [], alts := [], laidByText := true, laidKinds := [.data, .data, .data], laidTests := true, laidLooks := .later }
def ValueEqualsCardSaid : Prop := Claim7.holds Tryd.pinned (.plain (OpenSpec.ofChange valueEqualsSpec)) valueEqualsCard

/-- THE TIED CARD OF 'selkielaw01.ValueOrder'. -/
def valueOrderCard : Claim7 := { stood := { row := valueOrderRow, standIns := [], harness := (true, "0dbcf767f8d4db7817a90ed23a4d3e7164d95abf7f5c751e369eb11857f05a9b"), looks := false }, kinds := [], alts := [], laidByText := true, laidKinds := [.data, .data, .data], laidTests := true, laidLooks := .later }
def ValueOrderCardSaid : Prop := Claim7.holds Tryd.pinned (.plain (OpenSpec.ofChange valueOrderSpec)) valueOrderCard

/-- THE TIED CARD OF 'selkielaw01.ValueMade'. -/
def valueMadeCard : Claim7 := { stood := { row := valueMadeRow, standIns := [], harness := (true, "0dbcf767f8d4db7817a90ed23a4d3e7164d95abf7f5c751e369eb11857f05a9b"), looks := false }, kinds := [], alts := [], laidByText := true, laidKinds := [.data, .data, .data], laidTests := true, laidLooks := .later }
def ValueMadeCardSaid : Prop := Claim7.holds Tryd.pinned (.plain (OpenSpec.ofChange valueMadeSpec)) valueMadeCard

/-- THE SECOND FORM's CARD OF 'selkielaw01.ValueAsks'. -/
def valueAsksUptoCard : Claim7 := { stood := { row := valueAsksUptoRow, standIns := [], harness := (true, "0dbcf767f8d4db7817a90ed23a4d3e7164d95abf7f5c751e369eb11857f05a9b"), looks := false }, kinds := [], alts := [], laidByText := true, laidKinds := [.data, .data, .data], laidTests := true, laidLooks := .later }
def ValueAsksUptoCardSaid : Prop := Claim7.holds Tryd.pinned (.plain (OpenSpec.upto valueAsksSpec)) valueAsksUptoCard

/-- THE SECOND FORM's CARD OF 'selkielaw01.ValuePairs'. -/
def valuePairsUptoCard : Claim7 := { stood := { row := valuePairsUptoRow, standIns := [], harness := (true, "0dbcf767f8d4db7817a90ed23a4d3e7164d95abf7f5c751e369eb11857f05a9b"), looks := false }, kinds := [], alts := [], laidByText := true, laidKinds := [.data, .data, .data], laidTests := true, laidLooks := .later }
def ValuePairsUptoCardSaid : Prop := Claim7.holds Tryd.pinned (.plain (OpenSpec.upto valuePairsSpec)) valuePairsUptoCard

/-- THE SECOND FORM's CARD OF 'selkielaw01.ValueEquals'. -/
def valueEqualsUptoCard : Claim7 := { stood := { row := valueEqualsUptoRow, standIns := [], harness := (true, "0dbcf767f8d4db7817a90ed23a4d3e7164d95abf7f5c751e369eb11857f05a9b"), looks := false }, kinds := [], alts := [], laidByText := true, laidKinds := [.data, .data, .data], laidTests := true, laidLooks := .later }
def ValueEqualsUptoCardSaid : Prop := Claim7.holds Tryd.pinned (.plain (OpenSpec.upto valueEqualsSpec)) valueEqualsUptoCard

/-- THE SECOND FORM's CARD OF 'selkielaw01.ValueOrder'. -/
def valueOrderUptoCard : Claim7 := { stood := { row := valueOrderUptoRow, standIns := [], harness := (true, "0dbcf767f8d4db7817a90ed23a4d3e7164d95abf7f5c751e369eb11857f05a9b"), looks := false }, kinds := [], alts := [], laidByText := true, laidKinds := [.data, .data, .data], laidTests := true, laidLooks := .later }
def ValueOrderUptoCardSaid : Prop := Claim7.holds Tryd.pinned (.plain (OpenSpec.upto valueOrderSpec)) valueOrderUptoCard

/-- THE SECOND FORM's CARD OF 'selkielaw01.ValueMade'. -/
def valueMadeUptoCard : Claim7 := { stood := { row := valueMadeUptoRow, standIns := [], harness := (true, "0dbcf767f8d4db7817a90ed23a4d3e7164d95abf7f5c751e369eb11857f05a9b"), looks := false }, kinds := [], alts := [], laidByText := true, laidKinds := [.data, .data, .data], laidTests := true, laidLooks := .later }
def ValueMadeUptoCardSaid : Prop := Claim7.holds Tryd.pinned (.plain (OpenSpec.upto valueMadeSpec)) valueMadeUptoCard
end Rows
end Go.Proofs.YtbmenmcjlidadaaDoor
