/-
  DERIVED. GIVEN WITH THE SEED: THE CARDS: each row of YtclaoegdlibapaaDoorRows.lean that lists a variable, with what it lists TIED to the program's text (the seventh form; the later family's looks); each row that meets fmt, with fmt's text TOLD by the authors' own Lean function (tested against real Go, not proved from fmt's source: count such statements apart). THE CARD IS WHAT COUNTS. Prove the row's statement (the work); the ties are given (YtclaoegdlibapaaDoorTie.lean); close each card by the builder's one call (the guide's Derived/Test/ToyasCard.lean, 'card_holds'). Laid BY PROGRAM, IN A SANDBOX (cutbox-door.mjs). By AI agents, Wed Nov 11 2026. No macro, syntax, notation, axiom, sorry.
-/
import Derived.Test.YtclaoegdlibapaaDoorRows
import GoSem.ClaimSeven
namespace Go.Proofs.YtclaoegdlibapaaDoor
namespace Rows

/-- THE TIED CARD OF 'penancelaw3.TextKnown'. -/
def textKnownCard : Claim7 := { stood := { row := textKnownRow, standIns := [], harness := (true, "2f4b15c082df48b4ff3bf43cfffa5c980ff0f7b01fd6b36b942ffed9431165de"), looks := true }, kinds := [], alts := [], laidByText := true, laidKinds := [.data, .data, .data, .sentinel, .sentinel], laidTests := true, laidLooks := .later }
def TextKnownCardSaid : Prop := Claim7.holds Tryd.pinned (.plain (OpenSpec.ofChange textKnownSpec)) textKnownCard

/-- THE TIED CARD OF 'penancelaw3.TextDeep'. -/
def textDeepCard : Claim7 := { stood := { row := textDeepRow, standIns := [], harness := (true, "2f4b15c082df48b4ff3bf43cfffa5c980ff0f7b01fd6b36b942ffed9431165de"), looks := true }, kinds := [], alts := [], laidByText := true, laidKinds := [.data, .data, .data, .sentinel, .sentinel], laidTests := true, laidLooks := .later }
def TextDeepCardSaid : Prop := Claim7.holds Tryd.pinned (.plain (OpenSpec.ofChange textDeepSpec)) textDeepCard

/-- THE TIED CARD OF 'penancelaw3.TextValues'. -/
def textValuesCard : Claim7 := { stood := { row := textValuesRow, standIns := [], harness := (true, "2f4b15c082df48b4ff3bf43cfffa5c980ff0f7b01fd6b36b942ffed9431165de"), looks := true }, kinds := [], alts := [], laidByText := true, laidKinds := [.data, .data, .data, .sentinel, .sentinel], laidTests := true, laidLooks := .later }
def TextValuesCardSaid : Prop := Claim7.holds Tryd.pinned (.plain (OpenSpec.ofChange textValuesSpec)) textValuesCard

/-- THE SECOND FORM's CARD OF 'penancelaw3.TextKnown'. -/
def textKnownUptoCard : Claim7 := { stood := { row := textKnownUptoRow, standIns := [], harness := (true, "2f4b15c082df48b4ff3bf43cfffa5c980ff0f7b01fd6b36b942ffed9431165de"), looks := true }, kinds := [], alts := [], laidByText := true, laidKinds := [.data, .data, .data, .sentinel, .sentinel], laidTests := true, laidLooks := .later }
def TextKnownUptoCardSaid : Prop := Claim7.holds Tryd.pinned (.plain (OpenSpec.upto textKnownSpec)) textKnownUptoCard

/-- THE SECOND FORM's CARD OF 'penancelaw3.TextDeep'. -/
def textDeepUptoCard : Claim7 := { stood := { row := textDeepUptoRow, standIns := [], harness := (true, "2f4b15c082df48b4ff3bf43cfffa5c980ff0f7b01fd6b36b942ffed9431165de"), looks := true }, kinds := [], alts := [], laidByText := true, laidKinds := [.data, .data, .data, .sentinel, .sentinel], laidTests := true, laidLooks := .later }
def TextDeepUptoCardSaid : Prop := Claim7.holds Tryd.pinned (.plain (OpenSpec.upto textDeepSpec)) textDeepUptoCard

/-- THE SECOND FORM's CARD OF 'penancelaw3.TextValues'. -/
def textValuesUptoCard : Claim7 := { stood := { row := textValuesUptoRow, standIns := [], harness := (true, "2f4b15c082df48b4ff3bf43cfffa5c980ff0f7b01fd6b36b942ffed9431165de"), looks := true }, kinds := [], alts := [], laidByText := true, laidKinds := [.data, .data, .data, .sentinel, .sentinel], laidTests := true, laidLooks := .later }
def TextValuesUptoCardSaid : Prop := Claim7.holds Tryd.pinned (.plain (OpenSpec.upto textValuesSpec)) textValuesUptoCard
end Rows
end Go.Proofs.YtclaoegdlibapaaDoor
