/-
  DERIVED. GIVEN WITH THE SEED: THE CARDS: each row of YthfjdhanbegaoaaGreatDoorRows.lean that lists a variable, with what it lists TIED to the program's text (the seventh form; the later family's looks); each row that meets fmt, with fmt's text TOLD by the authors' own Lean function (tested against real Go, not proved from fmt's source: count such statements apart). THE CARD IS WHAT COUNTS. Prove the row's statement (the work); the ties are given (YthfjdhanbegaoaaGreatDoorTie.lean); close each card by the builder's one call (the guide's Derived/Test/ToyasCard.lean, 'card_holds'). Laid BY PROGRAM, IN A SANDBOX (cutbox-door.mjs). By AI agents, Wed Nov 11 2026. No macro, syntax, notation, axiom, sorry.
-/
import Derived.Test.YthfjdhanbegaoaaGreatDoorRows
import GoSem.ClaimSeven
namespace Go.Proofs.YthfjdhanbegaoaaGreatDoor
namespace Rows

/-- THE TIED CARD OF 'backstaylaw04.TextPrints'. -/
def textPrintsCard : Claim7 := { stood := { row := textPrintsRow, standIns := [], harness := (true, "fa348569fbb1f7b46a555a7cabc7f1ffdb478787e87703484432c657d4d340e8"), looks := true }, kinds := [], alts := [], laidByText := true, laidKinds := [.data, .data, .data, .data, .sentinel, .sentinel, .pinned], laidTests := true, laidLooks := .later }
def TextPrintsCardSaid : Prop := Claim7.holds Tryz.pinned (.plain (OpenSpec.ofChange textPrintsSpec)) textPrintsCard

/-- THE TIED CARD OF 'backstaylaw04.TextParses'. -/
def textParsesCard : Claim7 := { stood := { row := textParsesRow, standIns := [], harness := (true, "fa348569fbb1f7b46a555a7cabc7f1ffdb478787e87703484432c657d4d340e8"), looks := true }, kinds := [], alts := [], laidByText := true, laidKinds := [.data, .data, .data, .data, .sentinel, .sentinel, .pinned], laidTests := true, laidLooks := .later }
def TextParsesCardSaid : Prop := Claim7.holds Tryz.pinned (.plain (OpenSpec.ofChange textParsesSpec)) textParsesCard

/-- THE TIED CARD OF 'backstaylaw04.TextSpoils'. -/
def textSpoilsCard : Claim7 := { stood := { row := textSpoilsRow, standIns := [], harness := (true, "fa348569fbb1f7b46a555a7cabc7f1ffdb478787e87703484432c657d4d340e8"), looks := true }, kinds := [], alts := [], laidByText := true, laidKinds := [.data, .data, .data, .data, .sentinel, .sentinel, .pinned], laidTests := true, laidLooks := .later }
def TextSpoilsCardSaid : Prop := Claim7.holds Tryz.pinned (.plain (OpenSpec.ofChange textSpoilsSpec)) textSpoilsCard

/-- THE TIED CARD OF 'backstaylaw04.TextNames'. -/
def textNamesCard : Claim7 := { stood := { row := textNamesRow, standIns := [], harness := (true, "fa348569fbb1f7b46a555a7cabc7f1ffdb478787e87703484432c657d4d340e8"), looks := true }, kinds := [], alts := [], laidByText := true, laidKinds := [.data, .data, .data, .data, .sentinel, .sentinel, .pinned], laidTests := true, laidLooks := .later }
def TextNamesCardSaid : Prop := Claim7.holds Tryz.pinned (.plain (OpenSpec.ofChange textNamesSpec)) textNamesCard

/-- THE TIED CARD OF 'backstaylaw04.TextDiffers'. -/
def textDiffersCard : Claim7 := { stood := { row := textDiffersRow, standIns := [], harness := (true, "fa348569fbb1f7b46a555a7cabc7f1ffdb478787e87703484432c657d4d340e8"), looks := true }, kinds := [], alts := [], laidByText := true, laidKinds := [.data, .data, .data, .data, .sentinel, .sentinel, .pinned], laidTests := true, laidLooks := .later }
def TextDiffersCardSaid : Prop := Claim7.holds Tryz.pinned (.plain (OpenSpec.ofChange textDiffersSpec)) textDiffersCard

/-- THE TIED CARD OF 'backstaylaw04.TextCounts'. -/
def textCountsCard : Claim7 := { stood := { row := textCountsRow, standIns := [], harness := (true, "fa348569fbb1f7b46a555a7cabc7f1ffdb478787e87703484432c657d4d340e8"), looks := true }, kinds := [], alts := [], laidByText := true, laidKinds := [.data, .data, .data, .data, .sentinel, .sentinel, .pinned], laidTests := true, laidLooks := .later }
def TextCountsCardSaid : Prop := Claim7.holds Tryz.pinned (.plain (OpenSpec.ofChange textCountsSpec)) textCountsCard

/-- THE TIED CARD OF 'backstaylaw04.TextLines'. -/
def textLinesCard : Claim7 := { stood := { row := textLinesRow, standIns := [], harness := (true, "fa348569fbb1f7b46a555a7cabc7f1ffdb478787e87703484432c657d4d340e8"), looks := true }, kinds := [], alts := [], laidByText := true, laidKinds := [.data, .data, .data, .data, .sentinel, .sentinel, .pinned], laidTests := true, laidLooks := .later }
def TextLinesCardSaid : Prop := Claim7.holds Tryz.pinned (.plain (OpenSpec.ofChange textLinesSpec)) textLinesCard

/-- THE SECOND FORM's CARD OF 'backstaylaw04.TextPrints'. -/
def textPrintsUptoCard : Claim7 := { stood := { row := textPrintsUptoRow, standIns := [], harness := (true, "fa348569fbb1f7b46a555a7cabc7f1ffdb478787e87703484432c657d4d340e8"), looks := true }, kinds := [], alts := [], laidByText := true, laidKinds := [.data, .data, .data, .data, .sentinel, .sentinel, .pinned], laidTests := true, laidLooks := .later }
def TextPrintsUptoCardSaid : Prop := Claim7.holds Tryz.pinned (.plain (OpenSpec.upto textPrintsSpec)) textPrintsUptoCard

/-- THE SECOND FORM's CARD OF 'backstaylaw04.TextParses'. -/
def textParsesUptoCard : Claim7 := { stood := { row := textParsesUptoRow, standIns := [], harness := (true, "fa348569fbb1f7b46a555a7cabc7f1ffdb478787e87703484432c657d4d340e8"), looks := true }, kinds := [], alts := [], laidByText := true, laidKinds := [.data, .data, .data, .data, .sentinel, .sentinel, .pinned], laidTests := true, laidLooks := .later }
def TextParsesUptoCardSaid : Prop := Claim7.holds Tryz.pinned (.plain (OpenSpec.upto textParsesSpec)) textParsesUptoCard

/-- THE SECOND FORM's CARD OF 'backstaylaw04.TextSpoils'. -/
def textSpoilsUptoCard : Claim7 := { stood := { row := textSpoilsUptoRow, standIns := [], harness := (true, "fa348569fbb1f7b46a555a7cabc7f1ffdb478787e87703484432c657d4d340e8"), looks := true }, kinds := [], alts := [], laidByText := true, laidKinds := [.data, .data, .data, .data, .sentinel, .sentinel, .pinned], laidTests := true, laidLooks := .later }
def TextSpoilsUptoCardSaid : Prop := Claim7.holds Tryz.pinned (.plain (OpenSpec.upto textSpoilsSpec)) textSpoilsUptoCard

/-- THE SECOND FORM's CARD OF 'backstaylaw04.TextNames'. -/
def textNamesUptoCard : Claim7 := { stood := { row := textNamesUptoRow, standIns := [], harness := (true, "fa348569fbb1f7b46a555a7cabc7f1ffdb478787e87703484432c657d4d340e8"), looks := true }, kinds := [], alts := [], laidByText := true, laidKinds := [.data, .data, .data, .data, .sentinel, .sentinel, .pinned], laidTests := true, laidLooks := .later }
def TextNamesUptoCardSaid : Prop := Claim7.holds Tryz.pinned (.plain (OpenSpec.upto textNamesSpec)) textNamesUptoCard

/-- THE SECOND FORM's CARD OF 'backstaylaw04.TextDiffers'. -/
def textDiffersUptoCard : Claim7 := { stood := { row := textDiffersUptoRow, standIns := [], harness := (true, "fa348569fbb1f7b46a555a7cabc7f1ffdb478787e87703484432c657d4d340e8"), looks := true }, kinds := [], alts := [], laidByText := true, laidKinds := [.data, .data, .data, .data, .sentinel, .sentinel, .pinned], laidTests := true, laidLooks := .later }
def TextDiffersUptoCardSaid : Prop := Claim7.holds Tryz.pinned (.plain (OpenSpec.upto textDiffersSpec)) textDiffersUptoCard

/-- THE SECOND FORM's CARD OF 'backstaylaw04.TextCounts'. -/
def textCountsUptoCard : Claim7 := { stood := { row := textCountsUptoRow, standIns := [], harness := (true, "fa348569fbb1f7b46a555a7cabc7f1ffdb478787e87703484432c657d4d340e8"), looks := true }, kinds := [], alts := [], laidByText := true, laidKinds := [.data, .data, .data, .data, .sentinel, .sentinel, .pinned], laidTests := true, laidLooks := .later }
def TextCountsUptoCardSaid : Prop := Claim7.holds Tryz.pinned (.plain (OpenSpec.upto textCountsSpec)) textCountsUptoCard

/-- THE SECOND FORM's CARD OF 'backstaylaw04.TextLines'. -/
def textLinesUptoCard : Claim7 := { stood := { row := textLinesUptoRow, standIns := [], harness := (true, "fa348569fbb1f7b46a555a7cabc7f1ffdb478787e87703484432c657d4d340e8"), looks := true }, kinds := [], alts := [], laidByText := true, laidKinds := [.data, .data, .data, .data, .sentinel, .sentinel, .pinned], laidTests := true, laidLooks := .later }
def TextLinesUptoCardSaid : Prop := Claim7.holds Tryz.pinned (.plain (OpenSpec.upto textLinesSpec)) textLinesUptoCard
end Rows
end Go.Proofs.YthfjdhanbegaoaaGreatDoor
