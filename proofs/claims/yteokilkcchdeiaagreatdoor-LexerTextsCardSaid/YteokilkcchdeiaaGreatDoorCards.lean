/-
  DERIVED. GIVEN WITH THE SEED: THE CARDS: each row of YteokilkcchdeiaaGreatDoorRows.lean that lists a variable, with what it lists TIED to the program's text (the seventh form; the later family's looks); each row that meets fmt, with fmt's text TOLD by the authors' own Lean function (tested against real Go, not proved from fmt's source: count such statements apart). THE CARD IS WHAT COUNTS. Prove the row's statement (the work); the ties are given (YteokilkcchdeiaaGreatDoorTie.lean); close each card by the builder's one call (the guide's Derived/Test/ToyasCard.lean, 'card_holds'). Laid BY PROGRAM, IN A SANDBOX (cutbox-door.mjs). By AI agents, Wed Nov 11 2026. No macro, syntax, notation, axiom, sorry.
-/
import Derived.Test.YteokilkcchdeiaaGreatDoorRows
import GoSem.ClaimSeven
namespace Go.Proofs.YteokilkcchdeiaaGreatDoor
namespace Rows

/-- THE TIED CARD OF 'lookoutlaw42.LexerDurations'. -/
def lexerDurationsCard : Claim7 := { stood := { row := lexerDurationsRow, standIns := [], harness := (true, "0200fd026f4c598b55b61aed37141f6cf2a1fc5c48eec3bd4f29a19a9d83b5fa"), looks := true }, kinds := [], alts := [], laidByText := true, laidKinds := [.data, .data, .data, .data, .sentinel, .sentinel, .listed, .data, .pinned], laidTests := true, laidLooks := .later }
def LexerDurationsCardSaid : Prop := Claim7.holds Tryz.pinned (.plain (OpenSpec.ofChange lexerDurationsSpec)) lexerDurationsCard

/-- THE TIED CARD OF 'lookoutlaw42.LexerNumbers'. -/
def lexerNumbersCard : Claim7 := { stood := { row := lexerNumbersRow, standIns := [], harness := (true, "0200fd026f4c598b55b61aed37141f6cf2a1fc5c48eec3bd4f29a19a9d83b5fa"), looks := true }, kinds := [], alts := [], laidByText := true, laidKinds := [.data, .data, .data, .data, .sentinel, .sentinel, .listed, .data, .pinned], laidTests := true, laidLooks := .later }
def LexerNumbersCardSaid : Prop := Claim7.holds Tryz.pinned (.plain (OpenSpec.ofChange lexerNumbersSpec)) lexerNumbersCard

/-- THE TIED CARD OF 'lookoutlaw42.LexerConcat'. -/
def lexerConcatCard : Claim7 := { stood := { row := lexerConcatRow, standIns := [], harness := (true, "0200fd026f4c598b55b61aed37141f6cf2a1fc5c48eec3bd4f29a19a9d83b5fa"), looks := true }, kinds := [], alts := [], laidByText := true, laidKinds := [.data, .data, .data, .data, .sentinel, .sentinel, .listed, .data, .pinned], laidTests := true, laidLooks := .later }
def LexerConcatCardSaid : Prop := Claim7.holds Tryz.pinned (.plain (OpenSpec.ofChange lexerConcatSpec)) lexerConcatCard

/-- THE TIED CARD OF 'lookoutlaw42.LexerStrings'. -/
def lexerStringsCard : Claim7 := { stood := { row := lexerStringsRow, standIns := [], harness := (true, "0200fd026f4c598b55b61aed37141f6cf2a1fc5c48eec3bd4f29a19a9d83b5fa"), looks := true }, kinds := [], alts := [], laidByText := true, laidKinds := [.data, .data, .data, .data, .sentinel, .sentinel, .listed, .data, .pinned], laidTests := true, laidLooks := .later }
def LexerStringsCardSaid : Prop := Claim7.holds Tryz.pinned (.plain (OpenSpec.ofChange lexerStringsSpec)) lexerStringsCard

/-- THE TIED CARD OF 'lookoutlaw42.LexerTexts'. -/
def lexerTextsCard : Claim7 := { stood := { row := lexerTextsRow, standIns := [], harness := (true, "0200fd026f4c598b55b61aed37141f6cf2a1fc5c48eec3bd4f29a19a9d83b5fa"), looks := true }, kinds := [], alts := [], laidByText := true, laidKinds := [.data, .data, .data, .data, .sentinel, .sentinel, .listed, .data, .pinned], laidTests := true, laidLooks := .later }
def LexerTextsCardSaid : Prop := Claim7.holds Tryz.pinned (.plain (OpenSpec.ofChange lexerTextsSpec)) lexerTextsCard

/-- THE TIED CARD OF 'lookoutlaw42.LexerLines'. -/
def lexerLinesCard : Claim7 := { stood := { row := lexerLinesRow, standIns := [], harness := (true, "0200fd026f4c598b55b61aed37141f6cf2a1fc5c48eec3bd4f29a19a9d83b5fa"), looks := true }, kinds := [], alts := [], laidByText := true, laidKinds := [.data, .data, .data, .data, .sentinel, .sentinel, .listed, .data, .pinned], laidTests := true, laidLooks := .later }
def LexerLinesCardSaid : Prop := Claim7.holds Tryz.pinned (.plain (OpenSpec.ofChange lexerLinesSpec)) lexerLinesCard

/-- THE TIED CARD OF 'lookoutlaw42.LexerPlaces'. -/
def lexerPlacesCard : Claim7 := { stood := { row := lexerPlacesRow, standIns := [], harness := (true, "0200fd026f4c598b55b61aed37141f6cf2a1fc5c48eec3bd4f29a19a9d83b5fa"), looks := true }, kinds := [], alts := [], laidByText := true, laidKinds := [.data, .data, .data, .data, .sentinel, .sentinel, .listed, .data, .pinned], laidTests := true, laidLooks := .later }
def LexerPlacesCardSaid : Prop := Claim7.holds Tryz.pinned (.plain (OpenSpec.ofChange lexerPlacesSpec)) lexerPlacesCard

/-- THE SECOND FORM's CARD OF 'lookoutlaw42.LexerDurations'. -/
def lexerDurationsUptoCard : Claim7 := { stood := { row := lexerDurationsUptoRow, standIns := [], harness := (true, "0200fd026f4c598b55b61aed37141f6cf2a1fc5c48eec3bd4f29a19a9d83b5fa"), looks := true }, kinds := [], alts := [], laidByText := true, laidKinds := [.data, .data, .data, .data, .sentinel, .sentinel, .listed, .data, .pinned], laidTests := true, laidLooks := .later }
def LexerDurationsUptoCardSaid : Prop := Claim7.holds Tryz.pinned (.plain (OpenSpec.upto lexerDurationsSpec)) lexerDurationsUptoCard

/-- THE SECOND FORM's CARD OF 'lookoutlaw42.LexerNumbers'. -/
def lexerNumbersUptoCard : Claim7 := { stood := { row := lexerNumbersUptoRow, standIns := [], harness := (true, "0200fd026f4c598b55b61aed37141f6cf2a1fc5c48eec3bd4f29a19a9d83b5fa"), looks := true }, kinds := [], alts := [], laidByText := true, laidKinds := [.data, .data, .data, .data, .sentinel, .sentinel, .listed, .data, .pinned], laidTests := true, laidLooks := .later }
def LexerNumbersUptoCardSaid : Prop := Claim7.holds Tryz.pinned (.plain (OpenSpec.upto lexerNumbersSpec)) lexerNumbersUptoCard

/-- THE SECOND FORM's CARD OF 'lookoutlaw42.LexerConcat'. -/
def lexerConcatUptoCard : Claim7 := { stood := { row := lexerConcatUptoRow, standIns := [], harness := (true, "0200fd026f4c598b55b61aed37141f6cf2a1fc5c48eec3bd4f29a19a9d83b5fa"), looks := true }, kinds := [], alts := [], laidByText := true, laidKinds := [.data, .data, .data, .data, .sentinel, .sentinel, .listed, .data, .pinned], laidTests := true, laidLooks := .later }
def LexerConcatUptoCardSaid : Prop := Claim7.holds Tryz.pinned (.plain (OpenSpec.upto lexerConcatSpec)) lexerConcatUptoCard

/-- THE SECOND FORM's CARD OF 'lookoutlaw42.LexerStrings'. -/
def lexerStringsUptoCard : Claim7 := { stood := { row := lexerStringsUptoRow, standIns := [], harness := (true, "0200fd026f4c598b55b61aed37141f6cf2a1fc5c48eec3bd4f29a19a9d83b5fa"), looks := true }, kinds := [], alts := [], laidByText := true, laidKinds := [.data, .data, .data, .data, .sentinel, .sentinel, .listed, .data, .pinned], laidTests := true, laidLooks := .later }
def LexerStringsUptoCardSaid : Prop := Claim7.holds Tryz.pinned (.plain (OpenSpec.upto lexerStringsSpec)) lexerStringsUptoCard

/-- THE SECOND FORM's CARD OF 'lookoutlaw42.LexerTexts'. -/
def lexerTextsUptoCard : Claim7 := { stood := { row := lexerTextsUptoRow, standIns := [], harness := (true, "0200fd026f4c598b55b61aed37141f6cf2a1fc5c48eec3bd4f29a19a9d83b5fa"), looks := true }, kinds := [], alts := [], laidByText := true, laidKinds := [.data, .data, .data, .data, .sentinel, .sentinel, .listed, .data, .pinned], laidTests := true, laidLooks := .later }
def LexerTextsUptoCardSaid : Prop := Claim7.holds Tryz.pinned (.plain (OpenSpec.upto lexerTextsSpec)) lexerTextsUptoCard

/-- THE SECOND FORM's CARD OF 'lookoutlaw42.LexerLines'. -/
def lexerLinesUptoCard : Claim7 := { stood := { row := lexerLinesUptoRow, standIns := [], harness := (true, "0200fd026f4c598b55b61aed37141f6cf2a1fc5c48eec3bd4f29a19a9d83b5fa"), looks := true }, kinds := [], alts := [], laidByText := true, laidKinds := [.data, .data, .data, .data, .sentinel, .sentinel, .listed, .data, .pinned], laidTests := true, laidLooks := .later }
def LexerLinesUptoCardSaid : Prop := Claim7.holds Tryz.pinned (.plain (OpenSpec.upto lexerLinesSpec)) lexerLinesUptoCard

/-- THE SECOND FORM's CARD OF 'lookoutlaw42.LexerPlaces'. -/
def lexerPlacesUptoCard : Claim7 := { stood := { row := lexerPlacesUptoRow, standIns := [], harness := (true, "0200fd026f4c598b55b61aed37141f6cf2a1fc5c48eec3bd4f29a19a9d83b5fa"), looks := true }, kinds := [], alts := [], laidByText := true, laidKinds := [.data, .data, .data, .data, .sentinel, .sentinel, .listed, .data, .pinned], laidTests := true, laidLooks := .later }
def LexerPlacesUptoCardSaid : Prop := Claim7.holds Tryz.pinned (.plain (OpenSpec.upto lexerPlacesSpec)) lexerPlacesUptoCard
end Rows
end Go.Proofs.YteokilkcchdeiaaGreatDoor
