/-
  DERIVED. GIVEN WITH THE SEED: THE CARDS: each row of YtnnhlphbfpnaaaaGreatDoorRows.lean that lists a variable, with what it lists TIED to the program's text (the seventh form; the later family's looks); each row that meets fmt, with fmt's text TOLD by the authors' own Lean function (tested against real Go, not proved from fmt's source: count such statements apart). THE CARD IS WHAT COUNTS. Prove the row's statement (the work); the ties are given (YtnnhlphbfpnaaaaGreatDoorTie.lean); close each card by the builder's one call (the guide's Derived/Test/ToyasCard.lean, 'card_holds'). Laid BY PROGRAM, IN A SANDBOX (cutbox-door.mjs). By AI agents, Wed Nov 11 2026. No macro, syntax, notation, axiom, sorry.
-/
import Derived.Test.YtnnhlphbfpnaaaaGreatDoorRows
import GoSem.ClaimSeven
namespace Go.Proofs.YtnnhlphbfpnaaaaGreatDoor
namespace Rows

/-- THE TIED CARD OF 'lookoutlaw34.AlgebraCheck'. -/
def algebraCheckCard : Claim7 := { stood := { row := algebraCheckRow, standIns := [], harness := (true, "caa00eb1ab7c7ec8d42c85b54d017d83258e69cc73c25b2dea4903b8e8413f4e"), looks := true }, kinds := [], alts := [], laidByText := true, laidKinds := [.data, .data, .data, .sentinel, .sentinel, .listed, .data], laidTests := true, laidLooks := .later }
def AlgebraCheckCardSaid : Prop := Claim7.holds Tryz.pinned (.plain (OpenSpec.ofChange algebraCheckSpec)) algebraCheckCard

/-- THE TIED CARD OF 'lookoutlaw34.AlgebraPatterns'. -/
def algebraPatternsCard : Claim7 := { stood := { row := algebraPatternsRow, standIns := [], harness := (true, "caa00eb1ab7c7ec8d42c85b54d017d83258e69cc73c25b2dea4903b8e8413f4e"), looks := true }, kinds := [], alts := [], laidByText := true, laidKinds := [.data, .data, .data, .sentinel, .sentinel, .listed, .data], laidTests := true, laidLooks := .later }
def AlgebraPatternsCardSaid : Prop := Claim7.holds Tryz.pinned (.plain (OpenSpec.ofChange algebraPatternsSpec)) algebraPatternsCard

/-- THE TIED CARD OF 'lookoutlaw34.AlgebraPrint'. -/
def algebraPrintCard : Claim7 := { stood := { row := algebraPrintRow, standIns := [], harness := (true, "caa00eb1ab7c7ec8d42c85b54d017d83258e69cc73c25b2dea4903b8e8413f4e"), looks := true }, kinds := [], alts := [], laidByText := true, laidKinds := [.data, .data, .data, .sentinel, .sentinel, .listed, .data], laidTests := true, laidLooks := .later }
def AlgebraPrintCardSaid : Prop := Claim7.holds Tryz.pinned (.plain (OpenSpec.ofChange algebraPrintSpec)) algebraPrintCard

/-- THE TIED CARD OF 'lookoutlaw34.AlgebraParse'. -/
def algebraParseCard : Claim7 := { stood := { row := algebraParseRow, standIns := [], harness := (true, "caa00eb1ab7c7ec8d42c85b54d017d83258e69cc73c25b2dea4903b8e8413f4e"), looks := true }, kinds := [], alts := [], laidByText := true, laidKinds := [.data, .data, .data, .sentinel, .sentinel, .listed, .data], laidTests := true, laidLooks := .later }
def AlgebraParseCardSaid : Prop := Claim7.holds Tryz.pinned (.plain (OpenSpec.ofChange algebraParseSpec)) algebraParseCard

/-- THE TIED CARD OF 'lookoutlaw34.AlgebraRoundTrip'. -/
def algebraRoundTripCard : Claim7 := { stood := { row := algebraRoundTripRow, standIns := [], harness := (true, "caa00eb1ab7c7ec8d42c85b54d017d83258e69cc73c25b2dea4903b8e8413f4e"), looks := true }, kinds := [], alts := [], laidByText := true, laidKinds := [.data, .data, .data, .sentinel, .sentinel, .listed, .data], laidTests := true, laidLooks := .later }
def AlgebraRoundTripCardSaid : Prop := Claim7.holds Tryz.pinned (.plain (OpenSpec.ofChange algebraRoundTripSpec)) algebraRoundTripCard

/-- THE TIED CARD OF 'lookoutlaw34.AlgebraCanonical'. -/
def algebraCanonicalCard : Claim7 := { stood := { row := algebraCanonicalRow, standIns := [], harness := (true, "caa00eb1ab7c7ec8d42c85b54d017d83258e69cc73c25b2dea4903b8e8413f4e"), looks := true }, kinds := [], alts := [], laidByText := true, laidKinds := [.data, .data, .data, .sentinel, .sentinel, .listed, .data], laidTests := true, laidLooks := .later }
def AlgebraCanonicalCardSaid : Prop := Claim7.holds Tryz.pinned (.plain (OpenSpec.ofChange algebraCanonicalSpec)) algebraCanonicalCard

/-- THE TIED CARD OF 'lookoutlaw34.AlgebraParts'. -/
def algebraPartsCard : Claim7 := { stood := { row := algebraPartsRow, standIns := [], harness := (true, "caa00eb1ab7c7ec8d42c85b54d017d83258e69cc73c25b2dea4903b8e8413f4e"), looks := true }, kinds := [], alts := [], laidByText := true, laidKinds := [.data, .data, .data, .sentinel, .sentinel, .listed, .data], laidTests := true, laidLooks := .later }
def AlgebraPartsCardSaid : Prop := Claim7.holds Tryz.pinned (.plain (OpenSpec.ofChange algebraPartsSpec)) algebraPartsCard

/-- THE TIED CARD OF 'lookoutlaw34.AlgebraCombines'. -/
def algebraCombinesCard : Claim7 := { stood := { row := algebraCombinesRow, standIns := [], harness := (true, "caa00eb1ab7c7ec8d42c85b54d017d83258e69cc73c25b2dea4903b8e8413f4e"), looks := true }, kinds := [], alts := [], laidByText := true, laidKinds := [.data, .data, .data, .sentinel, .sentinel, .listed, .data], laidTests := true, laidLooks := .later }
def AlgebraCombinesCardSaid : Prop := Claim7.holds Tryz.pinned (.plain (OpenSpec.ofChange algebraCombinesSpec)) algebraCombinesCard

/-- THE TIED CARD OF 'lookoutlaw34.AlgebraEquals'. -/
def algebraEqualsCard : Claim7 := { stood := { row := algebraEqualsRow, standIns := [], harness := (true, "caa00eb1ab7c7ec8d42c85b54d017d83258e69cc73c25b2dea4903b8e8413f4e"), looks := true }, kinds := [], alts := [], laidByText := true, laidKinds := [.data, .data, .data, .sentinel, .sentinel, .listed, .data], laidTests := true, laidLooks := .later }
def AlgebraEqualsCardSaid : Prop := Claim7.holds Tryz.pinned (.plain (OpenSpec.ofChange algebraEqualsSpec)) algebraEqualsCard

/-- THE TIED CARD OF 'lookoutlaw34.AlgebraLeaves'. -/
def algebraLeavesCard : Claim7 := { stood := { row := algebraLeavesRow, standIns := [], harness := (true, "caa00eb1ab7c7ec8d42c85b54d017d83258e69cc73c25b2dea4903b8e8413f4e"), looks := true }, kinds := [], alts := [], laidByText := true, laidKinds := [.data, .data, .data, .sentinel, .sentinel, .listed, .data], laidTests := true, laidLooks := .later }
def AlgebraLeavesCardSaid : Prop := Claim7.holds Tryz.pinned (.plain (OpenSpec.ofChange algebraLeavesSpec)) algebraLeavesCard

/-- THE SECOND FORM's CARD OF 'lookoutlaw34.AlgebraCheck'. -/
def algebraCheckUptoCard : Claim7 := { stood := { row := algebraCheckUptoRow, standIns := [], harness := (true, "caa00eb1ab7c7ec8d42c85b54d017d83258e69cc73c25b2dea4903b8e8413f4e"), looks := true }, kinds := [], alts := [], laidByText := true, laidKinds := [.data, .data, .data, .sentinel, .sentinel, .listed, .data], laidTests := true, laidLooks := .later }
def AlgebraCheckUptoCardSaid : Prop := Claim7.holds Tryz.pinned (.plain (OpenSpec.upto algebraCheckSpec)) algebraCheckUptoCard

/-- THE SECOND FORM's CARD OF 'lookoutlaw34.AlgebraPatterns'. -/
def algebraPatternsUptoCard : Claim7 := { stood := { row := algebraPatternsUptoRow, standIns := [], harness := (true, "caa00eb1ab7c7ec8d42c85b54d017d83258e69cc73c25b2dea4903b8e8413f4e"), looks := true }, kinds := [], alts := [], laidByText := true, laidKinds := [.data, .data, .data, .sentinel, .sentinel, .listed, .data], laidTests := true, laidLooks := .later }
def AlgebraPatternsUptoCardSaid : Prop := Claim7.holds Tryz.pinned (.plain (OpenSpec.upto algebraPatternsSpec)) algebraPatternsUptoCard

/-- THE SECOND FORM's CARD OF 'lookoutlaw34.AlgebraPrint'. -/
def algebraPrintUptoCard : Claim7 := { stood := { row := algebraPrintUptoRow, standIns := [], harness := (true, "caa00eb1ab7c7ec8d42c85b54d017d83258e69cc73c25b2dea4903b8e8413f4e"), looks := true }, kinds := [], alts := [], laidByText := true, laidKinds := [.data, .data, .data, .sentinel, .sentinel, .listed, .data], laidTests := true, laidLooks := .later }
def AlgebraPrintUptoCardSaid : Prop := Claim7.holds Tryz.pinned (.plain (OpenSpec.upto algebraPrintSpec)) algebraPrintUptoCard

/-- THE SECOND FORM's CARD OF 'lookoutlaw34.AlgebraParse'. -/
def algebraParseUptoCard : Claim7 := { stood := { row := algebraParseUptoRow, standIns := [], harness := (true, "caa00eb1ab7c7ec8d42c85b54d017d83258e69cc73c25b2dea4903b8e8413f4e"), looks := true }, kinds := [], alts := [], laidByText := true, laidKinds := [.data, .data, .data, .sentinel, .sentinel, .listed, .data], laidTests := true, laidLooks := .later }
def AlgebraParseUptoCardSaid : Prop := Claim7.holds Tryz.pinned (.plain (OpenSpec.upto algebraParseSpec)) algebraParseUptoCard

/-- THE SECOND FORM's CARD OF 'lookoutlaw34.AlgebraRoundTrip'. -/
def algebraRoundTripUptoCard : Claim7 := { stood := { row := algebraRoundTripUptoRow, standIns := [], harness := (true, "caa00eb1ab7c7ec8d42c85b54d017d83258e69cc73c25b2dea4903b8e8413f4e"), looks := true }, kinds := [], alts := [], laidByText := true, laidKinds := [.data, .data, .data, .sentinel, .sentinel, .listed, .data], laidTests := true, laidLooks := .later }
def AlgebraRoundTripUptoCardSaid : Prop := Claim7.holds Tryz.pinned (.plain (OpenSpec.upto algebraRoundTripSpec)) algebraRoundTripUptoCard

/-- THE SECOND FORM's CARD OF 'lookoutlaw34.AlgebraCanonical'. -/
def algebraCanonicalUptoCard : Claim7 := { stood := { row := algebraCanonicalUptoRow, standIns := [], harness := (true, "caa00eb1ab7c7ec8d42c85b54d017d83258e69cc73c25b2dea4903b8e8413f4e"), looks := true }, kinds := [], alts := [], laidByText := true, laidKinds := [.data, .data, .data, .sentinel, .sentinel, .listed, .data], laidTests := true, laidLooks := .later }
def AlgebraCanonicalUptoCardSaid : Prop := Claim7.holds Tryz.pinned (.plain (OpenSpec.upto algebraCanonicalSpec)) algebraCanonicalUptoCard

/-- THE SECOND FORM's CARD OF 'lookoutlaw34.AlgebraParts'. -/
def algebraPartsUptoCard : Claim7 := { stood := { row := algebraPartsUptoRow, standIns := [], harness := (true, "caa00eb1ab7c7ec8d42c85b54d017d83258e69cc73c25b2dea4903b8e8413f4e"), looks := true }, kinds := [], alts := [], laidByText := true, laidKinds := [.data, .data, .data, .sentinel, .sentinel, .listed, .data], laidTests := true, laidLooks := .later }
def AlgebraPartsUptoCardSaid : Prop := Claim7.holds Tryz.pinned (.plain (OpenSpec.upto algebraPartsSpec)) algebraPartsUptoCard

/-- THE SECOND FORM's CARD OF 'lookoutlaw34.AlgebraCombines'. -/
def algebraCombinesUptoCard : Claim7 := { stood := { row := algebraCombinesUptoRow, standIns := [], harness := (true, "caa00eb1ab7c7ec8d42c85b54d017d83258e69cc73c25b2dea4903b8e8413f4e"), looks := true }, kinds := [], alts := [], laidByText := true, laidKinds := [.data, .data, .data, .sentinel, .sentinel, .listed, .data], laidTests := true, laidLooks := .later }
def AlgebraCombinesUptoCardSaid : Prop := Claim7.holds Tryz.pinned (.plain (OpenSpec.upto algebraCombinesSpec)) algebraCombinesUptoCard

/-- THE SECOND FORM's CARD OF 'lookoutlaw34.AlgebraEquals'. -/
def algebraEqualsUptoCard : Claim7 := { stood := { row := algebraEqualsUptoRow, standIns := [], harness := (true, "caa00eb1ab7c7ec8d42c85b54d017d83258e69cc73c25b2dea4903b8e8413f4e"), looks := true }, kinds := [], alts := [], laidByText := true, laidKinds := [.data, .data, .data, .sentinel, .sentinel, .listed, .data], laidTests := true, laidLooks := .later }
def AlgebraEqualsUptoCardSaid : Prop := Claim7.holds Tryz.pinned (.plain (OpenSpec.upto algebraEqualsSpec)) algebraEqualsUptoCard

/-- THE SECOND FORM's CARD OF 'lookoutlaw34.AlgebraLeaves'. -/
def algebraLeavesUptoCard : Claim7 := { stood := { row := algebraLeavesUptoRow, standIns := [], harness := (true, "caa00eb1ab7c7ec8d42c85b54d017d83258e69cc73c25b2dea4903b8e8413f4e"), looks := true }, kinds := [], alts := [], laidByText := true, laidKinds := [.data, .data, .data, .sentinel, .sentinel, .listed, .data], laidTests := true, laidLooks := .later }
def AlgebraLeavesUptoCardSaid : Prop := Claim7.holds Tryz.pinned (.plain (OpenSpec.upto algebraLeavesSpec)) algebraLeavesUptoCard
end Rows
end Go.Proofs.YtnnhlphbfpnaaaaGreatDoor
