/-
  DERIVED. GIVEN WITH THE SEED: THE CARDS: each row of YtmfgnajlkoafkaaGreatDoorRows.lean that lists a variable, with what it lists TIED to the program's text (the seventh form; the later family's looks); each row that meets fmt, with fmt's text TOLD by the authors' own Lean function (tested against real Go, not proved from fmt's source: count such statements apart). THE CARD IS WHAT COUNTS. Prove the row's statement (the work); the ties are given (YtmfgnajlkoafkaaGreatDoorTie.lean); close each card by the builder's one call (the guide's Derived/Test/ToyasCard.lean, 'card_holds'). Laid BY PROGRAM, IN A SANDBOX (cutbox-door.mjs). By AI agents, Wed Nov 11 2026. No macro, syntax, notation, axiom, sorry.
-/
import Derived.Test.YtmfgnajlkoafkaaGreatDoorRows
import GoSem.ClaimSeven
namespace Go.Proofs.YtmfgnajlkoafkaaGreatDoor
namespace Rows

/-- THE TIED CARD OF 'gangsawlaw32.LineageChecks'. -/
def lineageChecksCard : Claim7 := { stood := { row := lineageChecksRow, standIns := [], harness := (true, "cc44ed9c4e12e2028538bd977500a2e826d11eced8931b02e3a85813b8a3333b"), looks := true }, kinds := [], alts := [], laidByText := true, laidKinds := [.data, .data, .data, .data, .sentinel, .sentinel, .pinned], laidTests := true, laidLooks := .later }
def LineageChecksCardSaid : Prop := Claim7.holds Tryz.pinned (.plain (OpenSpec.ofChange lineageChecksSpec)) lineageChecksCard

/-- THE TIED CARD OF 'gangsawlaw32.LineagePlaces'. -/
def lineagePlacesCard : Claim7 := { stood := { row := lineagePlacesRow, standIns := [], harness := (true, "cc44ed9c4e12e2028538bd977500a2e826d11eced8931b02e3a85813b8a3333b"), looks := true }, kinds := [], alts := [], laidByText := true, laidKinds := [.data, .data, .data, .data, .sentinel, .sentinel, .pinned], laidTests := true, laidLooks := .later }
def LineagePlacesCardSaid : Prop := Claim7.holds Tryz.pinned (.plain (OpenSpec.ofChange lineagePlacesSpec)) lineagePlacesCard

/-- THE TIED CARD OF 'gangsawlaw32.LineageWays'. -/
def lineageWaysCard : Claim7 := { stood := { row := lineageWaysRow, standIns := [], harness := (true, "cc44ed9c4e12e2028538bd977500a2e826d11eced8931b02e3a85813b8a3333b"), looks := true }, kinds := [], alts := [], laidByText := true, laidKinds := [.data, .data, .data, .data, .sentinel, .sentinel, .pinned], laidTests := true, laidLooks := .later }
def LineageWaysCardSaid : Prop := Claim7.holds Tryz.pinned (.plain (OpenSpec.ofChange lineageWaysSpec)) lineageWaysCard

/-- THE TIED CARD OF 'gangsawlaw32.LineageInside'. -/
def lineageInsideCard : Claim7 := { stood := { row := lineageInsideRow, standIns := [], harness := (true, "cc44ed9c4e12e2028538bd977500a2e826d11eced8931b02e3a85813b8a3333b"), looks := true }, kinds := [], alts := [], laidByText := true, laidKinds := [.data, .data, .data, .data, .sentinel, .sentinel, .pinned], laidTests := true, laidLooks := .later }
def LineageInsideCardSaid : Prop := Claim7.holds Tryz.pinned (.plain (OpenSpec.ofChange lineageInsideSpec)) lineageInsideCard

/-- THE TIED CARD OF 'gangsawlaw32.LineageApart'. -/
def lineageApartCard : Claim7 := { stood := { row := lineageApartRow, standIns := [], harness := (true, "cc44ed9c4e12e2028538bd977500a2e826d11eced8931b02e3a85813b8a3333b"), looks := true }, kinds := [], alts := [], laidByText := true, laidKinds := [.data, .data, .data, .data, .sentinel, .sentinel, .pinned], laidTests := true, laidLooks := .later }
def LineageApartCardSaid : Prop := Claim7.holds Tryz.pinned (.plain (OpenSpec.ofChange lineageApartSpec)) lineageApartCard

/-- THE TIED CARD OF 'gangsawlaw56.TraceYields'. -/
def traceYieldsCard : Claim7 := { stood := { row := traceYieldsRow, standIns := [], harness := (true, "cc44ed9c4e12e2028538bd977500a2e826d11eced8931b02e3a85813b8a3333b"), looks := true }, kinds := [], alts := [], laidByText := true, laidKinds := [.data, .data, .data, .data, .sentinel, .sentinel, .pinned], laidTests := true, laidLooks := .later }
def TraceYieldsCardSaid : Prop := Claim7.holds Tryz.pinned (.plain (OpenSpec.ofChange traceYieldsSpec)) traceYieldsCard

/-- THE TIED CARD OF 'gangsawlaw56.TraceNested'. -/
def traceNestedCard : Claim7 := { stood := { row := traceNestedRow, standIns := [], harness := (true, "cc44ed9c4e12e2028538bd977500a2e826d11eced8931b02e3a85813b8a3333b"), looks := true }, kinds := [], alts := [], laidByText := true, laidKinds := [.data, .data, .data, .data, .sentinel, .sentinel, .pinned], laidTests := true, laidLooks := .later }
def TraceNestedCardSaid : Prop := Claim7.holds Tryz.pinned (.plain (OpenSpec.ofChange traceNestedSpec)) traceNestedCard

/-- THE TIED CARD OF 'gangsawlaw56.TraceSuspects'. -/
def traceSuspectsCard : Claim7 := { stood := { row := traceSuspectsRow, standIns := [], harness := (true, "cc44ed9c4e12e2028538bd977500a2e826d11eced8931b02e3a85813b8a3333b"), looks := true }, kinds := [], alts := [], laidByText := true, laidKinds := [.data, .data, .data, .data, .sentinel, .sentinel, .pinned], laidTests := true, laidLooks := .later }
def TraceSuspectsCardSaid : Prop := Claim7.holds Tryz.pinned (.plain (OpenSpec.ofChange traceSuspectsSpec)) traceSuspectsCard

/-- THE TIED CARD OF 'gangsawlaw56.TraceReports'. -/
def traceReportsCard : Claim7 := { stood := { row := traceReportsRow, standIns := [], harness := (true, "cc44ed9c4e12e2028538bd977500a2e826d11eced8931b02e3a85813b8a3333b"), looks := true }, kinds := [], alts := [], laidByText := true, laidKinds := [.data, .data, .data, .data, .sentinel, .sentinel, .pinned], laidTests := true, laidLooks := .later }
def TraceReportsCardSaid : Prop := Claim7.holds Tryz.pinned (.plain (OpenSpec.ofChange traceReportsSpec)) traceReportsCard

/-- THE TIED CARD OF 'gangsawlaw56.TracePlaces'. -/
def tracePlacesCard : Claim7 := { stood := { row := tracePlacesRow, standIns := [], harness := (true, "cc44ed9c4e12e2028538bd977500a2e826d11eced8931b02e3a85813b8a3333b"), looks := true }, kinds := [], alts := [], laidByText := true, laidKinds := [.data, .data, .data, .data, .sentinel, .sentinel, .pinned], laidTests := true, laidLooks := .later }
def TracePlacesCardSaid : Prop := Claim7.holds Tryz.pinned (.plain (OpenSpec.ofChange tracePlacesSpec)) tracePlacesCard

/-- THE TIED CARD OF 'gangsawlaw56.TraceOne'. -/
def traceOneCard : Claim7 := { stood := { row := traceOneRow, standIns := [], harness := (true, "cc44ed9c4e12e2028538bd977500a2e826d11eced8931b02e3a85813b8a3333b"), looks := true }, kinds := [], alts := [], laidByText := true, laidKinds := [.data, .data, .data, .data, .sentinel, .sentinel, .pinned], laidTests := true, laidLooks := .later }
def TraceOneCardSaid : Prop := Claim7.holds Tryz.pinned (.plain (OpenSpec.ofChange traceOneSpec)) traceOneCard

/-- THE TIED CARD OF 'gangsawlaw56.TraceHistories'. -/
def traceHistoriesCard : Claim7 := { stood := { row := traceHistoriesRow, standIns := [], harness := (true, "cc44ed9c4e12e2028538bd977500a2e826d11eced8931b02e3a85813b8a3333b"), looks := true }, kinds := [], alts := [], laidByText := true, laidKinds := [.data, .data, .data, .data, .data, .sentinel, .sentinel, .pinned], laidTests := true, laidLooks := .later }
def TraceHistoriesCardSaid : Prop := Claim7.holds Tryz.pinned (.plain (OpenSpec.ofChange traceHistoriesSpec)) traceHistoriesCard

/-- THE SECOND FORM's CARD OF 'gangsawlaw32.LineageChecks'. -/
def lineageChecksUptoCard : Claim7 := { stood := { row := lineageChecksUptoRow, standIns := [], harness := (true, "cc44ed9c4e12e2028538bd977500a2e826d11eced8931b02e3a85813b8a3333b"), looks := true }, kinds := [], alts := [], laidByText := true, laidKinds := [.data, .data, .data, .data, .sentinel, .sentinel, .pinned], laidTests := true, laidLooks := .later }
def LineageChecksUptoCardSaid : Prop := Claim7.holds Tryz.pinned (.plain (OpenSpec.upto lineageChecksSpec)) lineageChecksUptoCard

/-- THE SECOND FORM's CARD OF 'gangsawlaw32.LineagePlaces'. -/
def lineagePlacesUptoCard : Claim7 := { stood := { row := lineagePlacesUptoRow, standIns := [], harness := (true, "cc44ed9c4e12e2028538bd977500a2e826d11eced8931b02e3a85813b8a3333b"), looks := true }, kinds := [], alts := [], laidByText := true, laidKinds := [.data, .data, .data, .data, .sentinel, .sentinel, .pinned], laidTests := true, laidLooks := .later }
def LineagePlacesUptoCardSaid : Prop := Claim7.holds Tryz.pinned (.plain (OpenSpec.upto lineagePlacesSpec)) lineagePlacesUptoCard

/-- THE SECOND FORM's CARD OF 'gangsawlaw32.LineageWays'. -/
def lineageWaysUptoCard : Claim7 := { stood := { row := lineageWaysUptoRow, standIns := [], harness := (true, "cc44ed9c4e12e2028538bd977500a2e826d11eced8931b02e3a85813b8a3333b"), looks := true }, kinds := [], alts := [], laidByText := true, laidKinds := [.data, .data, .data, .data, .sentinel, .sentinel, .pinned], laidTests := true, laidLooks := .later }
def LineageWaysUptoCardSaid : Prop := Claim7.holds Tryz.pinned (.plain (OpenSpec.upto lineageWaysSpec)) lineageWaysUptoCard

/-- THE SECOND FORM's CARD OF 'gangsawlaw32.LineageInside'. -/
def lineageInsideUptoCard : Claim7 := { stood := { row := lineageInsideUptoRow, standIns := [], harness := (true, "cc44ed9c4e12e2028538bd977500a2e826d11eced8931b02e3a85813b8a3333b"), looks := true }, kinds := [], alts := [], laidByText := true, laidKinds := [.data, .data, .data, .data, .sentinel, .sentinel, .pinned], laidTests := true, laidLooks := .later }
def LineageInsideUptoCardSaid : Prop := Claim7.holds Tryz.pinned (.plain (OpenSpec.upto lineageInsideSpec)) lineageInsideUptoCard

/-- THE SECOND FORM's CARD OF 'gangsawlaw32.LineageApart'. -/
def lineageApartUptoCard : Claim7 := { stood := { row := lineageApartUptoRow, standIns := [], harness := (true, "cc44ed9c4e12e2028538bd977500a2e826d11eced8931b02e3a85813b8a3333b"), looks := true }, kinds := [], alts := [], laidByText := true, laidKinds := [.data, .data, .data, .data, .sentinel, .sentinel, .pinned], laidTests := true, laidLooks := .later }
def LineageApartUptoCardSaid : Prop := Claim7.holds Tryz.pinned (.plain (OpenSpec.upto lineageApartSpec)) lineageApartUptoCard

/-- THE SECOND FORM's CARD OF 'gangsawlaw56.TraceYields'. -/
def traceYieldsUptoCard : Claim7 := { stood := { row := traceYieldsUptoRow, standIns := [], harness := (true, "cc44ed9c4e12e2028538bd977500a2e826d11eced8931b02e3a85813b8a3333b"), looks := true }, kinds := [], alts := [], laidByText := true, laidKinds := [.data, .data, .data, .data, .sentinel, .sentinel, .pinned], laidTests := true, laidLooks := .later }
def TraceYieldsUptoCardSaid : Prop := Claim7.holds Tryz.pinned (.plain (OpenSpec.upto traceYieldsSpec)) traceYieldsUptoCard

/-- THE SECOND FORM's CARD OF 'gangsawlaw56.TraceNested'. -/
def traceNestedUptoCard : Claim7 := { stood := { row := traceNestedUptoRow, standIns := [], harness := (true, "cc44ed9c4e12e2028538bd977500a2e826d11eced8931b02e3a85813b8a3333b"), looks := true }, kinds := [], alts := [], laidByText := true, laidKinds := [.data, .data, .data, .data, .sentinel, .sentinel, .pinned], laidTests := true, laidLooks := .later }
def TraceNestedUptoCardSaid : Prop := Claim7.holds Tryz.pinned (.plain (OpenSpec.upto traceNestedSpec)) traceNestedUptoCard

/-- THE SECOND FORM's CARD OF 'gangsawlaw56.TraceSuspects'. -/
def traceSuspectsUptoCard : Claim7 := { stood := { row := traceSuspectsUptoRow, standIns := [], harness := (true, "cc44ed9c4e12e2028538bd977500a2e826d11eced8931b02e3a85813b8a3333b"), looks := true }, kinds := [], alts := [], laidByText := true, laidKinds := [.data, .data, .data, .data, .sentinel, .sentinel, .pinned], laidTests := true, laidLooks := .later }
def TraceSuspectsUptoCardSaid : Prop := Claim7.holds Tryz.pinned (.plain (OpenSpec.upto traceSuspectsSpec)) traceSuspectsUptoCard

/-- THE SECOND FORM's CARD OF 'gangsawlaw56.TraceReports'. -/
def traceReportsUptoCard : Claim7 := { stood := { row := traceReportsUptoRow, standIns := [], harness := (true, "cc44ed9c4e12e2028538bd977500a2e826d11eced8931b02e3a85813b8a3333b"), looks := true }, kinds := [], alts := [], laidByText := true, laidKinds := [.data, .data, .data, .data, .sentinel, .sentinel, .pinned], laidTests := true, laidLooks := .later }
def TraceReportsUptoCardSaid : Prop := Claim7.holds Tryz.pinned (.plain (OpenSpec.upto traceReportsSpec)) traceReportsUptoCard

/-- THE SECOND FORM's CARD OF 'gangsawlaw56.TracePlaces'. -/
def tracePlacesUptoCard : Claim7 := { stood := { row := tracePlacesUptoRow, standIns := [], harness := (true, "cc44ed9c4e12e2028538bd977500a2e826d11eced8931b02e3a85813b8a3333b"), looks := true }, kinds := [], alts := [], laidByText := true, laidKinds := [.data, .data, .data, .data, .sentinel, .sentinel, .pinned], laidTests := true, laidLooks := .later }
def TracePlacesUptoCardSaid : Prop := Claim7.holds Tryz.pinned (.plain (OpenSpec.upto tracePlacesSpec)) tracePlacesUptoCard

/-- THE SECOND FORM's CARD OF 'gangsawlaw56.TraceOne'. -/
def traceOneUptoCard : Claim7 := { stood := { row := traceOneUptoRow, standIns := [], harness := (true, "cc44ed9c4e12e2028538bd977500a2e826d11eced8931b02e3a85813b8a3333b"), looks := true }, kinds := [], alts := [], laidByText := true, laidKinds := [.data, .data, .data, .data, .sentinel, .sentinel, .pinned], laidTests := true, laidLooks := .later }
def TraceOneUptoCardSaid : Prop := Claim7.holds Tryz.pinned (.plain (OpenSpec.upto traceOneSpec)) traceOneUptoCard

/-- THE SECOND FORM's CARD OF 'gangsawlaw56.TraceHistories'. -/
def traceHistoriesUptoCard : Claim7 := { stood := { row := traceHistoriesUptoRow, standIns := [], harness := (true, "cc44ed9c4e12e2028538bd977500a2e826d11eced8931b02e3a85813b8a3333b"), looks := true }, kinds := [], alts := [], laidByText := true, laidKinds := [.data, .data, .data, .data, .data, .sentinel, .sentinel, .pinned], laidTests := true, laidLooks := .later }
def TraceHistoriesUptoCardSaid : Prop := Claim7.holds Tryz.pinned (.plain (OpenSpec.upto traceHistoriesSpec)) traceHistoriesUptoCard
end Rows
end Go.Proofs.YtmfgnajlkoafkaaGreatDoor
