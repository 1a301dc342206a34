/-
  DERIVED. GIVEN WITH THE SEED: THE CARDS: each row of YthbdbocionnfgaaGreatDoorRows.lean that lists a variable, with what it lists TIED to the program's text (the seventh form; the later family's looks); each row that meets fmt, with fmt's text TOLD by the authors' own Lean function (tested against real Go, not proved from fmt's source: count such statements apart). THE CARD IS WHAT COUNTS. Prove the row's statement (the work); the ties are given (YthbdbocionnfgaaGreatDoorTie.lean); close each card by the builder's one call (the guide's Derived/Test/ToyasCard.lean, 'card_holds'). Laid BY PROGRAM, IN A SANDBOX (cutbox-door.mjs). By AI agents, Wed Nov 11 2026. No macro, syntax, notation, axiom, sorry.
-/
import Derived.Test.YthbdbocionnfgaaGreatDoorRows
import GoSem.ClaimSeven
namespace Go.Proofs.YthbdbocionnfgaaGreatDoor
namespace Rows

/-- THE TIED CARD OF 'pinfoldlaw09.MarchWritten'. -/
def marchWrittenCard : Claim7 := { stood := { row := marchWrittenRow, standIns := [], harness := (true, "01259ae690a1be7e46d49c0025a19a0d74cc7fbf1fbfbe1bb7c7bf48c5e9e55b"), looks := true }, kinds := [], alts := [], laidByText := true, laidKinds := [.data, .data, .data], laidTests := true, laidLooks := .later }
def MarchWrittenCardSaid : Prop := Claim7.holds Tryz.pinned (.plain (OpenSpec.ofChange marchWrittenSpec)) marchWrittenCard

/-- THE TIED CARD OF 'pinfoldlaw09.MarchChecks'. -/
def marchChecksCard : Claim7 := { stood := { row := marchChecksRow, standIns := [], harness := (true, "01259ae690a1be7e46d49c0025a19a0d74cc7fbf1fbfbe1bb7c7bf48c5e9e55b"), looks := true }, kinds := [], alts := [], laidByText := true, laidKinds := [.data, .data, .data], laidTests := true, laidLooks := .later }
def MarchChecksCardSaid : Prop := Claim7.holds Tryz.pinned (.plain (OpenSpec.ofChange marchChecksSpec)) marchChecksCard

/-- THE TIED CARD OF 'pinfoldlaw09.MarchSteps'. -/
def marchStepsCard : Claim7 := { stood := { row := marchStepsRow, standIns := [], harness := (true, "01259ae690a1be7e46d49c0025a19a0d74cc7fbf1fbfbe1bb7c7bf48c5e9e55b"), looks := true }, kinds := [], alts := [], laidByText := true, laidKinds := [.data, .data, .data], laidTests := true, laidLooks := .later }
def MarchStepsCardSaid : Prop := Claim7.holds Tryz.pinned (.plain (OpenSpec.ofChange marchStepsSpec)) marchStepsCard

/-- THE TIED CARD OF 'pinfoldlaw09.MarchPounds'. -/
def marchPoundsCard : Claim7 := { stood := { row := marchPoundsRow, standIns := [], harness := (true, "01259ae690a1be7e46d49c0025a19a0d74cc7fbf1fbfbe1bb7c7bf48c5e9e55b"), looks := true }, kinds := [], alts := [], laidByText := true, laidKinds := [.data, .data, .data], laidTests := true, laidLooks := .later }
def MarchPoundsCardSaid : Prop := Claim7.holds Tryz.pinned (.plain (OpenSpec.ofChange marchPoundsSpec)) marchPoundsCard

/-- THE TIED CARD OF 'pinfoldlaw09.MarchValid'. -/
def marchValidCard : Claim7 := { stood := { row := marchValidRow, standIns := [], harness := (true, "01259ae690a1be7e46d49c0025a19a0d74cc7fbf1fbfbe1bb7c7bf48c5e9e55b"), looks := true }, kinds := [], alts := [], laidByText := true, laidKinds := [.data, .data, .data], laidTests := true, laidLooks := .later }
def MarchValidCardSaid : Prop := Claim7.holds Tryz.pinned (.plain (OpenSpec.ofChange marchValidSpec)) marchValidCard

/-- THE TIED CARD OF 'pinfoldlaw09.MarchLooks'. -/
def marchLooksCard : Claim7 := { stood := { row := marchLooksRow, standIns := [], harness := (true, "01259ae690a1be7e46d49c0025a19a0d74cc7fbf1fbfbe1bb7c7bf48c5e9e55b"), looks := true }, kinds := [], alts := [], laidByText := true, laidKinds := [.data, .data, .data], laidTests := true, laidLooks := .later }
def MarchLooksCardSaid : Prop := Claim7.holds Tryz.pinned (.plain (OpenSpec.ofChange marchLooksSpec)) marchLooksCard

/-- THE TIED CARD OF 'pinfoldlaw09.MarchTexts'. -/
def marchTextsCard : Claim7 := { stood := { row := marchTextsRow, standIns := [], harness := (true, "01259ae690a1be7e46d49c0025a19a0d74cc7fbf1fbfbe1bb7c7bf48c5e9e55b"), looks := true }, kinds := [], alts := [], laidByText := true, laidKinds := [.data, .data, .data, .data, .sentinel, .sentinel, .pinned], laidTests := true, laidLooks := .later }
def MarchTextsCardSaid : Prop := Claim7.holds Tryz.pinned (.plain (OpenSpec.ofChange marchTextsSpec)) marchTextsCard

/-- THE SECOND FORM's CARD OF 'pinfoldlaw09.MarchWritten'. -/
def marchWrittenUptoCard : Claim7 := { stood := { row := marchWrittenUptoRow, standIns := [], harness := (true, "01259ae690a1be7e46d49c0025a19a0d74cc7fbf1fbfbe1bb7c7bf48c5e9e55b"), looks := true }, kinds := [], alts := [], laidByText := true, laidKinds := [.data, .data, .data], laidTests := true, laidLooks := .later }
def MarchWrittenUptoCardSaid : Prop := Claim7.holds Tryz.pinned (.plain (OpenSpec.upto marchWrittenSpec)) marchWrittenUptoCard

/-- THE SECOND FORM's CARD OF 'pinfoldlaw09.MarchChecks'. -/
def marchChecksUptoCard : Claim7 := { stood := { row := marchChecksUptoRow, standIns := [], harness := (true, "01259ae690a1be7e46d49c0025a19a0d74cc7fbf1fbfbe1bb7c7bf48c5e9e55b"), looks := true }, kinds := [], alts := [], laidByText := true, laidKinds := [.data, .data, .data], laidTests := true, laidLooks := .later }
def MarchChecksUptoCardSaid : Prop := Claim7.holds Tryz.pinned (.plain (OpenSpec.upto marchChecksSpec)) marchChecksUptoCard

/-- THE SECOND FORM's CARD OF 'pinfoldlaw09.MarchSteps'. -/
def marchStepsUptoCard : Claim7 := { stood := { row := marchStepsUptoRow, standIns := [], harness := (true, "01259ae690a1be7e46d49c0025a19a0d74cc7fbf1fbfbe1bb7c7bf48c5e9e55b"), looks := true }, kinds := [], alts := [], laidByText := true, laidKinds := [.data, .data, .data], laidTests := true, laidLooks := .later }
def MarchStepsUptoCardSaid : Prop := Claim7.holds Tryz.pinned (.plain (OpenSpec.upto marchStepsSpec)) marchStepsUptoCard

/-- THE SECOND FORM's CARD OF 'pinfoldlaw09.MarchPounds'. -/
def marchPoundsUptoCard : Claim7 := { stood := { row := marchPoundsUptoRow, standIns := [], harness := (true, "01259ae690a1be7e46d49c0025a19a0d74cc7fbf1fbfbe1bb7c7bf48c5e9e55b"), looks := true }, kinds := [], alts := [], laidByText := true, laidKinds := [.data, .data, .data], laidTests := true, laidLooks := .later }
def MarchPoundsUptoCardSaid : Prop := Claim7.holds Tryz.pinned (.plain (OpenSpec.upto marchPoundsSpec)) marchPoundsUptoCard

/-- THE SECOND FORM's CARD OF 'pinfoldlaw09.MarchValid'. -/
def marchValidUptoCard : Claim7 := { stood := { row := marchValidUptoRow, standIns := [], harness := (true, "01259ae690a1be7e46d49c0025a19a0d74cc7fbf1fbfbe1bb7c7bf48c5e9e55b"), looks := true }, kinds := [], alts := [], laidByText := true, laidKinds := [.data, .data, .data], laidTests := true, laidLooks := .later }
def MarchValidUptoCardSaid : Prop := Claim7.holds Tryz.pinned (.plain (OpenSpec.upto marchValidSpec)) marchValidUptoCard

/-- THE SECOND FORM's CARD OF 'pinfoldlaw09.MarchLooks'. -/
def marchLooksUptoCard : Claim7 := { stood := { row := marchLooksUptoRow, standIns := [], harness := (true, "01259ae690a1be7e46d49c0025a19a0d74cc7fbf1fbfbe1bb7c7bf48c5e9e55b"), looks := true }, kinds := [], alts := [], laidByText := true, laidKinds := [.data, .data, .data], laidTests := true, laidLooks := .later }
def MarchLooksUptoCardSaid : Prop := Claim7.holds Tryz.pinned (.plain (OpenSpec.upto marchLooksSpec)) marchLooksUptoCard

/-- THE SECOND FORM's CARD OF 'pinfoldlaw09.MarchTexts'. -/
def marchTextsUptoCard : Claim7 := { stood := { row := marchTextsUptoRow, standIns := [], harness := (true, "01259ae690a1be7e46d49c0025a19a0d74cc7fbf1fbfbe1bb7c7bf48c5e9e55b"), looks := true }, kinds := [], alts := [], laidByText := true, laidKinds := [.data, .data, .data, .data, .sentinel, .sentinel, .pinned], laidTests := true, laidLooks := .later }
def MarchTextsUptoCardSaid : Prop := Claim7.holds Tryz.pinned (.plain (OpenSpec.upto marchTextsSpec)) marchTextsUptoCard
end Rows
end Go.Proofs.YthbdbocionnfgaaGreatDoor
