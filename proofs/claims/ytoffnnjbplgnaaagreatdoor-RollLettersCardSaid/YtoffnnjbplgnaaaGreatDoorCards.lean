/-
  DERIVED. GIVEN WITH THE SEED: THE CARDS: each row of YtoffnnjbplgnaaaGreatDoorRows.lean that lists a variable, with what it lists TIED to the program's text (the seventh form; the later family's looks); each row that meets fmt, with fmt's text TOLD by the authors' own Lean function (tested against real Go, not proved from fmt's source: count such statements apart). THE CARD IS WHAT COUNTS. Prove the row's statement (the work); the ties are given (YtoffnnjbplgnaaaGreatDoorTie.lean); close each card by the builder's one call (the guide's Derived/Test/ToyasCard.lean, 'card_holds'). Laid BY PROGRAM, IN A SANDBOX (cutbox-door.mjs). By AI agents, Wed Nov 11 2026. No macro, syntax, notation, axiom, sorry.
-/
import Derived.Test.YtoffnnjbplgnaaaGreatDoorRows
import GoSem.ClaimSeven
namespace Go.Proofs.YtoffnnjbplgnaaaGreatDoor
namespace Rows

/-- THE TIED CARD OF 'pinfoldlaw08.RollScans'. -/
def rollScansCard : Claim7 := { stood := { row := rollScansRow, standIns := [], harness := (true, "63c5070df843979b06ff706d399a436e8559ec10069c80a1b125a399e3e531b3"), looks := true }, kinds := [], alts := [], laidByText := true, laidKinds := [.data, .data, .data, .sentinel, .sentinel], laidTests := true, laidLooks := .later }
def RollScansCardSaid : Prop := Claim7.holds Tryz.pinned (.plain (OpenSpec.ofChange rollScansSpec)) rollScansCard

/-- THE TIED CARD OF 'pinfoldlaw08.RollStorms'. -/
def rollStormsCard : Claim7 := { stood := { row := rollStormsRow, standIns := [], harness := (true, "63c5070df843979b06ff706d399a436e8559ec10069c80a1b125a399e3e531b3"), looks := true }, kinds := [], alts := [], laidByText := true, laidKinds := [.data, .data, .data, .sentinel, .sentinel], laidTests := true, laidLooks := .later }
def RollStormsCardSaid : Prop := Claim7.holds Tryz.pinned (.plain (OpenSpec.ofChange rollStormsSpec)) rollStormsCard

/-- THE TIED CARD OF 'pinfoldlaw08.RollTexts'. -/
def rollTextsCard : Claim7 := { stood := { row := rollTextsRow, standIns := [], harness := (true, "63c5070df843979b06ff706d399a436e8559ec10069c80a1b125a399e3e531b3"), looks := true }, kinds := [], alts := [], laidByText := true, laidKinds := [.data, .data, .data, .sentinel, .sentinel], laidTests := true, laidLooks := .later }
def RollTextsCardSaid : Prop := Claim7.holds Tryz.pinned (.plain (OpenSpec.ofChange rollTextsSpec)) rollTextsCard

/-- THE TIED CARD OF 'pinfoldlaw08.RollLines'. -/
def rollLinesCard : Claim7 := { stood := { row := rollLinesRow, standIns := [], harness := (true, "63c5070df843979b06ff706d399a436e8559ec10069c80a1b125a399e3e531b3"), looks := true }, kinds := [], alts := [], laidByText := true, laidKinds := [.data, .data, .data, .sentinel, .sentinel], laidTests := true, laidLooks := .later }
def RollLinesCardSaid : Prop := Claim7.holds Tryz.pinned (.plain (OpenSpec.ofChange rollLinesSpec)) rollLinesCard

/-- THE TIED CARD OF 'pinfoldlaw08.RollWrites'. -/
def rollWritesCard : Claim7 := { stood := { row := rollWritesRow, standIns := [], harness := (true, "63c5070df843979b06ff706d399a436e8559ec10069c80a1b125a399e3e531b3"), looks := true }, kinds := [], alts := [], laidByText := true, laidKinds := [.data, .data, .data, .sentinel, .sentinel], laidTests := true, laidLooks := .later }
def RollWritesCardSaid : Prop := Claim7.holds Tryz.pinned (.plain (OpenSpec.ofChange rollWritesSpec)) rollWritesCard

/-- THE TIED CARD OF 'pinfoldlaw08.RollStorm'. -/
def rollStormCard : Claim7 := { stood := { row := rollStormRow, standIns := [], harness := (true, "63c5070df843979b06ff706d399a436e8559ec10069c80a1b125a399e3e531b3"), looks := true }, kinds := [], alts := [], laidByText := true, laidKinds := [.data, .data, .data, .sentinel, .sentinel], laidTests := true, laidLooks := .later }
def RollStormCardSaid : Prop := Claim7.holds Tryz.pinned (.plain (OpenSpec.ofChange rollStormSpec)) rollStormCard

/-- THE TIED CARD OF 'pinfoldlaw08.RollJoins'. -/
def rollJoinsCard : Claim7 := { stood := { row := rollJoinsRow, standIns := [], harness := (true, "63c5070df843979b06ff706d399a436e8559ec10069c80a1b125a399e3e531b3"), looks := true }, kinds := [], alts := [], laidByText := true, laidKinds := [.data, .data, .data, .sentinel, .sentinel], laidTests := true, laidLooks := .later }
def RollJoinsCardSaid : Prop := Claim7.holds Tryz.pinned (.plain (OpenSpec.ofChange rollJoinsSpec)) rollJoinsCard

/-- THE TIED CARD OF 'pinfoldlaw08.RollSums'. -/
def rollSumsCard : Claim7 := { stood := { row := rollSumsRow, standIns := [], harness := (true, "63c5070df843979b06ff706d399a436e8559ec10069c80a1b125a399e3e531b3"), looks := true }, kinds := [], alts := [], laidByText := true, laidKinds := [.data, .data, .data, .sentinel, .sentinel], laidTests := true, laidLooks := .later }
def RollSumsCardSaid : Prop := Claim7.holds Tryz.pinned (.plain (OpenSpec.ofChange rollSumsSpec)) rollSumsCard

/-- THE TIED CARD OF 'pinfoldlaw08.RollBooks'. -/
def rollBooksCard : Claim7 := { stood := { row := rollBooksRow, standIns := [], harness := (true, "63c5070df843979b06ff706d399a436e8559ec10069c80a1b125a399e3e531b3"), looks := true }, kinds := [], alts := [], laidByText := true, laidKinds := [.data, .data, .data, .sentinel, .sentinel], laidTests := true, laidLooks := .later }
def RollBooksCardSaid : Prop := Claim7.holds Tryz.pinned (.plain (OpenSpec.ofChange rollBooksSpec)) rollBooksCard

/-- THE TIED CARD OF 'pinfoldlaw08.RollOffices'. -/
def rollOfficesCard : Claim7 := { stood := { row := rollOfficesRow, standIns := [], harness := (true, "63c5070df843979b06ff706d399a436e8559ec10069c80a1b125a399e3e531b3"), looks := true }, kinds := [], alts := [], laidByText := true, laidKinds := [.data, .data, .data, .sentinel, .sentinel], laidTests := true, laidLooks := .later }
def RollOfficesCardSaid : Prop := Claim7.holds Tryz.pinned (.plain (OpenSpec.ofChange rollOfficesSpec)) rollOfficesCard

/-- THE TIED CARD OF 'pinfoldlaw08.RollLetters'. -/
def rollLettersCard : Claim7 := { stood := { row := rollLettersRow, standIns := [], harness := (true, "63c5070df843979b06ff706d399a436e8559ec10069c80a1b125a399e3e531b3"), looks := true }, kinds := [], alts := [], laidByText := true, laidKinds := [.data, .data, .data, .sentinel, .sentinel], laidTests := true, laidLooks := .later }
def RollLettersCardSaid : Prop := Claim7.holds Tryz.pinned (.plain (OpenSpec.ofChange rollLettersSpec)) rollLettersCard

/-- THE SECOND FORM's CARD OF 'pinfoldlaw08.RollScans'. -/
def rollScansUptoCard : Claim7 := { stood := { row := rollScansUptoRow, standIns := [], harness := (true, "63c5070df843979b06ff706d399a436e8559ec10069c80a1b125a399e3e531b3"), looks := true }, kinds := [], alts := [], laidByText := true, laidKinds := [.data, .data, .data, .sentinel, .sentinel], laidTests := true, laidLooks := .later }
def RollScansUptoCardSaid : Prop := Claim7.holds Tryz.pinned (.plain (OpenSpec.upto rollScansSpec)) rollScansUptoCard

/-- THE SECOND FORM's CARD OF 'pinfoldlaw08.RollStorms'. -/
def rollStormsUptoCard : Claim7 := { stood := { row := rollStormsUptoRow, standIns := [], harness := (true, "63c5070df843979b06ff706d399a436e8559ec10069c80a1b125a399e3e531b3"), looks := true }, kinds := [], alts := [], laidByText := true, laidKinds := [.data, .data, .data, .sentinel, .sentinel], laidTests := true, laidLooks := .later }
def RollStormsUptoCardSaid : Prop := Claim7.holds Tryz.pinned (.plain (OpenSpec.upto rollStormsSpec)) rollStormsUptoCard

/-- THE SECOND FORM's CARD OF 'pinfoldlaw08.RollTexts'. -/
def rollTextsUptoCard : Claim7 := { stood := { row := rollTextsUptoRow, standIns := [], harness := (true, "63c5070df843979b06ff706d399a436e8559ec10069c80a1b125a399e3e531b3"), looks := true }, kinds := [], alts := [], laidByText := true, laidKinds := [.data, .data, .data, .sentinel, .sentinel], laidTests := true, laidLooks := .later }
def RollTextsUptoCardSaid : Prop := Claim7.holds Tryz.pinned (.plain (OpenSpec.upto rollTextsSpec)) rollTextsUptoCard

/-- THE SECOND FORM's CARD OF 'pinfoldlaw08.RollLines'. -/
def rollLinesUptoCard : Claim7 := { stood := { row := rollLinesUptoRow, standIns := [], harness := (true, "63c5070df843979b06ff706d399a436e8559ec10069c80a1b125a399e3e531b3"), looks := true }, kinds := [], alts := [], laidByText := true, laidKinds := [.data, .data, .data, .sentinel, .sentinel], laidTests := true, laidLooks := .later }
def RollLinesUptoCardSaid : Prop := Claim7.holds Tryz.pinned (.plain (OpenSpec.upto rollLinesSpec)) rollLinesUptoCard

/-- THE SECOND FORM's CARD OF 'pinfoldlaw08.RollWrites'. -/
def rollWritesUptoCard : Claim7 := { stood := { row := rollWritesUptoRow, standIns := [], harness := (true, "63c5070df843979b06ff706d399a436e8559ec10069c80a1b125a399e3e531b3"), looks := true }, kinds := [], alts := [], laidByText := true, laidKinds := [.data, .data, .data, .sentinel, .sentinel], laidTests := true, laidLooks := .later }
def RollWritesUptoCardSaid : Prop := Claim7.holds Tryz.pinned (.plain (OpenSpec.upto rollWritesSpec)) rollWritesUptoCard

/-- THE SECOND FORM's CARD OF 'pinfoldlaw08.RollStorm'. -/
def rollStormUptoCard : Claim7 := { stood := { row := rollStormUptoRow, standIns := [], harness := (true, "63c5070df843979b06ff706d399a436e8559ec10069c80a1b125a399e3e531b3"), looks := true }, kinds := [], alts := [], laidByText := true, laidKinds := [.data, .data, .data, .sentinel, .sentinel], laidTests := true, laidLooks := .later }
def RollStormUptoCardSaid : Prop := Claim7.holds Tryz.pinned (.plain (OpenSpec.upto rollStormSpec)) rollStormUptoCard

/-- THE SECOND FORM's CARD OF 'pinfoldlaw08.RollJoins'. -/
def rollJoinsUptoCard : Claim7 := { stood := { row := rollJoinsUptoRow, standIns := [], harness := (true, "63c5070df843979b06ff706d399a436e8559ec10069c80a1b125a399e3e531b3"), looks := true }, kinds := [], alts := [], laidByText := true, laidKinds := [.data, .data, .data, .sentinel, .sentinel], laidTests := true, laidLooks := .later }
def RollJoinsUptoCardSaid : Prop := Claim7.holds Tryz.pinned (.plain (OpenSpec.upto rollJoinsSpec)) rollJoinsUptoCard

/-- THE SECOND FORM's CARD OF 'pinfoldlaw08.RollSums'. -/
def rollSumsUptoCard : Claim7 := { stood := { row := rollSumsUptoRow, standIns := [], harness := (true, "63c5070df843979b06ff706d399a436e8559ec10069c80a1b125a399e3e531b3"), looks := true }, kinds := [], alts := [], laidByText := true, laidKinds := [.data, .data, .data, .sentinel, .sentinel], laidTests := true, laidLooks := .later }
def RollSumsUptoCardSaid : Prop := Claim7.holds Tryz.pinned (.plain (OpenSpec.upto rollSumsSpec)) rollSumsUptoCard

/-- THE SECOND FORM's CARD OF 'pinfoldlaw08.RollBooks'. -/
def rollBooksUptoCard : Claim7 := { stood := { row := rollBooksUptoRow, standIns := [], harness := (true, "63c5070df843979b06ff706d399a436e8559ec10069c80a1b125a399e3e531b3"), looks := true }, kinds := [], alts := [], laidByText := true, laidKinds := [.data, .data, .data, .sentinel, .sentinel], laidTests := true, laidLooks := .later }
def RollBooksUptoCardSaid : Prop := Claim7.holds Tryz.pinned (.plain (OpenSpec.upto rollBooksSpec)) rollBooksUptoCard

/-- THE SECOND FORM's CARD OF 'pinfoldlaw08.RollOffices'. -/
def rollOfficesUptoCard : Claim7 := { stood := { row := rollOfficesUptoRow, standIns := [], harness := (true, "63c5070df843979b06ff706d399a436e8559ec10069c80a1b125a399e3e531b3"), looks := true }, kinds := [], alts := [], laidByText := true, laidKinds := [.data, .data, .data, .sentinel, .sentinel], laidTests := true, laidLooks := .later }
def RollOfficesUptoCardSaid : Prop := Claim7.holds Tryz.pinned (.plain (OpenSpec.upto rollOfficesSpec)) rollOfficesUptoCard

/-- THE SECOND FORM's CARD OF 'pinfoldlaw08.RollLetters'. -/
def rollLettersUptoCard : Claim7 := { stood := { row := rollLettersUptoRow, standIns := [], harness := (true, "63c5070df843979b06ff706d399a436e8559ec10069c80a1b125a399e3e531b3"), looks := true }, kinds := [], alts := [], laidByText := true, laidKinds := [.data, .data, .data, .sentinel, .sentinel], laidTests := true, laidLooks := .later }
def RollLettersUptoCardSaid : Prop := Claim7.holds Tryz.pinned (.plain (OpenSpec.upto rollLettersSpec)) rollLettersUptoCard
end Rows
end Go.Proofs.YtoffnnjbplgnaaaGreatDoor
