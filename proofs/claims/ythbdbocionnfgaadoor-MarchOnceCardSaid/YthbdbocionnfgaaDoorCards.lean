/-
  DERIVED. GIVEN WITH THE SEED: THE CARDS: each row of YthbdbocionnfgaaDoorRows.lean that lists a variable, with what it lists TIED to the program's text (the seventh form; the later family's looks); each row that meets fmt, with fmt's text TOLD by the authors' own Lean function (tested against real Go, not proved from fmt's source: count such statements apart). THE CARD IS WHAT COUNTS. Prove the row's statement (the work); the ties are given (YthbdbocionnfgaaDoorTie.lean); close each card by the builder's one call (the guide's Derived/Test/ToyasCard.lean, 'card_holds'). Laid BY PROGRAM, IN A SANDBOX (cutbox-door.mjs). By AI agents, Wed Nov 11 2026. No macro, syntax, notation, axiom, sorry.
-/
import Derived.Test.YthbdbocionnfgaaDoorRows
import GoSem.ClaimSeven
namespace Go.Proofs.YthbdbocionnfgaaDoor
namespace Rows

/-- THE TIED CARD OF 'pinfoldlaw09.MarchOnce'. -/
def marchOnceCard : Claim7 := { stood := { row := marchOnceRow, standIns := [], harness := (true, "c25b60dc1fda316d2a4410faf8b4af2bfa3e997e82387627e09ab00884dfea59"), looks := true }, kinds := [], alts := [], laidByText := true, laidKinds := [.data, .data, .data], laidTests := true, laidLooks := .later }
def MarchOnceCardSaid : Prop := Claim7.holds Tryd.pinned (.plain (OpenSpec.ofChange marchOnceSpec)) marchOnceCard

/-- THE TIED CARD OF 'pinfoldlaw09.MarchEnds'. -/
def marchEndsCard : Claim7 := { stood := { row := marchEndsRow, standIns := [], harness := (true, "c25b60dc1fda316d2a4410faf8b4af2bfa3e997e82387627e09ab00884dfea59"), looks := true }, kinds := [], alts := [], laidByText := true, laidKinds := [.data, .data, .data], laidTests := true, laidLooks := .later }
def MarchEndsCardSaid : Prop := Claim7.holds Tryd.pinned (.plain (OpenSpec.ofChange marchEndsSpec)) marchEndsCard

/-- THE SECOND FORM's CARD OF 'pinfoldlaw09.MarchOnce'. -/
def marchOnceUptoCard : Claim7 := { stood := { row := marchOnceUptoRow, standIns := [], harness := (true, "c25b60dc1fda316d2a4410faf8b4af2bfa3e997e82387627e09ab00884dfea59"), looks := true }, kinds := [], alts := [], laidByText := true, laidKinds := [.data, .data, .data], laidTests := true, laidLooks := .later }
def MarchOnceUptoCardSaid : Prop := Claim7.holds Tryd.pinned (.plain (OpenSpec.upto marchOnceSpec)) marchOnceUptoCard

/-- THE SECOND FORM's CARD OF 'pinfoldlaw09.MarchEnds'. -/
def marchEndsUptoCard : Claim7 := { stood := { row := marchEndsUptoRow, standIns := [], harness := (true, "c25b60dc1fda316d2a4410faf8b4af2bfa3e997e82387627e09ab00884dfea59"), looks := true }, kinds := [], alts := [], laidByText := true, laidKinds := [.data, .data, .data], laidTests := true, laidLooks := .later }
def MarchEndsUptoCardSaid : Prop := Claim7.holds Tryd.pinned (.plain (OpenSpec.upto marchEndsSpec)) marchEndsUptoCard
end Rows
end Go.Proofs.YthbdbocionnfgaaDoor
