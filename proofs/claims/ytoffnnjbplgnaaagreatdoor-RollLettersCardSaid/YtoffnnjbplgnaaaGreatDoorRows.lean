/-
  NARROWER THAN 'FOR EVERY INPUT', by the rows' own cells (each row's printed sentence says how): RollScans: laid · RollStorms: laid · RollTexts: laid · RollLines: laid · RollWrites: laid · RollStorm: laid · RollJoins: laid · RollSums: laid · RollBooks: laid · RollOffices: laid · RollLetters: laid.
  DERIVED. THE GIVEN ROWS OF THIS SEAT. 11 by the template 'for every input the law returns true; each argument reads behind the call as it read before'; 0 by the template 'total and deterministic' (their statements: YtoffnnjbplgnaaaGreatDoorTotals.lean).
  GIVEN WITH THE SEED: the statements are not yours to turn. If you find one false, say at which input.
  Laid BY PROGRAM, IN A SANDBOX (cutbox-rows.mjs): the forced cells as the released guide's own fill.sh prints them over the translation e1ccb8201599f64e… (all of the seat's roots in one cut). By AI agents, Wed Nov 11 2026. No macro, syntax, notation, axiom, sorry.
-/
import Derived.Test.YtoffnnjbplgnaaaGreatDoorChecked
import GoSem.Claim
import GoSem.ClaimJoined
import GoSem.ClaimMapViews
import Derived.JoinedTies
import Derived.KernelRfl
namespace Go.Proofs.YtoffnnjbplgnaaaGreatDoor
/- THE CELL 'sum', in the pinned program and in every row, IS THE sha256 OF THE DUMP (.gsa) THAT YtoffnnjbplgnaaaGreatDoorProg.lean LOADS. Nothing in Lean hashes anything: it is a label: what it is worth is what the hold of that sum in a sandbox is worth. -/
noncomputable def Tryz.pinned : Pinned := { name := "ytoffnnjbplgnaaagreatdoor", sum := "e1ccb8201599f64e23a2c27f4d697e2c96ba5ea3a1c58498796b0c53a7e2e0ee", checked := Tryz.checked }
namespace Rows
def none {H : Type} : Left H := { results := [], args := [] }

/- WHAT THE LISTED PACKAGE-LEVEL VARIABLES READ AS WHEN THE CALL BEGINS. Each datum BY PROGRAM (the guide's laid-datum.mjs) off the statement by which the dump's own 'gosem.cut.vars' lays the variable. In a bare row this is a premise. The card (YtoffnnjbplgnaaaGreatDoorCards.lean) ties it to the program's text. -/
def laid_math_bits_deBruijn32tab {H : Type} : DataW H := .agg [.lit (.int .u8 0), .lit (.int .u8 1), .lit (.int .u8 28), .lit (.int .u8 2), .lit (.int .u8 29), .lit (.int .u8 14), .lit (.int .u8 24), .lit (.int .u8 3), .lit (.int .u8 30), .lit (.int .u8 22), .lit (.int .u8 20), .lit (.int .u8 15), .lit (.int .u8 25), .lit (.int .u8 17), .lit (.int .u8 4), .lit (.int .u8 8), .lit (.int .u8 31), .lit (.int .u8 27), .lit (.int .u8 13), .lit (.int .u8 23), .lit (.int .u8 21), .lit (.int .u8 19), .lit (.int .u8 16), .lit (.int .u8 7), .lit (.int .u8 26), .lit (.int .u8 12), .lit (.int .u8 18), .lit (.int .u8 6), .lit (.int .u8 11), .lit (.int .u8 5), .lit (.int .u8 10), .lit (.int .u8 9)]
def laid_math_bits_deBruijn64tab {H : Type} : DataW H := .agg [.lit (.int .u8 0), .lit (.int .u8 1), .lit (.int .u8 56), .lit (.int .u8 2), .lit (.int .u8 57), .lit (.int .u8 49), .lit (.int .u8 28), .lit (.int .u8 3), .lit (.int .u8 61), .lit (.int .u8 58), .lit (.int .u8 42), .lit (.int .u8 50), .lit (.int .u8 38), .lit (.int .u8 29), .lit (.int .u8 17), .lit (.int .u8 4), .lit (.int .u8 62), .lit (.int .u8 47), .lit (.int .u8 59), .lit (.int .u8 36), .lit (.int .u8 45), .lit (.int .u8 43), .lit (.int .u8 51), .lit (.int .u8 22), .lit (.int .u8 53), .lit (.int .u8 39), .lit (.int .u8 33), .lit (.int .u8 30), .lit (.int .u8 24), .lit (.int .u8 18), .lit (.int .u8 12), .lit (.int .u8 5), .lit (.int .u8 63), .lit (.int .u8 55), .lit (.int .u8 48), .lit (.int .u8 27), .lit (.int .u8 60), .lit (.int .u8 41), .lit (.int .u8 37), .lit (.int .u8 16), .lit (.int .u8 46), .lit (.int .u8 35), .lit (.int .u8 44), .lit (.int .u8 21), .lit (.int .u8 52), .lit (.int .u8 32), .lit (.int .u8 23), .lit (.int .u8 11), .lit (.int .u8 54), .lit (.int .u8 26), .lit (.int .u8 40), .lit (.int .u8 15), .lit (.int .u8 34), .lit (.int .u8 20), .lit (.int .u8 31), .lit (.int .u8 10), .lit (.int .u8 25), .lit (.int .u8 14), .lit (.int .u8 19), .lit (.int .u8 9), .lit (.int .u8 13), .lit (.int .u8 8), .lit (.int .u8 7), .lit (.int .u8 6)]
def laid_internal_strconv_uint64pow10 {H : Type} : DataW H := .agg [.lit (.int .u64 1), .lit (.int .u64 10), .lit (.int .u64 100), .lit (.int .u64 1000), .lit (.int .u64 10000), .lit (.int .u64 100000), .lit (.int .u64 1000000), .lit (.int .u64 10000000), .lit (.int .u64 100000000), .lit (.int .u64 1000000000), .lit (.int .u64 10000000000), .lit (.int .u64 100000000000), .lit (.int .u64 1000000000000), .lit (.int .u64 10000000000000), .lit (.int .u64 100000000000000), .lit (.int .u64 1000000000000000), .lit (.int .u64 10000000000000000), .lit (.int .u64 100000000000000000), .lit (.int .u64 1000000000000000000), .lit (.int .u64 10000000000000000000)]
def laid_strconv_ErrRange {H : Type} : DataW H := .iface "*errors.errorString" (.ptr (.agg [.lit (.string [118, 97, 108, 117, 101, 32, 111, 117, 116, 32, 111, 102, 32, 114, 97, 110, 103, 101])]))
def laid_strconv_ErrSyntax {H : Type} : DataW H := .iface "*errors.errorString" (.ptr (.agg [.lit (.string [105, 110, 118, 97, 108, 105, 100, 32, 115, 121, 110, 116, 97, 120])]))

/-- 'pinfoldlaw08.RollScans': WHATEVER THE INPUT: true; the input reads as it did. -/
def rollScansSpec : ChangeSpec := { name := "rollScans", fn := fun _ => fun
  | [d] => { results := [.lit (.bool true)], args := [d] }
  | _ => none }
def rollScansRow : OpenClaim := { program := "ytoffnnjbplgnaaagreatdoor", sum := "e1ccb8201599f64e23a2c27f4d697e2c96ba5ea3a1c58498796b0c53a7e2e0ee", func := "pinfold/pinfoldlaw08.RollScans", spec := "rollScans", inPlace := ["internal/abi.NoEscape", "internal/bytealg.IndexByteString", "internal/bytealg.IndexString", "slices.overlaps[pinfold/api.Record]"], unfollowed := true, recurses := true, named := ["internal/strconv.uint64pow10", "math/bits.deBruijn32tab", "math/bits.deBruijn64tab", "internal/bytealg.MaxLen", "strconv.ErrSyntax", "strconv.ErrRange"], plainKeys := false, apart := false, laid := [("math/bits.deBruijn32tab", laid_math_bits_deBruijn32tab), ("math/bits.deBruijn64tab", laid_math_bits_deBruijn64tab), ("internal/strconv.uint64pow10", laid_internal_strconv_uint64pow10), ("strconv.ErrRange", laid_strconv_ErrRange), ("strconv.ErrSyntax", laid_strconv_ErrSyntax)] }
def RollScansSaid : Prop := rollScansRow.holds Tryz.pinned (OpenSpec.ofChange rollScansSpec)

/-- ITS FALSE NEIGHBOUR: 'it returns false'. Refute it at one input. -/
def rollScansWrong : ChangeSpec := { name := "rollScans", fn := fun _ => fun
  | [d] => { results := [.lit (.bool false)], args := [d] }
  | _ => none }
def RollScansWrongFalsely : Prop := rollScansRow.holds Tryz.pinned (OpenSpec.ofChange rollScansWrong)

/-- 'pinfoldlaw08.RollStorms': WHATEVER THE INPUT: true; the input reads as it did. -/
def rollStormsSpec : ChangeSpec := { name := "rollStorms", fn := fun _ => fun
  | [d1, d2] => { results := [.lit (.bool true)], args := [d1, d2] }
  | _ => none }
def rollStormsRow : OpenClaim := { program := "ytoffnnjbplgnaaagreatdoor", sum := "e1ccb8201599f64e23a2c27f4d697e2c96ba5ea3a1c58498796b0c53a7e2e0ee", func := "pinfold/pinfoldlaw08.RollStorms", spec := "rollStorms", inPlace := ["internal/abi.NoEscape", "internal/bytealg.IndexByteString", "internal/bytealg.IndexString", "slices.overlaps[pinfold/api.Record]"], unfollowed := true, recurses := true, named := ["internal/strconv.uint64pow10", "math/bits.deBruijn32tab", "math/bits.deBruijn64tab", "internal/bytealg.MaxLen", "strconv.ErrSyntax", "strconv.ErrRange"], plainKeys := false, apart := false, laid := [("math/bits.deBruijn32tab", laid_math_bits_deBruijn32tab), ("math/bits.deBruijn64tab", laid_math_bits_deBruijn64tab), ("internal/strconv.uint64pow10", laid_internal_strconv_uint64pow10), ("strconv.ErrRange", laid_strconv_ErrRange), ("strconv.ErrSyntax", laid_strconv_ErrSyntax)] }
def RollStormsSaid : Prop := rollStormsRow.holds Tryz.pinned (OpenSpec.ofChange rollStormsSpec)

/-- ITS FALSE NEIGHBOUR: 'it returns false'. Refute it at one input. -/
def rollStormsWrong : ChangeSpec := { name := "rollStorms", fn := fun _ => fun
  | [d1, d2] => { results := [.lit (.bool false)], args := [d1, d2] }
  | _ => none }
def RollStormsWrongFalsely : Prop := rollStormsRow.holds Tryz.pinned (OpenSpec.ofChange rollStormsWrong)

/-- 'pinfoldlaw08.RollTexts': WHATEVER THE INPUT: true; the input reads as it did. -/
def rollTextsSpec : ChangeSpec := { name := "rollTexts", fn := fun _ => fun
  | [d1, d2, d3] => { results := [.lit (.bool true)], args := [d1, d2, d3] }
  | _ => none }
def rollTextsRow : OpenClaim := { program := "ytoffnnjbplgnaaagreatdoor", sum := "e1ccb8201599f64e23a2c27f4d697e2c96ba5ea3a1c58498796b0c53a7e2e0ee", func := "pinfold/pinfoldlaw08.RollTexts", spec := "rollTexts", inPlace := ["internal/abi.NoEscape", "internal/bytealg.IndexByteString", "internal/bytealg.IndexString", "slices.overlaps[pinfold/api.Record]"], unfollowed := true, recurses := true, named := ["internal/strconv.uint64pow10", "math/bits.deBruijn32tab", "math/bits.deBruijn64tab", "internal/bytealg.MaxLen", "strconv.ErrSyntax", "strconv.ErrRange"], plainKeys := false, apart := false, laid := [("math/bits.deBruijn32tab", laid_math_bits_deBruijn32tab), ("math/bits.deBruijn64tab", laid_math_bits_deBruijn64tab), ("internal/strconv.uint64pow10", laid_internal_strconv_uint64pow10), ("strconv.ErrRange", laid_strconv_ErrRange), ("strconv.ErrSyntax", laid_strconv_ErrSyntax)] }
def RollTextsSaid : Prop := rollTextsRow.holds Tryz.pinned (OpenSpec.ofChange rollTextsSpec)

/-- ITS FALSE NEIGHBOUR: 'it returns false'. Refute it at one input. -/
def rollTextsWrong : ChangeSpec := { name := "rollTexts", fn := fun _ => fun
  | [d1, d2, d3] => { results := [.lit (.bool false)], args := [d1, d2, d3] }
  | _ => none }
def RollTextsWrongFalsely : Prop := rollTextsRow.holds Tryz.pinned (OpenSpec.ofChange rollTextsWrong)

/-- 'pinfoldlaw08.RollLines': WHATEVER THE INPUT: true; the input reads as it did. -/
def rollLinesSpec : ChangeSpec := { name := "rollLines", fn := fun _ => fun
  | [d1, d2] => { results := [.lit (.bool true)], args := [d1, d2] }
  | _ => none }
def rollLinesRow : OpenClaim := { program := "ytoffnnjbplgnaaagreatdoor", sum := "e1ccb8201599f64e23a2c27f4d697e2c96ba5ea3a1c58498796b0c53a7e2e0ee", func := "pinfold/pinfoldlaw08.RollLines", spec := "rollLines", inPlace := ["internal/abi.NoEscape", "internal/bytealg.IndexByteString", "internal/bytealg.IndexString", "slices.overlaps[pinfold/api.Record]"], unfollowed := true, recurses := true, named := ["internal/strconv.uint64pow10", "math/bits.deBruijn32tab", "math/bits.deBruijn64tab", "internal/bytealg.MaxLen", "strconv.ErrSyntax", "strconv.ErrRange"], plainKeys := false, apart := false, laid := [("math/bits.deBruijn32tab", laid_math_bits_deBruijn32tab), ("math/bits.deBruijn64tab", laid_math_bits_deBruijn64tab), ("internal/strconv.uint64pow10", laid_internal_strconv_uint64pow10), ("strconv.ErrRange", laid_strconv_ErrRange), ("strconv.ErrSyntax", laid_strconv_ErrSyntax)] }
def RollLinesSaid : Prop := rollLinesRow.holds Tryz.pinned (OpenSpec.ofChange rollLinesSpec)

/-- ITS FALSE NEIGHBOUR: 'it returns false'. Refute it at one input. -/
def rollLinesWrong : ChangeSpec := { name := "rollLines", fn := fun _ => fun
  | [d1, d2] => { results := [.lit (.bool false)], args := [d1, d2] }
  | _ => none }
def RollLinesWrongFalsely : Prop := rollLinesRow.holds Tryz.pinned (OpenSpec.ofChange rollLinesWrong)

/-- 'pinfoldlaw08.RollWrites': WHATEVER THE INPUT: true; the input reads as it did. -/
def rollWritesSpec : ChangeSpec := { name := "rollWrites", fn := fun _ => fun
  | [d1, d2, d3] => { results := [.lit (.bool true)], args := [d1, d2, d3] }
  | _ => none }
def rollWritesRow : OpenClaim := { program := "ytoffnnjbplgnaaagreatdoor", sum := "e1ccb8201599f64e23a2c27f4d697e2c96ba5ea3a1c58498796b0c53a7e2e0ee", func := "pinfold/pinfoldlaw08.RollWrites", spec := "rollWrites", inPlace := ["internal/abi.NoEscape", "internal/bytealg.IndexByteString", "internal/bytealg.IndexString", "slices.overlaps[pinfold/api.Record]"], unfollowed := true, recurses := true, named := ["internal/strconv.uint64pow10", "math/bits.deBruijn32tab", "math/bits.deBruijn64tab", "internal/bytealg.MaxLen", "strconv.ErrSyntax", "strconv.ErrRange"], plainKeys := false, apart := false, laid := [("math/bits.deBruijn32tab", laid_math_bits_deBruijn32tab), ("math/bits.deBruijn64tab", laid_math_bits_deBruijn64tab), ("internal/strconv.uint64pow10", laid_internal_strconv_uint64pow10), ("strconv.ErrRange", laid_strconv_ErrRange), ("strconv.ErrSyntax", laid_strconv_ErrSyntax)] }
def RollWritesSaid : Prop := rollWritesRow.holds Tryz.pinned (OpenSpec.ofChange rollWritesSpec)

/-- ITS FALSE NEIGHBOUR: 'it returns false'. Refute it at one input. -/
def rollWritesWrong : ChangeSpec := { name := "rollWrites", fn := fun _ => fun
  | [d1, d2, d3] => { results := [.lit (.bool false)], args := [d1, d2, d3] }
  | _ => none }
def RollWritesWrongFalsely : Prop := rollWritesRow.holds Tryz.pinned (OpenSpec.ofChange rollWritesWrong)

/-- 'pinfoldlaw08.RollStorm': WHATEVER THE INPUT: true; the input reads as it did. -/
def rollStormSpec : ChangeSpec := { name := "rollStorm", fn := fun _ => fun
  | [d1, d2, d3] => { results := [.lit (.bool true)], args := [d1, d2, d3] }
  | _ => none }
def rollStormRow : OpenClaim := { program := "ytoffnnjbplgnaaagreatdoor", sum := "e1ccb8201599f64e23a2c27f4d697e2c96ba5ea3a1c58498796b0c53a7e2e0ee", func := "pinfold/pinfoldlaw08.RollStorm", spec := "rollStorm", inPlace := ["internal/abi.NoEscape", "internal/bytealg.IndexByteString", "internal/bytealg.IndexString", "slices.overlaps[pinfold/api.Record]"], unfollowed := true, recurses := true, named := ["internal/strconv.uint64pow10", "math/bits.deBruijn32tab", "math/bits.deBruijn64tab", "internal/bytealg.MaxLen", "strconv.ErrSyntax", "strconv.ErrRange"], plainKeys := false, apart := false, laid := [("math/bits.deBruijn32tab", laid_math_bits_deBruijn32tab), ("math/bits.deBruijn64tab", laid_math_bits_deBruijn64tab), ("internal/strconv.uint64pow10", laid_internal_strconv_uint64pow10), ("strconv.ErrRange", laid_strconv_ErrRange), ("strconv.ErrSyntax", laid_strconv_ErrSyntax)] }
def RollStormSaid : Prop := rollStormRow.holds Tryz.pinned (OpenSpec.ofChange rollStormSpec)

/-- ITS FALSE NEIGHBOUR: 'it returns false'. Refute it at one input. -/
def rollStormWrong : ChangeSpec := { name := "rollStorm", fn := fun _ => fun
  | [d1, d2, d3] => { results := [.lit (.bool false)], args := [d1, d2, d3] }
  | _ => none }
def RollStormWrongFalsely : Prop := rollStormRow.holds Tryz.pinned (OpenSpec.ofChange rollStormWrong)

/-- 'pinfoldlaw08.RollJoins': WHATEVER THE INPUT: true; the input reads as it did. -/
def rollJoinsSpec : ChangeSpec := { name := "rollJoins", fn := fun _ => fun
  | [d1, d2, d3] => { results := [.lit (.bool true)], args := [d1, d2, d3] }
  | _ => none }
def rollJoinsRow : OpenClaim := { program := "ytoffnnjbplgnaaagreatdoor", sum := "e1ccb8201599f64e23a2c27f4d697e2c96ba5ea3a1c58498796b0c53a7e2e0ee", func := "pinfold/pinfoldlaw08.RollJoins", spec := "rollJoins", inPlace := ["internal/abi.NoEscape", "internal/bytealg.IndexByteString", "internal/bytealg.IndexString", "slices.overlaps[pinfold/api.Record]"], unfollowed := true, recurses := true, named := ["internal/strconv.uint64pow10", "math/bits.deBruijn32tab", "math/bits.deBruijn64tab", "internal/bytealg.MaxLen", "strconv.ErrSyntax", "strconv.ErrRange"], plainKeys := false, apart := false, laid := [("math/bits.deBruijn32tab", laid_math_bits_deBruijn32tab), ("math/bits.deBruijn64tab", laid_math_bits_deBruijn64tab), ("internal/strconv.uint64pow10", laid_internal_strconv_uint64pow10), ("strconv.ErrRange", laid_strconv_ErrRange), ("strconv.ErrSyntax", laid_strconv_ErrSyntax)] }
def RollJoinsSaid : Prop := rollJoinsRow.holds Tryz.pinned (OpenSpec.ofChange rollJoinsSpec)

/-- ITS FALSE NEIGHBOUR: 'it returns false'. Refute it at one input. -/
def rollJoinsWrong : ChangeSpec := { name := "rollJoins", fn := fun _ => fun
  | [d1, d2, d3] => { results := [.lit (.bool false)], args := [d1, d2, d3] }
  | _ => none }
def RollJoinsWrongFalsely : Prop := rollJoinsRow.holds Tryz.pinned (OpenSpec.ofChange rollJoinsWrong)

/-- 'pinfoldlaw08.RollSums': WHATEVER THE INPUT: true; the input reads as it did. -/
def rollSumsSpec : ChangeSpec := { name := "rollSums", fn := fun _ => fun
  | [d1, d2, d3] => { results := [.lit (.bool true)], args := [d1, d2, d3] }
  | _ => none }
def rollSumsRow : OpenClaim := { program := "ytoffnnjbplgnaaagreatdoor", sum := "e1ccb8201599f64e23a2c27f4d697e2c96ba5ea3a1c58498796b0c53a7e2e0ee", func := "pinfold/pinfoldlaw08.RollSums", spec := "rollSums", inPlace := ["internal/abi.NoEscape", "internal/bytealg.IndexByteString", "internal/bytealg.IndexString", "slices.overlaps[pinfold/api.Record]"], unfollowed := true, recurses := true, named := ["internal/strconv.uint64pow10", "math/bits.deBruijn32tab", "math/bits.deBruijn64tab", "internal/bytealg.MaxLen", "strconv.ErrSyntax", "strconv.ErrRange"], plainKeys := false, apart := false, laid := [("math/bits.deBruijn32tab", laid_math_bits_deBruijn32tab), ("math/bits.deBruijn64tab", laid_math_bits_deBruijn64tab), ("internal/strconv.uint64pow10", laid_internal_strconv_uint64pow10), ("strconv.ErrRange", laid_strconv_ErrRange), ("strconv.ErrSyntax", laid_strconv_ErrSyntax)] }
def RollSumsSaid : Prop := rollSumsRow.holds Tryz.pinned (OpenSpec.ofChange rollSumsSpec)

/-- ITS FALSE NEIGHBOUR: 'it returns false'. Refute it at one input. -/
def rollSumsWrong : ChangeSpec := { name := "rollSums", fn := fun _ => fun
  | [d1, d2, d3] => { results := [.lit (.bool false)], args := [d1, d2, d3] }
  | _ => none }
def RollSumsWrongFalsely : Prop := rollSumsRow.holds Tryz.pinned (OpenSpec.ofChange rollSumsWrong)

/-- 'pinfoldlaw08.RollBooks': WHATEVER THE INPUT: true; the input reads as it did. -/
def rollBooksSpec : ChangeSpec := { name := "rollBooks", fn := fun _ => fun
  | [d1, d2] => { results := [.lit (.bool true)], args := [d1, d2] }
  | _ => none }
def rollBooksRow : OpenClaim := { program := "ytoffnnjbplgnaaagreatdoor", sum := "e1ccb8201599f64e23a2c27f4d697e2c96ba5ea3a1c58498796b0c53a7e2e0ee", func := "pinfold/pinfoldlaw08.RollBooks", spec := "rollBooks", inPlace := ["internal/abi.NoEscape", "internal/bytealg.IndexByteString", "internal/bytealg.IndexString", "slices.overlaps[pinfold/api.Record]"], unfollowed := true, recurses := true, named := ["internal/strconv.uint64pow10", "math/bits.deBruijn32tab", "math/bits.deBruijn64tab", "internal/bytealg.MaxLen", "strconv.ErrSyntax", "strconv.ErrRange"], plainKeys := false, apart := false, laid := [("math/bits.deBruijn32tab", laid_math_bits_deBruijn32tab), ("math/bits.deBruijn64tab", laid_math_bits_deBruijn64tab), ("internal/strconv.uint64pow10", laid_internal_strconv_uint64pow10), ("strconv.ErrRange", laid_strconv_ErrRange), ("strconv.ErrSyntax", laid_strconv_ErrSyntax)] }
def RollBooksSaid : Prop := rollBooksRow.holds Tryz.pinned (OpenSpec.ofChange rollBooksSpec)

/-- ITS FALSE NEIGHBOUR: 'it returns false'. Refute it at one input. -/
def rollBooksWrong : ChangeSpec := { name := "rollBooks", fn := fun _ => fun
  | [d1, d2] => { results := [.lit (.bool false)], args := [d1, d2] }
  | _ => none }
def RollBooksWrongFalsely : Prop := rollBooksRow.holds Tryz.pinned (OpenSpec.ofChange rollBooksWrong)

/-- 'pinfoldlaw08.RollOffices': WHATEVER THE INPUT: true; the input reads as it did. -/
def rollOfficesSpec : ChangeSpec := { name := "rollOffices", fn := fun _ => fun
  | [d1, d2] => { results := [.lit (.bool true)], args := [d1, d2] }
  | _ => none }
def rollOfficesRow : OpenClaim := { program := "ytoffnnjbplgnaaagreatdoor", sum := "e1ccb8201599f64e23a2c27f4d697e2c96ba5ea3a1c58498796b0c53a7e2e0ee", func := "pinfold/pinfoldlaw08.RollOffices", spec := "rollOffices", inPlace := ["internal/abi.NoEscape", "internal/bytealg.IndexByteString", "internal/bytealg.IndexString", "slices.overlaps[pinfold/api.Record]"], unfollowed := true, recurses := true, named := ["internal/strconv.uint64pow10", "math/bits.deBruijn32tab", "math/bits.deBruijn64tab", "internal/bytealg.MaxLen", "strconv.ErrSyntax", "strconv.ErrRange"], plainKeys := false, apart := false, laid := [("math/bits.deBruijn32tab", laid_math_bits_deBruijn32tab), ("math/bits.deBruijn64tab", laid_math_bits_deBruijn64tab), ("internal/strconv.uint64pow10", laid_internal_strconv_uint64pow10), ("strconv.ErrRange", laid_strconv_ErrRange), ("strconv.ErrSyntax", laid_strconv_ErrSyntax)] }
def RollOfficesSaid : Prop := rollOfficesRow.holds Tryz.pinned (OpenSpec.ofChange rollOfficesSpec)

/-- ITS FALSE NEIGHBOUR: 'it returns false'. Refute it at one input. -/
def rollOfficesWrong : ChangeSpec := { name := "rollOffices", fn := fun _ => fun
  | [d1, d2] => { results := [.lit (.bool false)], args := [d1, d2] }
  | _ => none }
def RollOfficesWrongFalsely : Prop := rollOfficesRow.holds Tryz.pinned (OpenSpec.ofChange rollOfficesWrong)

/-- 'pinfoldlaw08.RollLetters': WHATEVER THE INPUT: true; the input reads as it did. -/
def rollLettersSpec : ChangeSpec := { name := "rollLetters", fn := fun _ => fun
  | [d1, d2] => { results := [.lit (.bool true)], args := [d1, d2] }
  | _ => none }
def rollLettersRow : OpenClaim := { program := "ytoffnnjbplgnaaagreatdoor", sum := "e1ccb8201599f64e23a2c27f4d697e2c96ba5ea3a1c58498796b0c53a7e2e0ee", func := "pinfold/pinfoldlaw08.RollLetters", spec := "rollLetters", inPlace := ["internal/abi.NoEscape", "internal/bytealg.IndexByteString", "internal/bytealg.IndexString", "slices.overlaps[pinfold/api.Record]"], unfollowed := true, recurses := true, named := ["internal/strconv.uint64pow10", "math/bits.deBruijn32tab", "math/bits.deBruijn64tab", "internal/bytealg.MaxLen", "strconv.ErrSyntax", "strconv.ErrRange"], plainKeys := false, apart := false, laid := [("math/bits.deBruijn32tab", laid_math_bits_deBruijn32tab), ("math/bits.deBruijn64tab", laid_math_bits_deBruijn64tab), ("internal/strconv.uint64pow10", laid_internal_strconv_uint64pow10), ("strconv.ErrRange", laid_strconv_ErrRange), ("strconv.ErrSyntax", laid_strconv_ErrSyntax)] }
def RollLettersSaid : Prop := rollLettersRow.holds Tryz.pinned (OpenSpec.ofChange rollLettersSpec)

/-- ITS FALSE NEIGHBOUR: 'it returns false'. Refute it at one input. -/
def rollLettersWrong : ChangeSpec := { name := "rollLetters", fn := fun _ => fun
  | [d1, d2] => { results := [.lit (.bool false)], args := [d1, d2] }
  | _ => none }
def RollLettersWrongFalsely : Prop := rollLettersRow.holds Tryz.pinned (OpenSpec.ofChange rollLettersWrong)

/- THE SECOND FORM. 'bulk': how many values and letters a reading holds, each counted each time it is reached (what is shared counts as often as it is met; a slice's spare places count too). A statement '..UptoSaid' is the law's where the arguments, and the package variables that the reading takes, are together of bulk at most 1048576: NARROWER than '..Said'. Prove '..Said' where nothing that the law and all that it calls make is longer than what came in: it says more and counts as full. Else prove '..UptoSaid'. A law counts once. -/
mutual
def uptoBulk {H : Type} : DataW H → Nat
  | .lit (.string bytes) => bytes.length + 1
  | .lit _ => 1
  | .nil => 1
  | .ptr d => uptoBulk d + 1
  | .slice elems spare => uptoBulkAll elems + uptoBulkAll spare + 1
  | .agg parts => uptoBulkAll parts + 1
  | .iface _ d => uptoBulk d + 1
  | .map entries => uptoBulkEntries entries + 1
  | .held _ => 1
def uptoBulkAll {H : Type} : List (DataW H) → Nat
  | [] => 0
  | d :: r => uptoBulk d + uptoBulkAll r
def uptoBulkEntries {H : Type} : List (Lit × DataW H) → Nat
  | [] => 0
  | x :: r => uptoBulkEntry x + uptoBulkEntries r
def uptoBulkEntry {H : Type} : Lit × DataW H → Nat
  | (.string bytes, d) => bytes.length + uptoBulk d + 1
  | (_, d) => uptoBulk d + 1
 end
def uptoSmall : (H : Type) → List (DataW H) → Bool := fun _ ds => decide (uptoBulkAll ds ≤ 1048576)
def OpenSpec.upto (s : _root_.Go.ChangeSpec) : _root_.Go.OpenSpec := { _root_.Go.OpenSpec.ofChange s with cond := some uptoSmall }

/-- 'pinfoldlaw08.RollScans', WHERE WHAT IT READS IS OF BULK AT MOST 1048576: true; the input reads as it did. -/
def rollScansUptoRow : OpenClaim := { program := "ytoffnnjbplgnaaagreatdoor", sum := "e1ccb8201599f64e23a2c27f4d697e2c96ba5ea3a1c58498796b0c53a7e2e0ee", func := "pinfold/pinfoldlaw08.RollScans", spec := "rollScans", inPlace := ["internal/abi.NoEscape", "internal/bytealg.IndexByteString", "internal/bytealg.IndexString", "slices.overlaps[pinfold/api.Record]"], unfollowed := true, recurses := true, named := ["internal/strconv.uint64pow10", "math/bits.deBruijn32tab", "math/bits.deBruijn64tab", "internal/bytealg.MaxLen", "strconv.ErrSyntax", "strconv.ErrRange"], plainKeys := false, apart := false, laid := [("math/bits.deBruijn32tab", laid_math_bits_deBruijn32tab), ("math/bits.deBruijn64tab", laid_math_bits_deBruijn64tab), ("internal/strconv.uint64pow10", laid_internal_strconv_uint64pow10), ("strconv.ErrRange", laid_strconv_ErrRange), ("strconv.ErrSyntax", laid_strconv_ErrSyntax)], narrowed := true }
def RollScansUptoSaid : Prop := rollScansUptoRow.holds Tryz.pinned (OpenSpec.upto rollScansSpec)

/-- 'pinfoldlaw08.RollStorms', WHERE WHAT IT READS IS OF BULK AT MOST 1048576: true; the input reads as it did. -/
def rollStormsUptoRow : OpenClaim := { program := "ytoffnnjbplgnaaagreatdoor", sum := "e1ccb8201599f64e23a2c27f4d697e2c96ba5ea3a1c58498796b0c53a7e2e0ee", func := "pinfold/pinfoldlaw08.RollStorms", spec := "rollStorms", inPlace := ["internal/abi.NoEscape", "internal/bytealg.IndexByteString", "internal/bytealg.IndexString", "slices.overlaps[pinfold/api.Record]"], unfollowed := true, recurses := true, named := ["internal/strconv.uint64pow10", "math/bits.deBruijn32tab", "math/bits.deBruijn64tab", "internal/bytealg.MaxLen", "strconv.ErrSyntax", "strconv.ErrRange"], plainKeys := false, apart := false, laid := [("math/bits.deBruijn32tab", laid_math_bits_deBruijn32tab), ("math/bits.deBruijn64tab", laid_math_bits_deBruijn64tab), ("internal/strconv.uint64pow10", laid_internal_strconv_uint64pow10), ("strconv.ErrRange", laid_strconv_ErrRange), ("strconv.ErrSyntax", laid_strconv_ErrSyntax)], narrowed := true }
def RollStormsUptoSaid : Prop := rollStormsUptoRow.holds Tryz.pinned (OpenSpec.upto rollStormsSpec)

/-- 'pinfoldlaw08.RollTexts', WHERE WHAT IT READS IS OF BULK AT MOST 1048576: true; the input reads as it did. -/
def rollTextsUptoRow : OpenClaim := { program := "ytoffnnjbplgnaaagreatdoor", sum := "e1ccb8201599f64e23a2c27f4d697e2c96ba5ea3a1c58498796b0c53a7e2e0ee", func := "pinfold/pinfoldlaw08.RollTexts", spec := "rollTexts", inPlace := ["internal/abi.NoEscape", "internal/bytealg.IndexByteString", "internal/bytealg.IndexString", "slices.overlaps[pinfold/api.Record]"], unfollowed := true, recurses := true, named := ["internal/strconv.uint64pow10", "math/bits.deBruijn32tab", "math/bits.deBruijn64tab", "internal/bytealg.MaxLen", "strconv.ErrSyntax", "strconv.ErrRange"], plainKeys := false, apart := false, laid := [("math/bits.deBruijn32tab", laid_math_bits_deBruijn32tab), ("math/bits.deBruijn64tab", laid_math_bits_deBruijn64tab), ("internal/strconv.uint64pow10", laid_internal_strconv_uint64pow10), ("strconv.ErrRange", laid_strconv_ErrRange), ("strconv.ErrSyntax", laid_strconv_ErrSyntax)], narrowed := true }
def RollTextsUptoSaid : Prop := rollTextsUptoRow.holds Tryz.pinned (OpenSpec.upto rollTextsSpec)

/-- 'pinfoldlaw08.RollLines', WHERE WHAT IT READS IS OF BULK AT MOST 1048576: true; the input reads as it did. -/
def rollLinesUptoRow : OpenClaim := { program := "ytoffnnjbplgnaaagreatdoor", sum := "e1ccb8201599f64e23a2c27f4d697e2c96ba5ea3a1c58498796b0c53a7e2e0ee", func := "pinfold/pinfoldlaw08.RollLines", spec := "rollLines", inPlace := ["internal/abi.NoEscape", "internal/bytealg.IndexByteString", "internal/bytealg.IndexString", "slices.overlaps[pinfold/api.Record]"], unfollowed := true, recurses := true, named := ["internal/strconv.uint64pow10", "math/bits.deBruijn32tab", "math/bits.deBruijn64tab", "internal/bytealg.MaxLen", "strconv.ErrSyntax", "strconv.ErrRange"], plainKeys := false, apart := false, laid := [("math/bits.deBruijn32tab", laid_math_bits_deBruijn32tab), ("math/bits.deBruijn64tab", laid_math_bits_deBruijn64tab), ("internal/strconv.uint64pow10", laid_internal_strconv_uint64pow10), ("strconv.ErrRange", laid_strconv_ErrRange), ("strconv.ErrSyntax", laid_strconv_ErrSyntax)], narrowed := true }
def RollLinesUptoSaid : Prop := rollLinesUptoRow.holds Tryz.pinned (OpenSpec.upto rollLinesSpec)

/-- 'pinfoldlaw08.RollWrites', WHERE WHAT IT READS IS OF BULK AT MOST 1048576: true; the input reads as it did. -/
def rollWritesUptoRow : OpenClaim := { program := "ytoffnnjbplgnaaagreatdoor", sum := "e1ccb8201599f64e23a2c27f4d697e2c96ba5ea3a1c58498796b0c53a7e2e0ee", func := "pinfold/pinfoldlaw08.RollWrites", spec := "rollWrites", inPlace := ["internal/abi.NoEscape", "internal/bytealg.IndexByteString", "internal/bytealg.IndexString", "slices.overlaps[pinfold/api.Record]"], unfollowed := true, recurses := true, named := ["internal/strconv.uint64pow10", "math/bits.deBruijn32tab", "math/bits.deBruijn64tab", "internal/bytealg.MaxLen", "strconv.ErrSyntax", "strconv.ErrRange"], plainKeys := false, apart := false, laid := [("math/bits.deBruijn32tab", laid_math_bits_deBruijn32tab), ("math/bits.deBruijn64tab", laid_math_bits_deBruijn64tab), ("internal/strconv.uint64pow10", laid_internal_strconv_uint64pow10), ("strconv.ErrRange", laid_strconv_ErrRange), ("strconv.ErrSyntax", laid_strconv_ErrSyntax)], narrowed := true }
def RollWritesUptoSaid : Prop := rollWritesUptoRow.holds Tryz.pinned (OpenSpec.upto rollWritesSpec)

/-- 'pinfoldlaw08.RollStorm', WHERE WHAT IT READS IS OF BULK AT MOST 1048576: true; the input reads as it did. -/
def rollStormUptoRow : OpenClaim := { program := "ytoffnnjbplgnaaagreatdoor", sum := "e1ccb8201599f64e23a2c27f4d697e2c96ba5ea3a1c58498796b0c53a7e2e0ee", func := "pinfold/pinfoldlaw08.RollStorm", spec := "rollStorm", inPlace := ["internal/abi.NoEscape", "internal/bytealg.IndexByteString", "internal/bytealg.IndexString", "slices.overlaps[pinfold/api.Record]"], unfollowed := true, recurses := true, named := ["internal/strconv.uint64pow10", "math/bits.deBruijn32tab", "math/bits.deBruijn64tab", "internal/bytealg.MaxLen", "strconv.ErrSyntax", "strconv.ErrRange"], plainKeys := false, apart := false, laid := [("math/bits.deBruijn32tab", laid_math_bits_deBruijn32tab), ("math/bits.deBruijn64tab", laid_math_bits_deBruijn64tab), ("internal/strconv.uint64pow10", laid_internal_strconv_uint64pow10), ("strconv.ErrRange", laid_strconv_ErrRange), ("strconv.ErrSyntax", laid_strconv_ErrSyntax)], narrowed := true }
def RollStormUptoSaid : Prop := rollStormUptoRow.holds Tryz.pinned (OpenSpec.upto rollStormSpec)

/-- 'pinfoldlaw08.RollJoins', WHERE WHAT IT READS IS OF BULK AT MOST 1048576: true; the input reads as it did. -/
def rollJoinsUptoRow : OpenClaim := { program := "ytoffnnjbplgnaaagreatdoor", sum := "e1ccb8201599f64e23a2c27f4d697e2c96ba5ea3a1c58498796b0c53a7e2e0ee", func := "pinfold/pinfoldlaw08.RollJoins", spec := "rollJoins", inPlace := ["internal/abi.NoEscape", "internal/bytealg.IndexByteString", "internal/bytealg.IndexString", "slices.overlaps[pinfold/api.Record]"], unfollowed := true, recurses := true, named := ["internal/strconv.uint64pow10", "math/bits.deBruijn32tab", "math/bits.deBruijn64tab", "internal/bytealg.MaxLen", "strconv.ErrSyntax", "strconv.ErrRange"], plainKeys := false, apart := false, laid := [("math/bits.deBruijn32tab", laid_math_bits_deBruijn32tab), ("math/bits.deBruijn64tab", laid_math_bits_deBruijn64tab), ("internal/strconv.uint64pow10", laid_internal_strconv_uint64pow10), ("strconv.ErrRange", laid_strconv_ErrRange), ("strconv.ErrSyntax", laid_strconv_ErrSyntax)], narrowed := true }
def RollJoinsUptoSaid : Prop := rollJoinsUptoRow.holds Tryz.pinned (OpenSpec.upto rollJoinsSpec)

/-- 'pinfoldlaw08.RollSums', WHERE WHAT IT READS IS OF BULK AT MOST 1048576: true; the input reads as it did. -/
def rollSumsUptoRow : OpenClaim := { program := "ytoffnnjbplgnaaagreatdoor", sum := "e1ccb8201599f64e23a2c27f4d697e2c96ba5ea3a1c58498796b0c53a7e2e0ee", func := "pinfold/pinfoldlaw08.RollSums", spec := "rollSums", inPlace := ["internal/abi.NoEscape", "internal/bytealg.IndexByteString", "internal/bytealg.IndexString", "slices.overlaps[pinfold/api.Record]"], unfollowed := true, recurses := true, named := ["internal/strconv.uint64pow10", "math/bits.deBruijn32tab", "math/bits.deBruijn64tab", "internal/bytealg.MaxLen", "strconv.ErrSyntax", "strconv.ErrRange"], plainKeys := false, apart := false, laid := [("math/bits.deBruijn32tab", laid_math_bits_deBruijn32tab), ("math/bits.deBruijn64tab", laid_math_bits_deBruijn64tab), ("internal/strconv.uint64pow10", laid_internal_strconv_uint64pow10), ("strconv.ErrRange", laid_strconv_ErrRange), ("strconv.ErrSyntax", laid_strconv_ErrSyntax)], narrowed := true }
def RollSumsUptoSaid : Prop := rollSumsUptoRow.holds Tryz.pinned (OpenSpec.upto rollSumsSpec)

/-- 'pinfoldlaw08.RollBooks', WHERE WHAT IT READS IS OF BULK AT MOST 1048576: true; the input reads as it did. -/
def rollBooksUptoRow : OpenClaim := { program := "ytoffnnjbplgnaaagreatdoor", sum := "e1ccb8201599f64e23a2c27f4d697e2c96ba5ea3a1c58498796b0c53a7e2e0ee", func := "pinfold/pinfoldlaw08.RollBooks", spec := "rollBooks", inPlace := ["internal/abi.NoEscape", "internal/bytealg.IndexByteString", "internal/bytealg.IndexString", "slices.overlaps[pinfold/api.Record]"], unfollowed := true, recurses := true, named := ["internal/strconv.uint64pow10", "math/bits.deBruijn32tab", "math/bits.deBruijn64tab", "internal/bytealg.MaxLen", "strconv.ErrSyntax", "strconv.ErrRange"], plainKeys := false, apart := false, laid := [("math/bits.deBruijn32tab", laid_math_bits_deBruijn32tab), ("math/bits.deBruijn64tab", laid_math_bits_deBruijn64tab), ("internal/strconv.uint64pow10", laid_internal_strconv_uint64pow10), ("strconv.ErrRange", laid_strconv_ErrRange), ("strconv.ErrSyntax", laid_strconv_ErrSyntax)], narrowed := true }
def RollBooksUptoSaid : Prop := rollBooksUptoRow.holds Tryz.pinned (OpenSpec.upto rollBooksSpec)

/-- 'pinfoldlaw08.RollOffices', WHERE WHAT IT READS IS OF BULK AT MOST 1048576: true; the input reads as it did. -/
def rollOfficesUptoRow : OpenClaim := { program := "ytoffnnjbplgnaaagreatdoor", sum := "e1ccb8201599f64e23a2c27f4d697e2c96ba5ea3a1c58498796b0c53a7e2e0ee", func := "pinfold/pinfoldlaw08.RollOffices", spec := "rollOffices", inPlace := ["internal/abi.NoEscape", "internal/bytealg.IndexByteString", "internal/bytealg.IndexString", "slices.overlaps[pinfold/api.Record]"], unfollowed := true, recurses := true, named := ["internal/strconv.uint64pow10", "math/bits.deBruijn32tab", "math/bits.deBruijn64tab", "internal/bytealg.MaxLen", "strconv.ErrSyntax", "strconv.ErrRange"], plainKeys := false, apart := false, laid := [("math/bits.deBruijn32tab", laid_math_bits_deBruijn32tab), ("math/bits.deBruijn64tab", laid_math_bits_deBruijn64tab), ("internal/strconv.uint64pow10", laid_internal_strconv_uint64pow10), ("strconv.ErrRange", laid_strconv_ErrRange), ("strconv.ErrSyntax", laid_strconv_ErrSyntax)], narrowed := true }
def RollOfficesUptoSaid : Prop := rollOfficesUptoRow.holds Tryz.pinned (OpenSpec.upto rollOfficesSpec)

/-- 'pinfoldlaw08.RollLetters', WHERE WHAT IT READS IS OF BULK AT MOST 1048576: true; the input reads as it did. -/
def rollLettersUptoRow : OpenClaim := { program := "ytoffnnjbplgnaaagreatdoor", sum := "e1ccb8201599f64e23a2c27f4d697e2c96ba5ea3a1c58498796b0c53a7e2e0ee", func := "pinfold/pinfoldlaw08.RollLetters", spec := "rollLetters", inPlace := ["internal/abi.NoEscape", "internal/bytealg.IndexByteString", "internal/bytealg.IndexString", "slices.overlaps[pinfold/api.Record]"], unfollowed := true, recurses := true, named := ["internal/strconv.uint64pow10", "math/bits.deBruijn32tab", "math/bits.deBruijn64tab", "internal/bytealg.MaxLen", "strconv.ErrSyntax", "strconv.ErrRange"], plainKeys := false, apart := false, laid := [("math/bits.deBruijn32tab", laid_math_bits_deBruijn32tab), ("math/bits.deBruijn64tab", laid_math_bits_deBruijn64tab), ("internal/strconv.uint64pow10", laid_internal_strconv_uint64pow10), ("strconv.ErrRange", laid_strconv_ErrRange), ("strconv.ErrSyntax", laid_strconv_ErrSyntax)], narrowed := true }
def RollLettersUptoSaid : Prop := rollLettersUptoRow.holds Tryz.pinned (OpenSpec.upto rollLettersSpec)

end Rows
end Go.Proofs.YtoffnnjbplgnaaaGreatDoor
