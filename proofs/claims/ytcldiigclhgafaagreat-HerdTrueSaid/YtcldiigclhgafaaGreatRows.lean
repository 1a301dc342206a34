/-
  No cell of these rows narrows 'for every input' (looked for: loops, veiled, ifaces, maps, wideKeys, modest, calm, conditions, laid).
  DERIVED. THE GIVEN ROWS OF THIS SEAT. 11 by the template 'for every input the law returns true; each argument reads behind the call as it read before'; 0 by the template 'total and deterministic' (their statements: YtcldiigclhgafaaGreatTotals.lean).
  GIVEN WITH THE SEED: the statements are not yours to turn. If you find one false, say at which input.
  Laid BY PROGRAM, IN A SANDBOX (cutbox-rows.mjs): the forced cells as the released guide's own fill.sh prints them over the translation 10f3c579ac98095c… (all of the seat's roots in one cut). By AI agents, Wed Nov 11 2026. No macro, syntax, notation, axiom, sorry.
-/
import Derived.Test.YtcldiigclhgafaaGreatChecked
import GoSem.Claim
import GoSem.ClaimJoined
import GoSem.ClaimMapViews
import Derived.JoinedTies
import Derived.KernelRfl
namespace Go.Proofs.YtcldiigclhgafaaGreat
/- THE CELL 'sum', in the pinned program and in every row, IS THE sha256 OF THE DUMP (.gsa) THAT YtcldiigclhgafaaGreatProg.lean LOADS. Nothing in Lean hashes anything: it is a label: what it is worth is what the hold of that sum in a sandbox is worth. -/
noncomputable def Tryz.pinned : Pinned := { name := "ytcldiigclhgafaagreat", sum := "10f3c579ac98095c87e1b90ab4d6cf77a0f56af0789643ea0999b687fa2df0cd", checked := Tryz.checked }
namespace Rows
def none {H : Type} : Left H := { results := [], args := [] }

/-- 'pinfoldlaw04.HerdBearers': WHATEVER THE INPUT: true; the input reads as it did. -/
def herdBearersSpec : ChangeSpec := { name := "herdBearers", fn := fun _ => fun
  | [d1, d2, d3] => { results := [.lit (.bool true)], args := [d1, d2, d3] }
  | _ => none }
def herdBearersRow : OpenClaim := { program := "ytcldiigclhgafaagreat", sum := "10f3c579ac98095c87e1b90ab4d6cf77a0f56af0789643ea0999b687fa2df0cd", func := "pinfold/pinfoldlaw04.HerdBearers", spec := "herdBearers", unfollowed := true, recurses := true, plainKeys := false, apart := false }
def HerdBearersSaid : Prop := herdBearersRow.holds Tryz.pinned (OpenSpec.ofChange herdBearersSpec)

/-- ITS FALSE NEIGHBOUR: 'it returns false'. Refute it at one input. -/
def herdBearersWrong : ChangeSpec := { name := "herdBearers", fn := fun _ => fun
  | [d1, d2, d3] => { results := [.lit (.bool false)], args := [d1, d2, d3] }
  | _ => none }
def HerdBearersWrongFalsely : Prop := herdBearersRow.holds Tryz.pinned (OpenSpec.ofChange herdBearersWrong)

/-- 'pinfoldlaw04.HerdSums': WHATEVER THE INPUT: true; the input reads as it did. -/
def herdSumsSpec : ChangeSpec := { name := "herdSums", fn := fun _ => fun
  | [d1, d2, d3] => { results := [.lit (.bool true)], args := [d1, d2, d3] }
  | _ => none }
def herdSumsRow : OpenClaim := { program := "ytcldiigclhgafaagreat", sum := "10f3c579ac98095c87e1b90ab4d6cf77a0f56af0789643ea0999b687fa2df0cd", func := "pinfold/pinfoldlaw04.HerdSums", spec := "herdSums", unfollowed := true, recurses := true, plainKeys := false, apart := false }
def HerdSumsSaid : Prop := herdSumsRow.holds Tryz.pinned (OpenSpec.ofChange herdSumsSpec)

/-- ITS FALSE NEIGHBOUR: 'it returns false'. Refute it at one input. -/
def herdSumsWrong : ChangeSpec := { name := "herdSums", fn := fun _ => fun
  | [d1, d2, d3] => { results := [.lit (.bool false)], args := [d1, d2, d3] }
  | _ => none }
def HerdSumsWrongFalsely : Prop := herdSumsRow.holds Tryz.pinned (OpenSpec.ofChange herdSumsWrong)

/-- 'pinfoldlaw04.HerdCounts': WHATEVER THE INPUT: true; the input reads as it did. -/
def herdCountsSpec : ChangeSpec := { name := "herdCounts", fn := fun _ => fun
  | [d1, d2, d3] => { results := [.lit (.bool true)], args := [d1, d2, d3] }
  | _ => none }
def herdCountsRow : OpenClaim := { program := "ytcldiigclhgafaagreat", sum := "10f3c579ac98095c87e1b90ab4d6cf77a0f56af0789643ea0999b687fa2df0cd", func := "pinfold/pinfoldlaw04.HerdCounts", spec := "herdCounts", unfollowed := true, recurses := true, plainKeys := false, apart := false }
def HerdCountsSaid : Prop := herdCountsRow.holds Tryz.pinned (OpenSpec.ofChange herdCountsSpec)

/-- ITS FALSE NEIGHBOUR: 'it returns false'. Refute it at one input. -/
def herdCountsWrong : ChangeSpec := { name := "herdCounts", fn := fun _ => fun
  | [d1, d2, d3] => { results := [.lit (.bool false)], args := [d1, d2, d3] }
  | _ => none }
def HerdCountsWrongFalsely : Prop := herdCountsRow.holds Tryz.pinned (OpenSpec.ofChange herdCountsWrong)

/-- 'pinfoldlaw04.HerdTrue': WHATEVER THE INPUT: true; the input reads as it did. -/
def herdTrueSpec : ChangeSpec := { name := "herdTrue", fn := fun _ => fun
  | [d1, d2] => { results := [.lit (.bool true)], args := [d1, d2] }
  | _ => none }
def herdTrueRow : OpenClaim := { program := "ytcldiigclhgafaagreat", sum := "10f3c579ac98095c87e1b90ab4d6cf77a0f56af0789643ea0999b687fa2df0cd", func := "pinfold/pinfoldlaw04.HerdTrue", spec := "herdTrue", unfollowed := true, recurses := true, plainKeys := false, apart := false }
def HerdTrueSaid : Prop := herdTrueRow.holds Tryz.pinned (OpenSpec.ofChange herdTrueSpec)

/-- ITS FALSE NEIGHBOUR: 'it returns false'. Refute it at one input. -/
def herdTrueWrong : ChangeSpec := { name := "herdTrue", fn := fun _ => fun
  | [d1, d2] => { results := [.lit (.bool false)], args := [d1, d2] }
  | _ => none }
def HerdTrueWrongFalsely : Prop := herdTrueRow.holds Tryz.pinned (OpenSpec.ofChange herdTrueWrong)

/-- 'pinfoldlaw04.HerdLines': WHATEVER THE INPUT: true; the input reads as it did. -/
def herdLinesSpec : ChangeSpec := { name := "herdLines", fn := fun _ => fun
  | [d1, d2, d3] => { results := [.lit (.bool true)], args := [d1, d2, d3] }
  | _ => none }
def herdLinesRow : OpenClaim := { program := "ytcldiigclhgafaagreat", sum := "10f3c579ac98095c87e1b90ab4d6cf77a0f56af0789643ea0999b687fa2df0cd", func := "pinfold/pinfoldlaw04.HerdLines", spec := "herdLines", unfollowed := true, recurses := true, plainKeys := false, apart := false }
def HerdLinesSaid : Prop := herdLinesRow.holds Tryz.pinned (OpenSpec.ofChange herdLinesSpec)

/-- ITS FALSE NEIGHBOUR: 'it returns false'. Refute it at one input. -/
def herdLinesWrong : ChangeSpec := { name := "herdLines", fn := fun _ => fun
  | [d1, d2, d3] => { results := [.lit (.bool false)], args := [d1, d2, d3] }
  | _ => none }
def HerdLinesWrongFalsely : Prop := herdLinesRow.holds Tryz.pinned (OpenSpec.ofChange herdLinesWrong)

/-- 'pinfoldlaw04.HerdKnown': WHATEVER THE INPUT: true; the input reads as it did. -/
def herdKnownSpec : ChangeSpec := { name := "herdKnown", fn := fun _ => fun
  | [d1, d2, d3] => { results := [.lit (.bool true)], args := [d1, d2, d3] }
  | _ => none }
def herdKnownRow : OpenClaim := { program := "ytcldiigclhgafaagreat", sum := "10f3c579ac98095c87e1b90ab4d6cf77a0f56af0789643ea0999b687fa2df0cd", func := "pinfold/pinfoldlaw04.HerdKnown", spec := "herdKnown", unfollowed := true, recurses := true, plainKeys := false, apart := false }
def HerdKnownSaid : Prop := herdKnownRow.holds Tryz.pinned (OpenSpec.ofChange herdKnownSpec)

/-- ITS FALSE NEIGHBOUR: 'it returns false'. Refute it at one input. -/
def herdKnownWrong : ChangeSpec := { name := "herdKnown", fn := fun _ => fun
  | [d1, d2, d3] => { results := [.lit (.bool false)], args := [d1, d2, d3] }
  | _ => none }
def HerdKnownWrongFalsely : Prop := herdKnownRow.holds Tryz.pinned (OpenSpec.ofChange herdKnownWrong)

/-- 'pinfoldlaw04.HerdMoves': WHATEVER THE INPUT: true; the input reads as it did. -/
def herdMovesSpec : ChangeSpec := { name := "herdMoves", fn := fun _ => fun
  | [d1, d2, d3] => { results := [.lit (.bool true)], args := [d1, d2, d3] }
  | _ => none }
def herdMovesRow : OpenClaim := { program := "ytcldiigclhgafaagreat", sum := "10f3c579ac98095c87e1b90ab4d6cf77a0f56af0789643ea0999b687fa2df0cd", func := "pinfold/pinfoldlaw04.HerdMoves", spec := "herdMoves", unfollowed := true, recurses := true, plainKeys := false, apart := false }
def HerdMovesSaid : Prop := herdMovesRow.holds Tryz.pinned (OpenSpec.ofChange herdMovesSpec)

/-- ITS FALSE NEIGHBOUR: 'it returns false'. Refute it at one input. -/
def herdMovesWrong : ChangeSpec := { name := "herdMoves", fn := fun _ => fun
  | [d1, d2, d3] => { results := [.lit (.bool false)], args := [d1, d2, d3] }
  | _ => none }
def HerdMovesWrongFalsely : Prop := herdMovesRow.holds Tryz.pinned (OpenSpec.ofChange herdMovesWrong)

/-- 'pinfoldlaw04.HerdReadings': WHATEVER THE INPUT: true; the input reads as it did. -/
def herdReadingsSpec : ChangeSpec := { name := "herdReadings", fn := fun _ => fun
  | [d1, d2, d3] => { results := [.lit (.bool true)], args := [d1, d2, d3] }
  | _ => none }
def herdReadingsRow : OpenClaim := { program := "ytcldiigclhgafaagreat", sum := "10f3c579ac98095c87e1b90ab4d6cf77a0f56af0789643ea0999b687fa2df0cd", func := "pinfold/pinfoldlaw04.HerdReadings", spec := "herdReadings", unfollowed := true, recurses := true, plainKeys := false, apart := false }
def HerdReadingsSaid : Prop := herdReadingsRow.holds Tryz.pinned (OpenSpec.ofChange herdReadingsSpec)

/-- ITS FALSE NEIGHBOUR: 'it returns false'. Refute it at one input. -/
def herdReadingsWrong : ChangeSpec := { name := "herdReadings", fn := fun _ => fun
  | [d1, d2, d3] => { results := [.lit (.bool false)], args := [d1, d2, d3] }
  | _ => none }
def HerdReadingsWrongFalsely : Prop := herdReadingsRow.holds Tryz.pinned (OpenSpec.ofChange herdReadingsWrong)

/-- 'pinfoldlaw04.HerdJoins': WHATEVER THE INPUT: true; the input reads as it did. -/
def herdJoinsSpec : ChangeSpec := { name := "herdJoins", fn := fun _ => fun
  | [d1, d2, d3] => { results := [.lit (.bool true)], args := [d1, d2, d3] }
  | _ => none }
def herdJoinsRow : OpenClaim := { program := "ytcldiigclhgafaagreat", sum := "10f3c579ac98095c87e1b90ab4d6cf77a0f56af0789643ea0999b687fa2df0cd", func := "pinfold/pinfoldlaw04.HerdJoins", spec := "herdJoins", inPlace := ["slices.overlaps[pinfold/api.Event]"], unfollowed := true, recurses := true, plainKeys := false, apart := false }
def HerdJoinsSaid : Prop := herdJoinsRow.holds Tryz.pinned (OpenSpec.ofChange herdJoinsSpec)

/-- ITS FALSE NEIGHBOUR: 'it returns false'. Refute it at one input. -/
def herdJoinsWrong : ChangeSpec := { name := "herdJoins", fn := fun _ => fun
  | [d1, d2, d3] => { results := [.lit (.bool false)], args := [d1, d2, d3] }
  | _ => none }
def HerdJoinsWrongFalsely : Prop := herdJoinsRow.holds Tryz.pinned (OpenSpec.ofChange herdJoinsWrong)

/-- 'pinfoldlaw04.HerdLists': WHATEVER THE INPUT: true; the input reads as it did. -/
def herdListsSpec : ChangeSpec := { name := "herdLists", fn := fun _ => fun
  | [d1, d2, d3] => { results := [.lit (.bool true)], args := [d1, d2, d3] }
  | _ => none }
def herdListsRow : OpenClaim := { program := "ytcldiigclhgafaagreat", sum := "10f3c579ac98095c87e1b90ab4d6cf77a0f56af0789643ea0999b687fa2df0cd", func := "pinfold/pinfoldlaw04.HerdLists", spec := "herdLists", inPlace := ["slices.overlaps[pinfold/api.Event]"], unfollowed := true, recurses := true, plainKeys := false, apart := false }
def HerdListsSaid : Prop := herdListsRow.holds Tryz.pinned (OpenSpec.ofChange herdListsSpec)

/-- ITS FALSE NEIGHBOUR: 'it returns false'. Refute it at one input. -/
def herdListsWrong : ChangeSpec := { name := "herdLists", fn := fun _ => fun
  | [d1, d2, d3] => { results := [.lit (.bool false)], args := [d1, d2, d3] }
  | _ => none }
def HerdListsWrongFalsely : Prop := herdListsRow.holds Tryz.pinned (OpenSpec.ofChange herdListsWrong)

/-- 'pinfoldlaw04.HerdSince': WHATEVER THE INPUT: true; the input reads as it did. -/
def herdSinceSpec : ChangeSpec := { name := "herdSince", fn := fun _ => fun
  | [d1, d2, d3] => { results := [.lit (.bool true)], args := [d1, d2, d3] }
  | _ => none }
def herdSinceRow : OpenClaim := { program := "ytcldiigclhgafaagreat", sum := "10f3c579ac98095c87e1b90ab4d6cf77a0f56af0789643ea0999b687fa2df0cd", func := "pinfold/pinfoldlaw04.HerdSince", spec := "herdSince", inPlace := ["slices.overlaps[pinfold/api.Event]"], unfollowed := true, recurses := true, plainKeys := false, apart := false }
def HerdSinceSaid : Prop := herdSinceRow.holds Tryz.pinned (OpenSpec.ofChange herdSinceSpec)

/-- ITS FALSE NEIGHBOUR: 'it returns false'. Refute it at one input. -/
def herdSinceWrong : ChangeSpec := { name := "herdSince", fn := fun _ => fun
  | [d1, d2, d3] => { results := [.lit (.bool false)], args := [d1, d2, d3] }
  | _ => none }
def HerdSinceWrongFalsely : Prop := herdSinceRow.holds Tryz.pinned (OpenSpec.ofChange herdSinceWrong)

/- THE SECOND FORM. 'bulk': how many values and letters a reading holds, each counted each time it is reached (what is shared counts as often as it is met; a slice's spare places count too). A statement '..UptoSaid' is the law's where the arguments, and the package variables that the reading takes, are together of bulk at most 1048576: NARROWER than '..Said'. Prove '..Said' where nothing that the law and all that it calls make is longer than what came in: it says more and counts as full. Else prove '..UptoSaid'. A law counts once. -/
mutual
def uptoBulk {H : Type} : DataW H → Nat
  | .lit (.string bytes) => bytes.length + 1
  | .lit _ => 1
  | .nil => 1
  | .ptr d => uptoBulk d + 1
  | .slice elems spare => uptoBulkAll elems + uptoBulkAll spare + 1
  | .agg parts => uptoBulkAll parts + 1
  | .iface _ d => uptoBulk d + 1
  | .map entries => uptoBulkEntries entries + 1
  | .held _ => 1
def uptoBulkAll {H : Type} : List (DataW H) → Nat
  | [] => 0
  | d :: r => uptoBulk d + uptoBulkAll r
def uptoBulkEntries {H : Type} : List (Lit × DataW H) → Nat
  | [] => 0
  | x :: r => uptoBulkEntry x + uptoBulkEntries r
def uptoBulkEntry {H : Type} : Lit × DataW H → Nat
  | (.string bytes, d) => bytes.length + uptoBulk d + 1
  | (_, d) => uptoBulk d + 1
 end
def uptoSmall : (H : Type) → List (DataW H) → Bool := fun _ ds => decide (uptoBulkAll ds ≤ 1048576)
def OpenSpec.upto (s : _root_.Go.ChangeSpec) : _root_.Go.OpenSpec := { _root_.Go.OpenSpec.ofChange s with cond := some uptoSmall }

/-- 'pinfoldlaw04.HerdBearers', WHERE WHAT IT READS IS OF BULK AT MOST 1048576: true; the input reads as it did. -/
def herdBearersUptoRow : OpenClaim := { program := "ytcldiigclhgafaagreat", sum := "10f3c579ac98095c87e1b90ab4d6cf77a0f56af0789643ea0999b687fa2df0cd", func := "pinfold/pinfoldlaw04.HerdBearers", spec := "herdBearers", unfollowed := true, recurses := true, plainKeys := false, apart := false, narrowed := true }
def HerdBearersUptoSaid : Prop := herdBearersUptoRow.holds Tryz.pinned (OpenSpec.upto herdBearersSpec)

/-- 'pinfoldlaw04.HerdSums', WHERE WHAT IT READS IS OF BULK AT MOST 1048576: true; the input reads as it did. -/
def herdSumsUptoRow : OpenClaim := { program := "ytcldiigclhgafaagreat", sum := "10f3c579ac98095c87e1b90ab4d6cf77a0f56af0789643ea0999b687fa2df0cd", func := "pinfold/pinfoldlaw04.HerdSums", spec := "herdSums", unfollowed := true, recurses := true, plainKeys := false, apart := false, narrowed := true }
def HerdSumsUptoSaid : Prop := herdSumsUptoRow.holds Tryz.pinned (OpenSpec.upto herdSumsSpec)

/-- 'pinfoldlaw04.HerdCounts', WHERE WHAT IT READS IS OF BULK AT MOST 1048576: true; the input reads as it did. -/
def herdCountsUptoRow : OpenClaim := { program := "ytcldiigclhgafaagreat", sum := "10f3c579ac98095c87e1b90ab4d6cf77a0f56af0789643ea0999b687fa2df0cd", func := "pinfold/pinfoldlaw04.HerdCounts", spec := "herdCounts", unfollowed := true, recurses := true, plainKeys := false, apart := false, narrowed := true }
def HerdCountsUptoSaid : Prop := herdCountsUptoRow.holds Tryz.pinned (OpenSpec.upto herdCountsSpec)

/-- 'pinfoldlaw04.HerdTrue', WHERE WHAT IT READS IS OF BULK AT MOST 1048576: true; the input reads as it did. -/
def herdTrueUptoRow : OpenClaim := { program := "ytcldiigclhgafaagreat", sum := "10f3c579ac98095c87e1b90ab4d6cf77a0f56af0789643ea0999b687fa2df0cd", func := "pinfold/pinfoldlaw04.HerdTrue", spec := "herdTrue", unfollowed := true, recurses := true, plainKeys := false, apart := false, narrowed := true }
def HerdTrueUptoSaid : Prop := herdTrueUptoRow.holds Tryz.pinned (OpenSpec.upto herdTrueSpec)

/-- 'pinfoldlaw04.HerdLines', WHERE WHAT IT READS IS OF BULK AT MOST 1048576: true; the input reads as it did. -/
def herdLinesUptoRow : OpenClaim := { program := "ytcldiigclhgafaagreat", sum := "10f3c579ac98095c87e1b90ab4d6cf77a0f56af0789643ea0999b687fa2df0cd", func := "pinfold/pinfoldlaw04.HerdLines", spec := "herdLines", unfollowed := true, recurses := true, plainKeys := false, apart := false, narrowed := true }
def HerdLinesUptoSaid : Prop := herdLinesUptoRow.holds Tryz.pinned (OpenSpec.upto herdLinesSpec)

/-- 'pinfoldlaw04.HerdKnown', WHERE WHAT IT READS IS OF BULK AT MOST 1048576: true; the input reads as it did. -/
def herdKnownUptoRow : OpenClaim := { program := "ytcldiigclhgafaagreat", sum := "10f3c579ac98095c87e1b90ab4d6cf77a0f56af0789643ea0999b687fa2df0cd", func := "pinfold/pinfoldlaw04.HerdKnown", spec := "herdKnown", unfollowed := true, recurses := true, plainKeys := false, apart := false, narrowed := true }
def HerdKnownUptoSaid : Prop := herdKnownUptoRow.holds Tryz.pinned (OpenSpec.upto herdKnownSpec)

/-- 'pinfoldlaw04.HerdMoves', WHERE WHAT IT READS IS OF BULK AT MOST 1048576: true; the input reads as it did. -/
def herdMovesUptoRow : OpenClaim := { program := "ytcldiigclhgafaagreat", sum := "10f3c579ac98095c87e1b90ab4d6cf77a0f56af0789643ea0999b687fa2df0cd", func := "pinfold/pinfoldlaw04.HerdMoves", spec := "herdMoves", unfollowed := true, recurses := true, plainKeys := false, apart := false, narrowed := true }
def HerdMovesUptoSaid : Prop := herdMovesUptoRow.holds Tryz.pinned (OpenSpec.upto herdMovesSpec)

/-- 'pinfoldlaw04.HerdReadings', WHERE WHAT IT READS IS OF BULK AT MOST 1048576: true; the input reads as it did. -/
def herdReadingsUptoRow : OpenClaim := { program := "ytcldiigclhgafaagreat", sum := "10f3c579ac98095c87e1b90ab4d6cf77a0f56af0789643ea0999b687fa2df0cd", func := "pinfold/pinfoldlaw04.HerdReadings", spec := "herdReadings", unfollowed := true, recurses := true, plainKeys := false, apart := false, narrowed := true }
def HerdReadingsUptoSaid : Prop := herdReadingsUptoRow.holds Tryz.pinned (OpenSpec.upto herdReadingsSpec)

/-- 'pinfoldlaw04.HerdJoins', WHERE WHAT IT READS IS OF BULK AT MOST 1048576: true; the input reads as it did. -/
def herdJoinsUptoRow : OpenClaim := { program := "ytcldiigclhgafaagreat", sum := "10f3c579ac98095c87e1b90ab4d6cf77a0f56af0789643ea0999b687fa2df0cd", func := "pinfold/pinfoldlaw04.HerdJoins", spec := "herdJoins", inPlace := ["slices.overlaps[pinfold/api.Event]"], unfollowed := true, recurses := true, plainKeys := false, apart := false, narrowed := true }
def HerdJoinsUptoSaid : Prop := herdJoinsUptoRow.holds Tryz.pinned (OpenSpec.upto herdJoinsSpec)

/-- 'pinfoldlaw04.HerdLists', WHERE WHAT IT READS IS OF BULK AT MOST 1048576: true; the input reads as it did. -/
def herdListsUptoRow : OpenClaim := { program := "ytcldiigclhgafaagreat", sum := "10f3c579ac98095c87e1b90ab4d6cf77a0f56af0789643ea0999b687fa2df0cd", func := "pinfold/pinfoldlaw04.HerdLists", spec := "herdLists", inPlace := ["slices.overlaps[pinfold/api.Event]"], unfollowed := true, recurses := true, plainKeys := false, apart := false, narrowed := true }
def HerdListsUptoSaid : Prop := herdListsUptoRow.holds Tryz.pinned (OpenSpec.upto herdListsSpec)

/-- 'pinfoldlaw04.HerdSince', WHERE WHAT IT READS IS OF BULK AT MOST 1048576: true; the input reads as it did. -/
def herdSinceUptoRow : OpenClaim := { program := "ytcldiigclhgafaagreat", sum := "10f3c579ac98095c87e1b90ab4d6cf77a0f56af0789643ea0999b687fa2df0cd", func := "pinfold/pinfoldlaw04.HerdSince", spec := "herdSince", inPlace := ["slices.overlaps[pinfold/api.Event]"], unfollowed := true, recurses := true, plainKeys := false, apart := false, narrowed := true }
def HerdSinceUptoSaid : Prop := herdSinceUptoRow.holds Tryz.pinned (OpenSpec.upto herdSinceSpec)

end Rows
end Go.Proofs.YtcldiigclhgafaaGreat
