/-
  No cell of these rows narrows 'for every input' (looked for: loops, veiled, ifaces, maps, wideKeys, modest, calm, conditions, laid).
  DERIVED. THE GIVEN ROWS OF THIS SEAT. 9 by the template 'for every input the law returns true; each argument reads behind the call as it read before'; 0 by the template 'total and deterministic' (their statements: YtkjkbpgdpnapfaaTotals.lean).
  GIVEN WITH THE SEED: the statements are not yours to turn. If you find one false, say at which input.
  Laid BY PROGRAM, IN A SANDBOX (cutbox-rows.mjs): the forced cells as the released guide's own fill.sh prints them over the translation 10fc11fff969eb65… (all of the seat's roots in one cut). By AI agents, Wed Nov 11 2026. No macro, syntax, notation, axiom, sorry.
-/
import Derived.Test.YtkjkbpgdpnapfaaChecked
import GoSem.Claim
import GoSem.ClaimJoined
import GoSem.ClaimMapViews
import Derived.JoinedTies
import Derived.KernelRfl
namespace Go.Proofs.Ytkjkbpgdpnapfaa
/- THE CELL 'sum', in the pinned program and in every row, IS THE sha256 OF THE DUMP (.gsa) THAT YtkjkbpgdpnapfaaProg.lean LOADS. Nothing in Lean hashes anything: it is a label: what it is worth is what the hold of that sum in a sandbox is worth. -/
noncomputable def Try.pinned : Pinned := { name := "ytkjkbpgdpnapfaa", sum := "10fc11fff969eb655803bbacfc177285354c2906c650dea319ac1daccf207c94", checked := Try.checked }
namespace Rows
def none {H : Type} : Left H := { results := [], args := [] }

/-- 'pinfoldlaw01.MarkLooks': WHATEVER THE INPUT: true; the input reads as it did. -/
def markLooksSpec : ChangeSpec := { name := "markLooks", fn := fun _ => fun
  | [d1, d2, d3] => { results := [.lit (.bool true)], args := [d1, d2, d3] }
  | _ => none }
def markLooksRow : OpenClaim := { program := "ytkjkbpgdpnapfaa", sum := "10fc11fff969eb655803bbacfc177285354c2906c650dea319ac1daccf207c94", func := "pinfold/pinfoldlaw01.MarkLooks", spec := "markLooks", unfollowed := true, recurses := true, apart := false }
def MarkLooksSaid : Prop := markLooksRow.holds Try.pinned (OpenSpec.ofChange markLooksSpec)

/-- ITS FALSE NEIGHBOUR: 'it returns false'. Refute it at one input. -/
def markLooksWrong : ChangeSpec := { name := "markLooks", fn := fun _ => fun
  | [d1, d2, d3] => { results := [.lit (.bool false)], args := [d1, d2, d3] }
  | _ => none }
def MarkLooksWrongFalsely : Prop := markLooksRow.holds Try.pinned (OpenSpec.ofChange markLooksWrong)

/-- 'pinfoldlaw01.MarkAgain': WHATEVER THE INPUT: true; the input reads as it did. -/
def markAgainSpec : ChangeSpec := { name := "markAgain", fn := fun _ => fun
  | [d1, d2, d3] => { results := [.lit (.bool true)], args := [d1, d2, d3] }
  | _ => none }
def markAgainRow : OpenClaim := { program := "ytkjkbpgdpnapfaa", sum := "10fc11fff969eb655803bbacfc177285354c2906c650dea319ac1daccf207c94", func := "pinfold/pinfoldlaw01.MarkAgain", spec := "markAgain", unfollowed := true, recurses := true, apart := false }
def MarkAgainSaid : Prop := markAgainRow.holds Try.pinned (OpenSpec.ofChange markAgainSpec)

/-- ITS FALSE NEIGHBOUR: 'it returns false'. Refute it at one input. -/
def markAgainWrong : ChangeSpec := { name := "markAgain", fn := fun _ => fun
  | [d1, d2, d3] => { results := [.lit (.bool false)], args := [d1, d2, d3] }
  | _ => none }
def MarkAgainWrongFalsely : Prop := markAgainRow.holds Try.pinned (OpenSpec.ofChange markAgainWrong)

/-- 'pinfoldlaw01.MarkOwners': WHATEVER THE INPUT: true; the input reads as it did. -/
def markOwnersSpec : ChangeSpec := { name := "markOwners", fn := fun _ => fun
  | [d1, d2, d3] => { results := [.lit (.bool true)], args := [d1, d2, d3] }
  | _ => none }
def markOwnersRow : OpenClaim := { program := "ytkjkbpgdpnapfaa", sum := "10fc11fff969eb655803bbacfc177285354c2906c650dea319ac1daccf207c94", func := "pinfold/pinfoldlaw01.MarkOwners", spec := "markOwners", unfollowed := true, recurses := true, apart := false }
def MarkOwnersSaid : Prop := markOwnersRow.holds Try.pinned (OpenSpec.ofChange markOwnersSpec)

/-- ITS FALSE NEIGHBOUR: 'it returns false'. Refute it at one input. -/
def markOwnersWrong : ChangeSpec := { name := "markOwners", fn := fun _ => fun
  | [d1, d2, d3] => { results := [.lit (.bool false)], args := [d1, d2, d3] }
  | _ => none }
def MarkOwnersWrongFalsely : Prop := markOwnersRow.holds Try.pinned (OpenSpec.ofChange markOwnersWrong)

/-- 'pinfoldlaw01.MarkAright': WHATEVER THE INPUT: true; the input reads as it did. -/
def markArightSpec : ChangeSpec := { name := "markAright", fn := fun _ => fun
  | [d1, d2, d3] => { results := [.lit (.bool true)], args := [d1, d2, d3] }
  | _ => none }
def markArightRow : OpenClaim := { program := "ytkjkbpgdpnapfaa", sum := "10fc11fff969eb655803bbacfc177285354c2906c650dea319ac1daccf207c94", func := "pinfold/pinfoldlaw01.MarkAright", spec := "markAright", unfollowed := true, recurses := true, apart := false }
def MarkArightSaid : Prop := markArightRow.holds Try.pinned (OpenSpec.ofChange markArightSpec)

/-- ITS FALSE NEIGHBOUR: 'it returns false'. Refute it at one input. -/
def markArightWrong : ChangeSpec := { name := "markAright", fn := fun _ => fun
  | [d1, d2, d3] => { results := [.lit (.bool false)], args := [d1, d2, d3] }
  | _ => none }
def MarkArightWrongFalsely : Prop := markArightRow.holds Try.pinned (OpenSpec.ofChange markArightWrong)

/-- 'pinfoldlaw01.MarkApart': WHATEVER THE INPUT: true; the input reads as it did. -/
def markApartSpec : ChangeSpec := { name := "markApart", fn := fun _ => fun
  | [d1, d2, d3] => { results := [.lit (.bool true)], args := [d1, d2, d3] }
  | _ => none }
def markApartRow : OpenClaim := { program := "ytkjkbpgdpnapfaa", sum := "10fc11fff969eb655803bbacfc177285354c2906c650dea319ac1daccf207c94", func := "pinfold/pinfoldlaw01.MarkApart", spec := "markApart", unfollowed := true, recurses := true, apart := false }
def MarkApartSaid : Prop := markApartRow.holds Try.pinned (OpenSpec.ofChange markApartSpec)

/-- ITS FALSE NEIGHBOUR: 'it returns false'. Refute it at one input. -/
def markApartWrong : ChangeSpec := { name := "markApart", fn := fun _ => fun
  | [d1, d2, d3] => { results := [.lit (.bool false)], args := [d1, d2, d3] }
  | _ => none }
def MarkApartWrongFalsely : Prop := markApartRow.holds Try.pinned (OpenSpec.ofChange markApartWrong)

/-- 'pinfoldlaw01.MarkChecks': WHATEVER THE INPUT: true; the input reads as it did. -/
def markChecksSpec : ChangeSpec := { name := "markChecks", fn := fun _ => fun
  | [d1, d2, d3] => { results := [.lit (.bool true)], args := [d1, d2, d3] }
  | _ => none }
def markChecksRow : OpenClaim := { program := "ytkjkbpgdpnapfaa", sum := "10fc11fff969eb655803bbacfc177285354c2906c650dea319ac1daccf207c94", func := "pinfold/pinfoldlaw01.MarkChecks", spec := "markChecks", unfollowed := true, recurses := true, apart := false }
def MarkChecksSaid : Prop := markChecksRow.holds Try.pinned (OpenSpec.ofChange markChecksSpec)

/-- ITS FALSE NEIGHBOUR: 'it returns false'. Refute it at one input. -/
def markChecksWrong : ChangeSpec := { name := "markChecks", fn := fun _ => fun
  | [d1, d2, d3] => { results := [.lit (.bool false)], args := [d1, d2, d3] }
  | _ => none }
def MarkChecksWrongFalsely : Prop := markChecksRow.holds Try.pinned (OpenSpec.ofChange markChecksWrong)

/-- 'pinfoldlaw01.MarkCosts': WHATEVER THE INPUT: true; the input reads as it did. -/
def markCostsSpec : ChangeSpec := { name := "markCosts", fn := fun _ => fun
  | [d1, d2, d3] => { results := [.lit (.bool true)], args := [d1, d2, d3] }
  | _ => none }
def markCostsRow : OpenClaim := { program := "ytkjkbpgdpnapfaa", sum := "10fc11fff969eb655803bbacfc177285354c2906c650dea319ac1daccf207c94", func := "pinfold/pinfoldlaw01.MarkCosts", spec := "markCosts", unfollowed := true, recurses := true, apart := false }
def MarkCostsSaid : Prop := markCostsRow.holds Try.pinned (OpenSpec.ofChange markCostsSpec)

/-- ITS FALSE NEIGHBOUR: 'it returns false'. Refute it at one input. -/
def markCostsWrong : ChangeSpec := { name := "markCosts", fn := fun _ => fun
  | [d1, d2, d3] => { results := [.lit (.bool false)], args := [d1, d2, d3] }
  | _ => none }
def MarkCostsWrongFalsely : Prop := markCostsRow.holds Try.pinned (OpenSpec.ofChange markCostsWrong)

/-- 'pinfoldlaw01.MarkGives': WHATEVER THE INPUT: true; the input reads as it did. -/
def markGivesSpec : ChangeSpec := { name := "markGives", fn := fun _ => fun
  | [d1, d2, d3] => { results := [.lit (.bool true)], args := [d1, d2, d3] }
  | _ => none }
def markGivesRow : OpenClaim := { program := "ytkjkbpgdpnapfaa", sum := "10fc11fff969eb655803bbacfc177285354c2906c650dea319ac1daccf207c94", func := "pinfold/pinfoldlaw01.MarkGives", spec := "markGives", inPlace := ["slices.overlaps[pinfold/api.Given]"], unfollowed := true, recurses := true, apart := false }
def MarkGivesSaid : Prop := markGivesRow.holds Try.pinned (OpenSpec.ofChange markGivesSpec)

/-- ITS FALSE NEIGHBOUR: 'it returns false'. Refute it at one input. -/
def markGivesWrong : ChangeSpec := { name := "markGives", fn := fun _ => fun
  | [d1, d2, d3] => { results := [.lit (.bool false)], args := [d1, d2, d3] }
  | _ => none }
def MarkGivesWrongFalsely : Prop := markGivesRow.holds Try.pinned (OpenSpec.ofChange markGivesWrong)

/-- 'pinfoldlaw01.MarkNext': WHATEVER THE INPUT: true; the input reads as it did. -/
def markNextSpec : ChangeSpec := { name := "markNext", fn := fun _ => fun
  | [d1, d2, d3] => { results := [.lit (.bool true)], args := [d1, d2, d3] }
  | _ => none }
def markNextRow : OpenClaim := { program := "ytkjkbpgdpnapfaa", sum := "10fc11fff969eb655803bbacfc177285354c2906c650dea319ac1daccf207c94", func := "pinfold/pinfoldlaw01.MarkNext", spec := "markNext", inPlace := ["slices.overlaps[pinfold/api.Given]"], unfollowed := true, recurses := true, apart := false }
def MarkNextSaid : Prop := markNextRow.holds Try.pinned (OpenSpec.ofChange markNextSpec)

/-- ITS FALSE NEIGHBOUR: 'it returns false'. Refute it at one input. -/
def markNextWrong : ChangeSpec := { name := "markNext", fn := fun _ => fun
  | [d1, d2, d3] => { results := [.lit (.bool false)], args := [d1, d2, d3] }
  | _ => none }
def MarkNextWrongFalsely : Prop := markNextRow.holds Try.pinned (OpenSpec.ofChange markNextWrong)

/- THE SECOND FORM. 'bulk': how many values and letters a reading holds, each counted each time it is reached (what is shared counts as often as it is met; a slice's spare places count too). A statement '..UptoSaid' is the law's where the arguments, and the package variables that the reading takes, are together of bulk at most 1048576: NARROWER than '..Said'. Prove '..Said' where nothing that the law and all that it calls make is longer than what came in: it says more and counts as full. Else prove '..UptoSaid'. A law counts once. -/
mutual
def uptoBulk {H : Type} : DataW H → Nat
  | .lit (.string bytes) => bytes.length + 1
  | .lit _ => 1
  | .nil => 1
  | .ptr d => uptoBulk d + 1
  | .slice elems spare => uptoBulkAll elems + uptoBulkAll spare + 1
  | .agg parts => uptoBulkAll parts + 1
  | .iface _ d => uptoBulk d + 1
  | .map entries => uptoBulkEntries entries + 1
  | .held _ => 1
def uptoBulkAll {H : Type} : List (DataW H) → Nat
  | [] => 0
  | d :: r => uptoBulk d + uptoBulkAll r
def uptoBulkEntries {H : Type} : List (Lit × DataW H) → Nat
  | [] => 0
  | x :: r => uptoBulkEntry x + uptoBulkEntries r
def uptoBulkEntry {H : Type} : Lit × DataW H → Nat
  | (.string bytes, d) => bytes.length + uptoBulk d + 1
  | (_, d) => uptoBulk d + 1
 end
def uptoSmall : (H : Type) → List (DataW H) → Bool := fun _ ds => decide (uptoBulkAll ds ≤ 1048576)
def OpenSpec.upto (s : _root_.Go.ChangeSpec) : _root_.Go.OpenSpec := { _root_.Go.OpenSpec.ofChange s with cond := some uptoSmall }

/-- 'pinfoldlaw01.MarkLooks', WHERE WHAT IT READS IS OF BULK AT MOST 1048576: true; the input reads as it did. -/
def markLooksUptoRow : OpenClaim := { program := "ytkjkbpgdpnapfaa", sum := "10fc11fff969eb655803bbacfc177285354c2906c650dea319ac1daccf207c94", func := "pinfold/pinfoldlaw01.MarkLooks", spec := "markLooks", unfollowed := true, recurses := true, apart := false, narrowed := true }
def MarkLooksUptoSaid : Prop := markLooksUptoRow.holds Try.pinned (OpenSpec.upto markLooksSpec)

/-- 'pinfoldlaw01.MarkAgain', WHERE WHAT IT READS IS OF BULK AT MOST 1048576: true; the input reads as it did. -/
def markAgainUptoRow : OpenClaim := { program := "ytkjkbpgdpnapfaa", sum := "10fc11fff969eb655803bbacfc177285354c2906c650dea319ac1daccf207c94", func := "pinfold/pinfoldlaw01.MarkAgain", spec := "markAgain", unfollowed := true, recurses := true, apart := false, narrowed := true }
def MarkAgainUptoSaid : Prop := markAgainUptoRow.holds Try.pinned (OpenSpec.upto markAgainSpec)

/-- 'pinfoldlaw01.MarkOwners', WHERE WHAT IT READS IS OF BULK AT MOST 1048576: true; the input reads as it did. -/
def markOwnersUptoRow : OpenClaim := { program := "ytkjkbpgdpnapfaa", sum := "10fc11fff969eb655803bbacfc177285354c2906c650dea319ac1daccf207c94", func := "pinfold/pinfoldlaw01.MarkOwners", spec := "markOwners", unfollowed := true, recurses := true, apart := false, narrowed := true }
def MarkOwnersUptoSaid : Prop := markOwnersUptoRow.holds Try.pinned (OpenSpec.upto markOwnersSpec)

/-- 'pinfoldlaw01.MarkAright', WHERE WHAT IT READS IS OF BULK AT MOST 1048576: true; the input reads as it did. -/
def markArightUptoRow : OpenClaim := { program := "ytkjkbpgdpnapfaa", sum := "10fc11fff969eb655803bbacfc177285354c2906c650dea319ac1daccf207c94", func := "pinfold/pinfoldlaw01.MarkAright", spec := "markAright", unfollowed := true, recurses := true, apart := false, narrowed := true }
def MarkArightUptoSaid : Prop := markArightUptoRow.holds Try.pinned (OpenSpec.upto markArightSpec)

/-- 'pinfoldlaw01.MarkApart', WHERE WHAT IT READS IS OF BULK AT MOST 1048576: true; the input reads as it did. -/
def markApartUptoRow : OpenClaim := { program := "ytkjkbpgdpnapfaa", sum := "10fc11fff969eb655803bbacfc177285354c2906c650dea319ac1daccf207c94", func := "pinfold/pinfoldlaw01.MarkApart", spec := "markApart", unfollowed := true, recurses := true, apart := false, narrowed := true }
def MarkApartUptoSaid : Prop := markApartUptoRow.holds Try.pinned (OpenSpec.upto markApartSpec)

/-- 'pinfoldlaw01.MarkChecks', WHERE WHAT IT READS IS OF BULK AT MOST 1048576: true; the input reads as it did. -/
def markChecksUptoRow : OpenClaim := { program := "ytkjkbpgdpnapfaa", sum := "10fc11fff969eb655803bbacfc177285354c2906c650dea319ac1daccf207c94", func := "pinfold/pinfoldlaw01.MarkChecks", spec := "markChecks", unfollowed := true, recurses := true, apart := false, narrowed := true }
def MarkChecksUptoSaid : Prop := markChecksUptoRow.holds Try.pinned (OpenSpec.upto markChecksSpec)

/-- 'pinfoldlaw01.MarkCosts', WHERE WHAT IT READS IS OF BULK AT MOST 1048576: true; the input reads as it did. -/
def markCostsUptoRow : OpenClaim := { program := "ytkjkbpgdpnapfaa", sum := "10fc11fff969eb655803bbacfc177285354c2906c650dea319ac1daccf207c94", func := "pinfold/pinfoldlaw01.MarkCosts", spec := "markCosts", unfollowed := true, recurses := true, apart := false, narrowed := true }
def MarkCostsUptoSaid : Prop := markCostsUptoRow.holds Try.pinned (OpenSpec.upto markCostsSpec)

/-- 'pinfoldlaw01.MarkGives', WHERE WHAT IT READS IS OF BULK AT MOST 1048576: true; the input reads as it did. -/
def markGivesUptoRow : OpenClaim := { program := "ytkjkbpgdpnapfaa", sum := "10fc11fff969eb655803bbacfc177285354c2906c650dea319ac1daccf207c94", func := "pinfold/pinfoldlaw01.MarkGives", spec := "markGives", inPlace := ["slices.overlaps[pinfold/api.Given]"], unfollowed := true, recurses := true, apart := false, narrowed := true }
def MarkGivesUptoSaid : Prop := markGivesUptoRow.holds Try.pinned (OpenSpec.upto markGivesSpec)

/-- 'pinfoldlaw01.MarkNext', WHERE WHAT IT READS IS OF BULK AT MOST 1048576: true; the input reads as it did. -/
def markNextUptoRow : OpenClaim := { program := "ytkjkbpgdpnapfaa", sum := "10fc11fff969eb655803bbacfc177285354c2906c650dea319ac1daccf207c94", func := "pinfold/pinfoldlaw01.MarkNext", spec := "markNext", inPlace := ["slices.overlaps[pinfold/api.Given]"], unfollowed := true, recurses := true, apart := false, narrowed := true }
def MarkNextUptoSaid : Prop := markNextUptoRow.holds Try.pinned (OpenSpec.upto markNextSpec)

end Rows
end Go.Proofs.Ytkjkbpgdpnapfaa
