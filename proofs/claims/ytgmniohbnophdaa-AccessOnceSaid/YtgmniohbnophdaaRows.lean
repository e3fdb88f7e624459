/-
  No cell of these rows narrows 'for every input' (looked for: loops, veiled, ifaces, maps, wideKeys, modest, calm, conditions, laid).
  DERIVED. THE GIVEN ROWS OF THIS SEAT. 5 by the template 'for every input the law returns true; each argument reads behind the call as it read before'; 0 by the template 'total and deterministic' (their statements: YtgmniohbnophdaaTotals.lean).
  GIVEN WITH THE SEED: the statements are not yours to turn. If you find one false, say at which input.
  Laid BY PROGRAM, IN A SANDBOX (cutbox-rows.mjs): the forced cells as the released guide's own fill.sh prints them over the translation 2c42c9b64a0853d8… (all of the seat's roots in one cut). By AI agents, Wed Nov 11 2026. No macro, syntax, notation, axiom, sorry.
-/
import Derived.Test.YtgmniohbnophdaaChecked
import GoSem.Claim
import GoSem.ClaimJoined
import GoSem.ClaimMapViews
import Derived.JoinedTies
import Derived.KernelRfl
namespace Go.Proofs.Ytgmniohbnophdaa
/- THE CELL 'sum', in the pinned program and in every row, IS THE sha256 OF THE DUMP (.gsa) THAT YtgmniohbnophdaaProg.lean LOADS. Nothing in Lean hashes anything: it is a label: what it is worth is what the hold of that sum in a sandbox is worth. -/
noncomputable def Try.pinned : Pinned := { name := "ytgmniohbnophdaa", sum := "2c42c9b64a0853d89eaa953009c7b2fafbd2966a037b8acd8cff84f91c46d646", checked := Try.checked }
namespace Rows
def none {H : Type} : Left H := { results := [], args := [] }

/-- 'radiolinklaw38.AccessOnce': WHATEVER THE INPUT: true; the input reads as it did. -/
def accessOnceSpec : ChangeSpec := { name := "accessOnce", fn := fun _ => fun
  | [d1, d2, d3, d4] => { results := [.lit (.bool true)], args := [d1, d2, d3, d4] }
  | _ => none }
def accessOnceRow : OpenClaim := { program := "ytgmniohbnophdaa", sum := "2c42c9b64a0853d89eaa953009c7b2fafbd2966a037b8acd8cff84f91c46d646", func := "radiolink/radiolinklaw38.AccessOnce", spec := "accessOnce", inPlace := ["slices.overlaps[radiolink/api.Attempt]"], unfollowed := true, recurses := true, apart := false }
def AccessOnceSaid : Prop := accessOnceRow.holds Try.pinned (OpenSpec.ofChange accessOnceSpec)

/-- ITS FALSE NEIGHBOUR: 'it returns false'. Refute it at one input. -/
def accessOnceWrong : ChangeSpec := { name := "accessOnce", fn := fun _ => fun
  | [d1, d2, d3, d4] => { results := [.lit (.bool false)], args := [d1, d2, d3, d4] }
  | _ => none }
def AccessOnceWrongFalsely : Prop := accessOnceRow.holds Try.pinned (OpenSpec.ofChange accessOnceWrong)

/-- 'radiolinklaw38.AccessApart': WHATEVER THE INPUT: true; the input reads as it did. -/
def accessApartSpec : ChangeSpec := { name := "accessApart", fn := fun _ => fun
  | [d1, d2, d3] => { results := [.lit (.bool true)], args := [d1, d2, d3] }
  | _ => none }
def accessApartRow : OpenClaim := { program := "ytgmniohbnophdaa", sum := "2c42c9b64a0853d89eaa953009c7b2fafbd2966a037b8acd8cff84f91c46d646", func := "radiolink/radiolinklaw38.AccessApart", spec := "accessApart", inPlace := ["slices.overlaps[radiolink/api.Attempt]"], unfollowed := true, recurses := true, apart := false }
def AccessApartSaid : Prop := accessApartRow.holds Try.pinned (OpenSpec.ofChange accessApartSpec)

/-- ITS FALSE NEIGHBOUR: 'it returns false'. Refute it at one input. -/
def accessApartWrong : ChangeSpec := { name := "accessApart", fn := fun _ => fun
  | [d1, d2, d3] => { results := [.lit (.bool false)], args := [d1, d2, d3] }
  | _ => none }
def AccessApartWrongFalsely : Prop := accessApartRow.holds Try.pinned (OpenSpec.ofChange accessApartWrong)

/-- 'radiolinklaw38.AccessMany': WHATEVER THE INPUT: true; the input reads as it did. -/
def accessManySpec : ChangeSpec := { name := "accessMany", fn := fun _ => fun
  | [d1, d2, d3] => { results := [.lit (.bool true)], args := [d1, d2, d3] }
  | _ => none }
def accessManyRow : OpenClaim := { program := "ytgmniohbnophdaa", sum := "2c42c9b64a0853d89eaa953009c7b2fafbd2966a037b8acd8cff84f91c46d646", func := "radiolink/radiolinklaw38.AccessMany", spec := "accessMany", inPlace := ["slices.overlaps[radiolink/api.Attempt]"], unfollowed := true, recurses := true, apart := false }
def AccessManySaid : Prop := accessManyRow.holds Try.pinned (OpenSpec.ofChange accessManySpec)

/-- ITS FALSE NEIGHBOUR: 'it returns false'. Refute it at one input. -/
def accessManyWrong : ChangeSpec := { name := "accessMany", fn := fun _ => fun
  | [d1, d2, d3] => { results := [.lit (.bool false)], args := [d1, d2, d3] }
  | _ => none }
def AccessManyWrongFalsely : Prop := accessManyRow.holds Try.pinned (OpenSpec.ofChange accessManyWrong)

/-- 'radiolinklaw38.AccessRaw': WHATEVER THE INPUT: true; the input reads as it did. -/
def accessRawSpec : ChangeSpec := { name := "accessRaw", fn := fun _ => fun
  | [d1, d2, d3, d4, d5] => { results := [.lit (.bool true)], args := [d1, d2, d3, d4, d5] }
  | _ => none }
def accessRawRow : OpenClaim := { program := "ytgmniohbnophdaa", sum := "2c42c9b64a0853d89eaa953009c7b2fafbd2966a037b8acd8cff84f91c46d646", func := "radiolink/radiolinklaw38.AccessRaw", spec := "accessRaw", inPlace := ["slices.overlaps[radiolink/api.Attempt]"], unfollowed := true, recurses := true, apart := false }
def AccessRawSaid : Prop := accessRawRow.holds Try.pinned (OpenSpec.ofChange accessRawSpec)

/-- ITS FALSE NEIGHBOUR: 'it returns false'. Refute it at one input. -/
def accessRawWrong : ChangeSpec := { name := "accessRaw", fn := fun _ => fun
  | [d1, d2, d3, d4, d5] => { results := [.lit (.bool false)], args := [d1, d2, d3, d4, d5] }
  | _ => none }
def AccessRawWrongFalsely : Prop := accessRawRow.holds Try.pinned (OpenSpec.ofChange accessRawWrong)

/-- 'radiolinklaw38.AccessRuns': WHATEVER THE INPUT: true; the input reads as it did. -/
def accessRunsSpec : ChangeSpec := { name := "accessRuns", fn := fun _ => fun
  | [d] => { results := [.lit (.bool true)], args := [d] }
  | _ => none }
def accessRunsRow : OpenClaim := { program := "ytgmniohbnophdaa", sum := "2c42c9b64a0853d89eaa953009c7b2fafbd2966a037b8acd8cff84f91c46d646", func := "radiolink/radiolinklaw38.AccessRuns", spec := "accessRuns", inPlace := ["slices.overlaps[radiolink/api.Attempt]"], unfollowed := true, recurses := true, apart := false }
def AccessRunsSaid : Prop := accessRunsRow.holds Try.pinned (OpenSpec.ofChange accessRunsSpec)

/-- ITS FALSE NEIGHBOUR: 'it returns false'. Refute it at one input. -/
def accessRunsWrong : ChangeSpec := { name := "accessRuns", fn := fun _ => fun
  | [d] => { results := [.lit (.bool false)], args := [d] }
  | _ => none }
def AccessRunsWrongFalsely : Prop := accessRunsRow.holds Try.pinned (OpenSpec.ofChange accessRunsWrong)

/- THE SECOND FORM. 'bulk': how many values and letters a reading holds, each counted each time it is reached (what is shared counts as often as it is met; a slice's spare places count too). A statement '..UptoSaid' is the law's where the arguments, and the package variables that the reading takes, are together of bulk at most 1048576: NARROWER than '..Said'. Prove '..Said' where nothing that the law and all that it calls make is longer than what came in: it says more and counts as full. Else prove '..UptoSaid'. A law counts once. -/
mutual
def uptoBulk {H : Type} : DataW H → Nat
  | .lit (.string bytes) => bytes.length + 1
  | .lit _ => 1
  | .nil => 1
  | .ptr d => uptoBulk d + 1
  | .slice elems spare => uptoBulkAll elems + uptoBulkAll spare + 1
  | .agg parts => uptoBulkAll parts + 1
  | .iface _ d => uptoBulk d + 1
  | .map entries => uptoBulkEntries entries + 1
  | .held _ => 1
def uptoBulkAll {H : Type} : List (DataW H) → Nat
  | [] => 0
  | d :: r => uptoBulk d + uptoBulkAll r
def uptoBulkEntries {H : Type} : List (Lit × DataW H) → Nat
  | [] => 0
  | x :: r => uptoBulkEntry x + uptoBulkEntries r
def uptoBulkEntry {H : Type} : Lit × DataW H → Nat
  | (.string bytes, d) => bytes.length + uptoBulk d + 1
  | (_, d) => uptoBulk d + 1
 end
def uptoSmall : (H : Type) → List (DataW H) → Bool := fun _ ds => decide (uptoBulkAll ds ≤ 1048576)
def OpenSpec.upto (s : _root_.Go.ChangeSpec) : _root_.Go.OpenSpec := { _root_.Go.OpenSpec.ofChange s with cond := some uptoSmall }

/-- 'radiolinklaw38.AccessOnce', WHERE WHAT IT READS IS OF BULK AT MOST 1048576: true; the input reads as it did. -/
def accessOnceUptoRow : OpenClaim := { program := "ytgmniohbnophdaa", sum := "2c42c9b64a0853d89eaa953009c7b2fafbd2966a037b8acd8cff84f91c46d646", func := "radiolink/radiolinklaw38.AccessOnce", spec := "accessOnce", inPlace := ["slices.overlaps[radiolink/api.Attempt]"], unfollowed := true, recurses := true, apart := false, narrowed := true }
def AccessOnceUptoSaid : Prop := accessOnceUptoRow.holds Try.pinned (OpenSpec.upto accessOnceSpec)

/-- 'radiolinklaw38.AccessApart', WHERE WHAT IT READS IS OF BULK AT MOST 1048576: true; the input reads as it did. -/
def accessApartUptoRow : OpenClaim := { program := "ytgmniohbnophdaa", sum := "2c42c9b64a0853d89eaa953009c7b2fafbd2966a037b8acd8cff84f91c46d646", func := "radiolink/radiolinklaw38.AccessApart", spec := "accessApart", inPlace := ["slices.overlaps[radiolink/api.Attempt]"], unfollowed := true, recurses := true, apart := false, narrowed := true }
def AccessApartUptoSaid : Prop := accessApartUptoRow.holds Try.pinned (OpenSpec.upto accessApartSpec)

/-- 'radiolinklaw38.AccessMany', WHERE WHAT IT READS IS OF BULK AT MOST 1048576: true; the input reads as it did. -/
def accessManyUptoRow : OpenClaim := { program := "ytgmniohbnophdaa", sum := "2c42c9b64a0853d89eaa953009c7b2fafbd2966a037b8acd8cff84f91c46d646", func := "radiolink/radiolinklaw38.AccessMany", spec := "accessMany", inPlace := ["slices.overlaps[radiolink/api.Attempt]"], unfollowed := true, recurses := true, apart := false, narrowed := true }
def AccessManyUptoSaid : Prop := accessManyUptoRow.holds Try.pinned (OpenSpec.upto accessManySpec)

/-- 'radiolinklaw38.AccessRaw', WHERE WHAT IT READS IS OF BULK AT MOST 1048576: true; the input reads as it did. -/
def accessRawUptoRow : OpenClaim := { program := "ytgmniohbnophdaa", sum := "2c42c9b64a0853d89eaa953009c7b2fafbd2966a037b8acd8cff84f91c46d646", func := "radiolink/radiolinklaw38.AccessRaw", spec := "accessRaw", inPlace := ["slices.overlaps[radiolink/api.Attempt]"], unfollowed := true, recurses := true, apart := false, narrowed := true }
def AccessRawUptoSaid : Prop := accessRawUptoRow.holds Try.pinned (OpenSpec.upto accessRawSpec)

/-- 'radiolinklaw38.AccessRuns', WHERE WHAT IT READS IS OF BULK AT MOST 1048576: true; the input reads as it did. -/
def accessRunsUptoRow : OpenClaim := { program := "ytgmniohbnophdaa", sum := "2c42c9b64a0853d89eaa953009c7b2fafbd2966a037b8acd8cff84f91c46d646", func := "radiolink/radiolinklaw38.AccessRuns", spec := "accessRuns", inPlace := ["slices.overlaps[radiolink/api.Attempt]"], unfollowed := true, recurses := true, apart := false, narrowed := true }
def AccessRunsUptoSaid : Prop := accessRunsUptoRow.holds Try.pinned (OpenSpec.upto accessRunsSpec)

end Rows
end Go.Proofs.Ytgmniohbnophdaa
