/-
  No cell of these rows narrows 'for every input' (looked for: loops, veiled, ifaces, maps, wideKeys, modest, calm, conditions, laid).
  DERIVED. THE GIVEN ROWS OF THIS SEAT. 5 by the template 'for every input the law returns true; each argument reads behind the call as it read before'; 0 by the template 'total and deterministic' (their statements: YtmbppohkadmjgaaGreatTotals.lean).
  GIVEN WITH THE SEED: the statements are not yours to turn. If you find one false, say at which input.
  Laid BY PROGRAM, IN A SANDBOX (cutbox-rows.mjs): the forced cells as the released guide's own fill.sh prints them over the translation 4c983287d5fabbda… (all of the seat's roots in one cut). By AI agents, Wed Nov 11 2026. No macro, syntax, notation, axiom, sorry.
-/
import Derived.Test.YtmbppohkadmjgaaGreatChecked
import GoSem.Claim
import GoSem.ClaimJoined
import GoSem.ClaimMapViews
import Derived.JoinedTies
import Derived.KernelRfl
namespace Go.Proofs.YtmbppohkadmjgaaGreat
/- THE CELL 'sum', in the pinned program and in every row, IS THE sha256 OF THE DUMP (.gsa) THAT YtmbppohkadmjgaaGreatProg.lean LOADS. Nothing in Lean hashes anything: it is a label: what it is worth is what the hold of that sum in a sandbox is worth. -/
noncomputable def Tryz.pinned : Pinned := { name := "ytmbppohkadmjgaagreat", sum := "4c983287d5fabbda1158b06bd921209bc7e45d01b178a053a7f0d56dd7df5398", checked := Tryz.checked }
namespace Rows
def none {H : Type} : Left H := { results := [], args := [] }

/-- 'radiolinklaw22.AmlinkAll': WHATEVER THE INPUT: true; the input reads as it did. -/
def amlinkAllSpec : ChangeSpec := { name := "amlinkAll", fn := fun _ => fun
  | [d] => { results := [.lit (.bool true)], args := [d] }
  | _ => none }
def amlinkAllRow : OpenClaim := { program := "ytmbppohkadmjgaagreat", sum := "4c983287d5fabbda1158b06bd921209bc7e45d01b178a053a7f0d56dd7df5398", func := "radiolink/radiolinklaw22.AmlinkAll", spec := "amlinkAll", inPlace := ["slices.overlaps[radiolink/api.Partial]"], unfollowed := true, recurses := true, apart := false }
def AmlinkAllSaid : Prop := amlinkAllRow.holds Tryz.pinned (OpenSpec.ofChange amlinkAllSpec)

/-- ITS FALSE NEIGHBOUR: 'it returns false'. Refute it at one input. -/
def amlinkAllWrong : ChangeSpec := { name := "amlinkAll", fn := fun _ => fun
  | [d] => { results := [.lit (.bool false)], args := [d] }
  | _ => none }
def AmlinkAllWrongFalsely : Prop := amlinkAllRow.holds Tryz.pinned (OpenSpec.ofChange amlinkAllWrong)

/-- 'radiolinklaw22.AmlinkClean': WHATEVER THE INPUT: true; the input reads as it did. -/
def amlinkCleanSpec : ChangeSpec := { name := "amlinkClean", fn := fun _ => fun
  | [d] => { results := [.lit (.bool true)], args := [d] }
  | _ => none }
def amlinkCleanRow : OpenClaim := { program := "ytmbppohkadmjgaagreat", sum := "4c983287d5fabbda1158b06bd921209bc7e45d01b178a053a7f0d56dd7df5398", func := "radiolink/radiolinklaw22.AmlinkClean", spec := "amlinkClean", inPlace := ["slices.overlaps[radiolink/api.Partial]"], unfollowed := true, recurses := true, apart := false }
def AmlinkCleanSaid : Prop := amlinkCleanRow.holds Tryz.pinned (OpenSpec.ofChange amlinkCleanSpec)

/-- ITS FALSE NEIGHBOUR: 'it returns false'. Refute it at one input. -/
def amlinkCleanWrong : ChangeSpec := { name := "amlinkClean", fn := fun _ => fun
  | [d] => { results := [.lit (.bool false)], args := [d] }
  | _ => none }
def AmlinkCleanWrongFalsely : Prop := amlinkCleanRow.holds Tryz.pinned (OpenSpec.ofChange amlinkCleanWrong)

/-- 'radiolinklaw22.AmlinkRuns': WHATEVER THE INPUT: true; the input reads as it did. -/
def amlinkRunsSpec : ChangeSpec := { name := "amlinkRuns", fn := fun _ => fun
  | [d1, d2, d3] => { results := [.lit (.bool true)], args := [d1, d2, d3] }
  | _ => none }
def amlinkRunsRow : OpenClaim := { program := "ytmbppohkadmjgaagreat", sum := "4c983287d5fabbda1158b06bd921209bc7e45d01b178a053a7f0d56dd7df5398", func := "radiolink/radiolinklaw22.AmlinkRuns", spec := "amlinkRuns", inPlace := ["slices.overlaps[radiolink/api.Partial]"], unfollowed := true, recurses := true, apart := false }
def AmlinkRunsSaid : Prop := amlinkRunsRow.holds Tryz.pinned (OpenSpec.ofChange amlinkRunsSpec)

/-- ITS FALSE NEIGHBOUR: 'it returns false'. Refute it at one input. -/
def amlinkRunsWrong : ChangeSpec := { name := "amlinkRuns", fn := fun _ => fun
  | [d1, d2, d3] => { results := [.lit (.bool false)], args := [d1, d2, d3] }
  | _ => none }
def AmlinkRunsWrongFalsely : Prop := amlinkRunsRow.holds Tryz.pinned (OpenSpec.ofChange amlinkRunsWrong)

/-- 'radiolinklaw22.AmlinkMade': WHATEVER THE INPUT: true; the input reads as it did. -/
def amlinkMadeSpec : ChangeSpec := { name := "amlinkMade", fn := fun _ => fun
  | [d] => { results := [.lit (.bool true)], args := [d] }
  | _ => none }
def amlinkMadeRow : OpenClaim := { program := "ytmbppohkadmjgaagreat", sum := "4c983287d5fabbda1158b06bd921209bc7e45d01b178a053a7f0d56dd7df5398", func := "radiolink/radiolinklaw22.AmlinkMade", spec := "amlinkMade", inPlace := ["slices.overlaps[radiolink/api.Partial]"], unfollowed := true, recurses := true, apart := false }
def AmlinkMadeSaid : Prop := amlinkMadeRow.holds Tryz.pinned (OpenSpec.ofChange amlinkMadeSpec)

/-- ITS FALSE NEIGHBOUR: 'it returns false'. Refute it at one input. -/
def amlinkMadeWrong : ChangeSpec := { name := "amlinkMade", fn := fun _ => fun
  | [d] => { results := [.lit (.bool false)], args := [d] }
  | _ => none }
def AmlinkMadeWrongFalsely : Prop := amlinkMadeRow.holds Tryz.pinned (OpenSpec.ofChange amlinkMadeWrong)

/-- 'radiolinklaw22.AmlinkOnce': WHATEVER THE INPUT: true; the input reads as it did. -/
def amlinkOnceSpec : ChangeSpec := { name := "amlinkOnce", fn := fun _ => fun
  | [d] => { results := [.lit (.bool true)], args := [d] }
  | _ => none }
def amlinkOnceRow : OpenClaim := { program := "ytmbppohkadmjgaagreat", sum := "4c983287d5fabbda1158b06bd921209bc7e45d01b178a053a7f0d56dd7df5398", func := "radiolink/radiolinklaw22.AmlinkOnce", spec := "amlinkOnce", inPlace := ["slices.overlaps[radiolink/api.Partial]"], unfollowed := true, recurses := true, apart := false }
def AmlinkOnceSaid : Prop := amlinkOnceRow.holds Tryz.pinned (OpenSpec.ofChange amlinkOnceSpec)

/-- ITS FALSE NEIGHBOUR: 'it returns false'. Refute it at one input. -/
def amlinkOnceWrong : ChangeSpec := { name := "amlinkOnce", fn := fun _ => fun
  | [d] => { results := [.lit (.bool false)], args := [d] }
  | _ => none }
def AmlinkOnceWrongFalsely : Prop := amlinkOnceRow.holds Tryz.pinned (OpenSpec.ofChange amlinkOnceWrong)

/- THE SECOND FORM. 'bulk': how many values and letters a reading holds, each counted each time it is reached (what is shared counts as often as it is met; a slice's spare places count too). A statement '..UptoSaid' is the law's where the arguments, and the package variables that the reading takes, are together of bulk at most 1048576: NARROWER than '..Said'. Prove '..Said' where nothing that the law and all that it calls make is longer than what came in: it says more and counts as full. Else prove '..UptoSaid'. A law counts once. -/
mutual
def uptoBulk {H : Type} : DataW H → Nat
  | .lit (.string bytes) => bytes.length + 1
  | .lit _ => 1
  | .nil => 1
  | .ptr d => uptoBulk d + 1
  | .slice elems spare => uptoBulkAll elems + uptoBulkAll spare + 1
  | .agg parts => uptoBulkAll parts + 1
  | .iface _ d => uptoBulk d + 1
  | .map entries => uptoBulkEntries entries + 1
  | .held _ => 1
def uptoBulkAll {H : Type} : List (DataW H) → Nat
  | [] => 0
  | d :: r => uptoBulk d + uptoBulkAll r
def uptoBulkEntries {H : Type} : List (Lit × DataW H) → Nat
  | [] => 0
  | x :: r => uptoBulkEntry x + uptoBulkEntries r
def uptoBulkEntry {H : Type} : Lit × DataW H → Nat
  | (.string bytes, d) => bytes.length + uptoBulk d + 1
  | (_, d) => uptoBulk d + 1
 end
def uptoSmall : (H : Type) → List (DataW H) → Bool := fun _ ds => decide (uptoBulkAll ds ≤ 1048576)
def OpenSpec.upto (s : _root_.Go.ChangeSpec) : _root_.Go.OpenSpec := { _root_.Go.OpenSpec.ofChange s with cond := some uptoSmall }

/-- 'radiolinklaw22.AmlinkAll', WHERE WHAT IT READS IS OF BULK AT MOST 1048576: true; the input reads as it did. -/
def amlinkAllUptoRow : OpenClaim := { program := "ytmbppohkadmjgaagreat", sum := "4c983287d5fabbda1158b06bd921209bc7e45d01b178a053a7f0d56dd7df5398", func := "radiolink/radiolinklaw22.AmlinkAll", spec := "amlinkAll", inPlace := ["slices.overlaps[radiolink/api.Partial]"], unfollowed := true, recurses := true, apart := false, narrowed := true }
def AmlinkAllUptoSaid : Prop := amlinkAllUptoRow.holds Tryz.pinned (OpenSpec.upto amlinkAllSpec)

/-- 'radiolinklaw22.AmlinkClean', WHERE WHAT IT READS IS OF BULK AT MOST 1048576: true; the input reads as it did. -/
def amlinkCleanUptoRow : OpenClaim := { program := "ytmbppohkadmjgaagreat", sum := "4c983287d5fabbda1158b06bd921209bc7e45d01b178a053a7f0d56dd7df5398", func := "radiolink/radiolinklaw22.AmlinkClean", spec := "amlinkClean", inPlace := ["slices.overlaps[radiolink/api.Partial]"], unfollowed := true, recurses := true, apart := false, narrowed := true }
def AmlinkCleanUptoSaid : Prop := amlinkCleanUptoRow.holds Tryz.pinned (OpenSpec.upto amlinkCleanSpec)

/-- 'radiolinklaw22.AmlinkRuns', WHERE WHAT IT READS IS OF BULK AT MOST 1048576: true; the input reads as it did. -/
def amlinkRunsUptoRow : OpenClaim := { program := "ytmbppohkadmjgaagreat", sum := "4c983287d5fabbda1158b06bd921209bc7e45d01b178a053a7f0d56dd7df5398", func := "radiolink/radiolinklaw22.AmlinkRuns", spec := "amlinkRuns", inPlace := ["slices.overlaps[radiolink/api.Partial]"], unfollowed := true, recurses := true, apart := false, narrowed := true }
def AmlinkRunsUptoSaid : Prop := amlinkRunsUptoRow.holds Tryz.pinned (OpenSpec.upto amlinkRunsSpec)

/-- 'radiolinklaw22.AmlinkMade', WHERE WHAT IT READS IS OF BULK AT MOST 1048576: true; the input reads as it did. -/
def amlinkMadeUptoRow : OpenClaim := { program := "ytmbppohkadmjgaagreat", sum := "4c983287d5fabbda1158b06bd921209bc7e45d01b178a053a7f0d56dd7df5398", func := "radiolink/radiolinklaw22.AmlinkMade", spec := "amlinkMade", inPlace := ["slices.overlaps[radiolink/api.Partial]"], unfollowed := true, recurses := true, apart := false, narrowed := true }
def AmlinkMadeUptoSaid : Prop := amlinkMadeUptoRow.holds Tryz.pinned (OpenSpec.upto amlinkMadeSpec)

/-- 'radiolinklaw22.AmlinkOnce', WHERE WHAT IT READS IS OF BULK AT MOST 1048576: true; the input reads as it did. -/
def amlinkOnceUptoRow : OpenClaim := { program := "ytmbppohkadmjgaagreat", sum := "4c983287d5fabbda1158b06bd921209bc7e45d01b178a053a7f0d56dd7df5398", func := "radiolink/radiolinklaw22.AmlinkOnce", spec := "amlinkOnce", inPlace := ["slices.overlaps[radiolink/api.Partial]"], unfollowed := true, recurses := true, apart := false, narrowed := true }
def AmlinkOnceUptoSaid : Prop := amlinkOnceUptoRow.holds Tryz.pinned (OpenSpec.upto amlinkOnceSpec)

end Rows
end Go.Proofs.YtmbppohkadmjgaaGreat
