/-
  No cell of these rows narrows 'for every input' (looked for: loops, veiled, ifaces, maps, wideKeys, modest, calm, conditions, laid).
  DERIVED. THE GIVEN ROWS OF THIS SEAT. 3 by the template 'for every input the law returns true; each argument reads behind the call as it read before'; 0 by the template 'total and deterministic' (their statements: YthceaojjeokclaaGreatTotals.lean).
  GIVEN WITH THE SEED: the statements are not yours to turn. If you find one false, say at which input.
  Laid BY PROGRAM, IN A SANDBOX (cutbox-rows.mjs): the forced cells as the released guide's own fill.sh prints them over the translation 70d8d07348eacb43… (all of the seat's roots in one cut). By AI agents, Wed Nov 11 2026. No macro, syntax, notation, axiom, sorry.
-/
import Derived.Test.YthceaojjeokclaaGreatChecked
import GoSem.Claim
import GoSem.ClaimJoined
import GoSem.ClaimMapViews
import Derived.JoinedTies
import Derived.KernelRfl
namespace Go.Proofs.YthceaojjeokclaaGreat
/- THE CELL 'sum', in the pinned program and in every row, IS THE sha256 OF THE DUMP (.gsa) THAT YthceaojjeokclaaGreatProg.lean LOADS. Nothing in Lean hashes anything: it is a label: what it is worth is what the hold of that sum in a sandbox is worth. -/
noncomputable def Tryz.pinned : Pinned := { name := "ythceaojjeokclaagreat", sum := "70d8d07348eacb431c54523eb4c1f7472accd5da872bc0383ec65db23fe1e3c6", checked := Tryz.checked }
namespace Rows
def none {H : Type} : Left H := { results := [], args := [] }

/-- 'radiolinklaw21.ReceiverExact': WHATEVER THE INPUT: true; the input reads as it did. -/
def receiverExactSpec : ChangeSpec := { name := "receiverExact", fn := fun _ => fun
  | [d1, d2, d3] => { results := [.lit (.bool true)], args := [d1, d2, d3] }
  | _ => none }
def receiverExactRow : OpenClaim := { program := "ythceaojjeokclaagreat", sum := "70d8d07348eacb431c54523eb4c1f7472accd5da872bc0383ec65db23fe1e3c6", func := "radiolink/radiolinklaw21.ReceiverExact", spec := "receiverExact", inPlace := ["slices.overlaps[radiolink/api.Partial]"], unfollowed := true, recurses := true, apart := false }
def ReceiverExactSaid : Prop := receiverExactRow.holds Tryz.pinned (OpenSpec.ofChange receiverExactSpec)

/-- ITS FALSE NEIGHBOUR: 'it returns false'. Refute it at one input. -/
def receiverExactWrong : ChangeSpec := { name := "receiverExact", fn := fun _ => fun
  | [d1, d2, d3] => { results := [.lit (.bool false)], args := [d1, d2, d3] }
  | _ => none }
def ReceiverExactWrongFalsely : Prop := receiverExactRow.holds Tryz.pinned (OpenSpec.ofChange receiverExactWrong)

/-- 'radiolinklaw21.ReceiverMade': WHATEVER THE INPUT: true; the input reads as it did. -/
def receiverMadeSpec : ChangeSpec := { name := "receiverMade", fn := fun _ => fun
  | [d] => { results := [.lit (.bool true)], args := [d] }
  | _ => none }
def receiverMadeRow : OpenClaim := { program := "ythceaojjeokclaagreat", sum := "70d8d07348eacb431c54523eb4c1f7472accd5da872bc0383ec65db23fe1e3c6", func := "radiolink/radiolinklaw21.ReceiverMade", spec := "receiverMade", inPlace := ["slices.overlaps[radiolink/api.Partial]"], unfollowed := true, recurses := true, apart := false }
def ReceiverMadeSaid : Prop := receiverMadeRow.holds Tryz.pinned (OpenSpec.ofChange receiverMadeSpec)

/-- ITS FALSE NEIGHBOUR: 'it returns false'. Refute it at one input. -/
def receiverMadeWrong : ChangeSpec := { name := "receiverMade", fn := fun _ => fun
  | [d] => { results := [.lit (.bool false)], args := [d] }
  | _ => none }
def ReceiverMadeWrongFalsely : Prop := receiverMadeRow.holds Tryz.pinned (OpenSpec.ofChange receiverMadeWrong)

/-- 'radiolinklaw21.ReceiverAsks': WHATEVER THE INPUT: true; the input reads as it did. -/
def receiverAsksSpec : ChangeSpec := { name := "receiverAsks", fn := fun _ => fun
  | [d] => { results := [.lit (.bool true)], args := [d] }
  | _ => none }
def receiverAsksRow : OpenClaim := { program := "ythceaojjeokclaagreat", sum := "70d8d07348eacb431c54523eb4c1f7472accd5da872bc0383ec65db23fe1e3c6", func := "radiolink/radiolinklaw21.ReceiverAsks", spec := "receiverAsks", inPlace := ["slices.overlaps[radiolink/api.Partial]"], unfollowed := true, recurses := true, apart := false }
def ReceiverAsksSaid : Prop := receiverAsksRow.holds Tryz.pinned (OpenSpec.ofChange receiverAsksSpec)

/-- ITS FALSE NEIGHBOUR: 'it returns false'. Refute it at one input. -/
def receiverAsksWrong : ChangeSpec := { name := "receiverAsks", fn := fun _ => fun
  | [d] => { results := [.lit (.bool false)], args := [d] }
  | _ => none }
def ReceiverAsksWrongFalsely : Prop := receiverAsksRow.holds Tryz.pinned (OpenSpec.ofChange receiverAsksWrong)

/- THE SECOND FORM. 'bulk': how many values and letters a reading holds, each counted each time it is reached (what is shared counts as often as it is met; a slice's spare places count too). A statement '..UptoSaid' is the law's where the arguments, and the package variables that the reading takes, are together of bulk at most 1048576: NARROWER than '..Said'. Prove '..Said' where nothing that the law and all that it calls make is longer than what came in: it says more and counts as full. Else prove '..UptoSaid'. A law counts once. -/
mutual
def uptoBulk {H : Type} : DataW H → Nat
  | .lit (.string bytes) => bytes.length + 1
  | .lit _ => 1
  | .nil => 1
  | .ptr d => uptoBulk d + 1
  | .slice elems spare => uptoBulkAll elems + uptoBulkAll spare + 1
  | .agg parts => uptoBulkAll parts + 1
  | .iface _ d => uptoBulk d + 1
  | .map entries => uptoBulkEntries entries + 1
  | .held _ => 1
def uptoBulkAll {H : Type} : List (DataW H) → Nat
  | [] => 0
  | d :: r => uptoBulk d + uptoBulkAll r
def uptoBulkEntries {H : Type} : List (Lit × DataW H) → Nat
  | [] => 0
  | x :: r => uptoBulkEntry x + uptoBulkEntries r
def uptoBulkEntry {H : Type} : Lit × DataW H → Nat
  | (.string bytes, d) => bytes.length + uptoBulk d + 1
  | (_, d) => uptoBulk d + 1
 end
def uptoSmall : (H : Type) → List (DataW H) → Bool := fun _ ds => decide (uptoBulkAll ds ≤ 1048576)
def OpenSpec.upto (s : _root_.Go.ChangeSpec) : _root_.Go.OpenSpec := { _root_.Go.OpenSpec.ofChange s with cond := some uptoSmall }

/-- 'radiolinklaw21.ReceiverExact', WHERE WHAT IT READS IS OF BULK AT MOST 1048576: true; the input reads as it did. -/
def receiverExactUptoRow : OpenClaim := { program := "ythceaojjeokclaagreat", sum := "70d8d07348eacb431c54523eb4c1f7472accd5da872bc0383ec65db23fe1e3c6", func := "radiolink/radiolinklaw21.ReceiverExact", spec := "receiverExact", inPlace := ["slices.overlaps[radiolink/api.Partial]"], unfollowed := true, recurses := true, apart := false, narrowed := true }
def ReceiverExactUptoSaid : Prop := receiverExactUptoRow.holds Tryz.pinned (OpenSpec.upto receiverExactSpec)

/-- 'radiolinklaw21.ReceiverMade', WHERE WHAT IT READS IS OF BULK AT MOST 1048576: true; the input reads as it did. -/
def receiverMadeUptoRow : OpenClaim := { program := "ythceaojjeokclaagreat", sum := "70d8d07348eacb431c54523eb4c1f7472accd5da872bc0383ec65db23fe1e3c6", func := "radiolink/radiolinklaw21.ReceiverMade", spec := "receiverMade", inPlace := ["slices.overlaps[radiolink/api.Partial]"], unfollowed := true, recurses := true, apart := false, narrowed := true }
def ReceiverMadeUptoSaid : Prop := receiverMadeUptoRow.holds Tryz.pinned (OpenSpec.upto receiverMadeSpec)

/-- 'radiolinklaw21.ReceiverAsks', WHERE WHAT IT READS IS OF BULK AT MOST 1048576: true; the input reads as it did. -/
def receiverAsksUptoRow : OpenClaim := { program := "ythceaojjeokclaagreat", sum := "70d8d07348eacb431c54523eb4c1f7472accd5da872bc0383ec65db23fe1e3c6", func := "radiolink/radiolinklaw21.ReceiverAsks", spec := "receiverAsks", inPlace := ["slices.overlaps[radiolink/api.Partial]"], unfollowed := true, recurses := true, apart := false, narrowed := true }
def ReceiverAsksUptoSaid : Prop := receiverAsksUptoRow.holds Tryz.pinned (OpenSpec.upto receiverAsksSpec)

end Rows
end Go.Proofs.YthceaojjeokclaaGreat
