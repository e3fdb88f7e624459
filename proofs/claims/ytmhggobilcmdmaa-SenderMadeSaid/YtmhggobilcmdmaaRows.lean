/-
  No cell of these rows narrows 'for every input' (looked for: loops, veiled, ifaces, maps, wideKeys, modest, calm, conditions, laid).
  DERIVED. THE GIVEN ROWS OF THIS SEAT. 6 by the template 'for every input the law returns true; each argument reads behind the call as it read before'; 0 by the template 'total and deterministic' (their statements: YtmhggobilcmdmaaTotals.lean).
  GIVEN WITH THE SEED: the statements are not yours to turn. If you find one false, say at which input.
  Laid BY PROGRAM, IN A SANDBOX (cutbox-rows.mjs): the forced cells as the released guide's own fill.sh prints them over the translation 882202eab2fea5b4… (all of the seat's roots in one cut). By AI agents, Wed Nov 11 2026. No macro, syntax, notation, axiom, sorry.
-/
import Derived.Test.YtmhggobilcmdmaaChecked
import GoSem.Claim
import GoSem.ClaimJoined
import GoSem.ClaimMapViews
import Derived.JoinedTies
import Derived.KernelRfl
namespace Go.Proofs.Ytmhggobilcmdmaa
/- THE CELL 'sum', in the pinned program and in every row, IS THE sha256 OF THE DUMP (.gsa) THAT YtmhggobilcmdmaaProg.lean LOADS. Nothing in Lean hashes anything: it is a label: what it is worth is what the hold of that sum in a sandbox is worth. -/
noncomputable def Try.pinned : Pinned := { name := "ytmhggobilcmdmaa", sum := "882202eab2fea5b4b3675df1f210c88805b200ac0da9b0c550b62d4e06bae297", checked := Try.checked }
namespace Rows
def none {H : Type} : Left H := { results := [], args := [] }

/-- 'radiolinklaw20.SenderOnce': WHATEVER THE INPUT: true; the input reads as it did. -/
def senderOnceSpec : ChangeSpec := { name := "senderOnce", fn := fun _ => fun
  | [d] => { results := [.lit (.bool true)], args := [d] }
  | _ => none }
def senderOnceRow : OpenClaim := { program := "ytmhggobilcmdmaa", sum := "882202eab2fea5b4b3675df1f210c88805b200ac0da9b0c550b62d4e06bae297", func := "radiolink/radiolinklaw20.SenderOnce", spec := "senderOnce", unfollowed := true, recurses := true, apart := false }
def SenderOnceSaid : Prop := senderOnceRow.holds Try.pinned (OpenSpec.ofChange senderOnceSpec)

/-- ITS FALSE NEIGHBOUR: 'it returns false'. Refute it at one input. -/
def senderOnceWrong : ChangeSpec := { name := "senderOnce", fn := fun _ => fun
  | [d] => { results := [.lit (.bool false)], args := [d] }
  | _ => none }
def SenderOnceWrongFalsely : Prop := senderOnceRow.holds Try.pinned (OpenSpec.ofChange senderOnceWrong)

/-- 'radiolinklaw20.SenderRepeats': WHATEVER THE INPUT: true; the input reads as it did. -/
def senderRepeatsSpec : ChangeSpec := { name := "senderRepeats", fn := fun _ => fun
  | [d] => { results := [.lit (.bool true)], args := [d] }
  | _ => none }
def senderRepeatsRow : OpenClaim := { program := "ytmhggobilcmdmaa", sum := "882202eab2fea5b4b3675df1f210c88805b200ac0da9b0c550b62d4e06bae297", func := "radiolink/radiolinklaw20.SenderRepeats", spec := "senderRepeats", unfollowed := true, recurses := true, apart := false }
def SenderRepeatsSaid : Prop := senderRepeatsRow.holds Try.pinned (OpenSpec.ofChange senderRepeatsSpec)

/-- ITS FALSE NEIGHBOUR: 'it returns false'. Refute it at one input. -/
def senderRepeatsWrong : ChangeSpec := { name := "senderRepeats", fn := fun _ => fun
  | [d] => { results := [.lit (.bool false)], args := [d] }
  | _ => none }
def SenderRepeatsWrongFalsely : Prop := senderRepeatsRow.holds Try.pinned (OpenSpec.ofChange senderRepeatsWrong)

/-- 'radiolinklaw20.SenderAcks': WHATEVER THE INPUT: true; the input reads as it did. -/
def senderAcksSpec : ChangeSpec := { name := "senderAcks", fn := fun _ => fun
  | [d] => { results := [.lit (.bool true)], args := [d] }
  | _ => none }
def senderAcksRow : OpenClaim := { program := "ytmhggobilcmdmaa", sum := "882202eab2fea5b4b3675df1f210c88805b200ac0da9b0c550b62d4e06bae297", func := "radiolink/radiolinklaw20.SenderAcks", spec := "senderAcks", unfollowed := true, recurses := true, apart := false }
def SenderAcksSaid : Prop := senderAcksRow.holds Try.pinned (OpenSpec.ofChange senderAcksSpec)

/-- ITS FALSE NEIGHBOUR: 'it returns false'. Refute it at one input. -/
def senderAcksWrong : ChangeSpec := { name := "senderAcks", fn := fun _ => fun
  | [d] => { results := [.lit (.bool false)], args := [d] }
  | _ => none }
def SenderAcksWrongFalsely : Prop := senderAcksRow.holds Try.pinned (OpenSpec.ofChange senderAcksWrong)

/-- 'radiolinklaw20.SenderExact': WHATEVER THE INPUT: true; the input reads as it did. -/
def senderExactSpec : ChangeSpec := { name := "senderExact", fn := fun _ => fun
  | [d1, d2, d3] => { results := [.lit (.bool true)], args := [d1, d2, d3] }
  | _ => none }
def senderExactRow : OpenClaim := { program := "ytmhggobilcmdmaa", sum := "882202eab2fea5b4b3675df1f210c88805b200ac0da9b0c550b62d4e06bae297", func := "radiolink/radiolinklaw20.SenderExact", spec := "senderExact", unfollowed := true, recurses := true, apart := false }
def SenderExactSaid : Prop := senderExactRow.holds Try.pinned (OpenSpec.ofChange senderExactSpec)

/-- ITS FALSE NEIGHBOUR: 'it returns false'. Refute it at one input. -/
def senderExactWrong : ChangeSpec := { name := "senderExact", fn := fun _ => fun
  | [d1, d2, d3] => { results := [.lit (.bool false)], args := [d1, d2, d3] }
  | _ => none }
def SenderExactWrongFalsely : Prop := senderExactRow.holds Try.pinned (OpenSpec.ofChange senderExactWrong)

/-- 'radiolinklaw20.SenderMade': WHATEVER THE INPUT: true; the input reads as it did. -/
def senderMadeSpec : ChangeSpec := { name := "senderMade", fn := fun _ => fun
  | [d] => { results := [.lit (.bool true)], args := [d] }
  | _ => none }
def senderMadeRow : OpenClaim := { program := "ytmhggobilcmdmaa", sum := "882202eab2fea5b4b3675df1f210c88805b200ac0da9b0c550b62d4e06bae297", func := "radiolink/radiolinklaw20.SenderMade", spec := "senderMade", unfollowed := true, recurses := true, apart := false }
def SenderMadeSaid : Prop := senderMadeRow.holds Try.pinned (OpenSpec.ofChange senderMadeSpec)

/-- ITS FALSE NEIGHBOUR: 'it returns false'. Refute it at one input. -/
def senderMadeWrong : ChangeSpec := { name := "senderMade", fn := fun _ => fun
  | [d] => { results := [.lit (.bool false)], args := [d] }
  | _ => none }
def SenderMadeWrongFalsely : Prop := senderMadeRow.holds Try.pinned (OpenSpec.ofChange senderMadeWrong)

/-- 'radiolinklaw20.SenderStays': WHATEVER THE INPUT: true; the input reads as it did. -/
def senderStaysSpec : ChangeSpec := { name := "senderStays", fn := fun _ => fun
  | [d] => { results := [.lit (.bool true)], args := [d] }
  | _ => none }
def senderStaysRow : OpenClaim := { program := "ytmhggobilcmdmaa", sum := "882202eab2fea5b4b3675df1f210c88805b200ac0da9b0c550b62d4e06bae297", func := "radiolink/radiolinklaw20.SenderStays", spec := "senderStays", unfollowed := true, recurses := true, apart := false }
def SenderStaysSaid : Prop := senderStaysRow.holds Try.pinned (OpenSpec.ofChange senderStaysSpec)

/-- ITS FALSE NEIGHBOUR: 'it returns false'. Refute it at one input. -/
def senderStaysWrong : ChangeSpec := { name := "senderStays", fn := fun _ => fun
  | [d] => { results := [.lit (.bool false)], args := [d] }
  | _ => none }
def SenderStaysWrongFalsely : Prop := senderStaysRow.holds Try.pinned (OpenSpec.ofChange senderStaysWrong)

/- THE SECOND FORM. 'bulk': how many values and letters a reading holds, each counted each time it is reached (what is shared counts as often as it is met; a slice's spare places count too). A statement '..UptoSaid' is the law's where the arguments, and the package variables that the reading takes, are together of bulk at most 1048576: NARROWER than '..Said'. Prove '..Said' where nothing that the law and all that it calls make is longer than what came in: it says more and counts as full. Else prove '..UptoSaid'. A law counts once. -/
mutual
def uptoBulk {H : Type} : DataW H → Nat
  | .lit (.string bytes) => bytes.length + 1
  | .lit _ => 1
  | .nil => 1
  | .ptr d => uptoBulk d + 1
  | .slice elems spare => uptoBulkAll elems + uptoBulkAll spare + 1
  | .agg parts => uptoBulkAll parts + 1
  | .iface _ d => uptoBulk d + 1
  | .map entries => uptoBulkEntries entries + 1
  | .held _ => 1
def uptoBulkAll {H : Type} : List (DataW H) → Nat
  | [] => 0
  | d :: r => uptoBulk d + uptoBulkAll r
def uptoBulkEntries {H : Type} : List (Lit × DataW H) → Nat
  | [] => 0
  | x :: r => uptoBulkEntry x + uptoBulkEntries r
def uptoBulkEntry {H : Type} : Lit × DataW H → Nat
  | (.string bytes, d) => bytes.length + uptoBulk d + 1
  | (_, d) => uptoBulk d + 1
 end
def uptoSmall : (H : Type) → List (DataW H) → Bool := fun _ ds => decide (uptoBulkAll ds ≤ 1048576)
def OpenSpec.upto (s : _root_.Go.ChangeSpec) : _root_.Go.OpenSpec := { _root_.Go.OpenSpec.ofChange s with cond := some uptoSmall }

/-- 'radiolinklaw20.SenderOnce', WHERE WHAT IT READS IS OF BULK AT MOST 1048576: true; the input reads as it did. -/
def senderOnceUptoRow : OpenClaim := { program := "ytmhggobilcmdmaa", sum := "882202eab2fea5b4b3675df1f210c88805b200ac0da9b0c550b62d4e06bae297", func := "radiolink/radiolinklaw20.SenderOnce", spec := "senderOnce", unfollowed := true, recurses := true, apart := false, narrowed := true }
def SenderOnceUptoSaid : Prop := senderOnceUptoRow.holds Try.pinned (OpenSpec.upto senderOnceSpec)

/-- 'radiolinklaw20.SenderRepeats', WHERE WHAT IT READS IS OF BULK AT MOST 1048576: true; the input reads as it did. -/
def senderRepeatsUptoRow : OpenClaim := { program := "ytmhggobilcmdmaa", sum := "882202eab2fea5b4b3675df1f210c88805b200ac0da9b0c550b62d4e06bae297", func := "radiolink/radiolinklaw20.SenderRepeats", spec := "senderRepeats", unfollowed := true, recurses := true, apart := false, narrowed := true }
def SenderRepeatsUptoSaid : Prop := senderRepeatsUptoRow.holds Try.pinned (OpenSpec.upto senderRepeatsSpec)

/-- 'radiolinklaw20.SenderAcks', WHERE WHAT IT READS IS OF BULK AT MOST 1048576: true; the input reads as it did. -/
def senderAcksUptoRow : OpenClaim := { program := "ytmhggobilcmdmaa", sum := "882202eab2fea5b4b3675df1f210c88805b200ac0da9b0c550b62d4e06bae297", func := "radiolink/radiolinklaw20.SenderAcks", spec := "senderAcks", unfollowed := true, recurses := true, apart := false, narrowed := true }
def SenderAcksUptoSaid : Prop := senderAcksUptoRow.holds Try.pinned (OpenSpec.upto senderAcksSpec)

/-- 'radiolinklaw20.SenderExact', WHERE WHAT IT READS IS OF BULK AT MOST 1048576: true; the input reads as it did. -/
def senderExactUptoRow : OpenClaim := { program := "ytmhggobilcmdmaa", sum := "882202eab2fea5b4b3675df1f210c88805b200ac0da9b0c550b62d4e06bae297", func := "radiolink/radiolinklaw20.SenderExact", spec := "senderExact", unfollowed := true, recurses := true, apart := false, narrowed := true }
def SenderExactUptoSaid : Prop := senderExactUptoRow.holds Try.pinned (OpenSpec.upto senderExactSpec)

/-- 'radiolinklaw20.SenderMade', WHERE WHAT IT READS IS OF BULK AT MOST 1048576: true; the input reads as it did. -/
def senderMadeUptoRow : OpenClaim := { program := "ytmhggobilcmdmaa", sum := "882202eab2fea5b4b3675df1f210c88805b200ac0da9b0c550b62d4e06bae297", func := "radiolink/radiolinklaw20.SenderMade", spec := "senderMade", unfollowed := true, recurses := true, apart := false, narrowed := true }
def SenderMadeUptoSaid : Prop := senderMadeUptoRow.holds Try.pinned (OpenSpec.upto senderMadeSpec)

/-- 'radiolinklaw20.SenderStays', WHERE WHAT IT READS IS OF BULK AT MOST 1048576: true; the input reads as it did. -/
def senderStaysUptoRow : OpenClaim := { program := "ytmhggobilcmdmaa", sum := "882202eab2fea5b4b3675df1f210c88805b200ac0da9b0c550b62d4e06bae297", func := "radiolink/radiolinklaw20.SenderStays", spec := "senderStays", unfollowed := true, recurses := true, apart := false, narrowed := true }
def SenderStaysUptoSaid : Prop := senderStaysUptoRow.holds Try.pinned (OpenSpec.upto senderStaysSpec)

end Rows
end Go.Proofs.Ytmhggobilcmdmaa
