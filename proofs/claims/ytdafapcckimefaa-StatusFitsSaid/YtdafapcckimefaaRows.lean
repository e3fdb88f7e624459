/-
  No cell of these rows narrows 'for every input' (looked for: loops, veiled, ifaces, maps, wideKeys, modest, calm, conditions, laid).
  DERIVED. THE GIVEN ROWS OF THIS SEAT. 4 by the template 'for every input the law returns true; each argument reads behind the call as it read before'; 0 by the template 'total and deterministic' (their statements: YtdafapcckimefaaTotals.lean).
  GIVEN WITH THE SEED: the statements are not yours to turn. If you find one false, say at which input.
  Laid BY PROGRAM, IN A SANDBOX (cutbox-rows.mjs): the forced cells as the released guide's own fill.sh prints them over the translation deeb710762b5813c… (all of the seat's roots in one cut). By AI agents, Wed Nov 11 2026. No macro, syntax, notation, axiom, sorry.
-/
import Derived.Test.YtdafapcckimefaaChecked
import GoSem.Claim
import GoSem.ClaimJoined
import GoSem.ClaimMapViews
import Derived.JoinedTies
import Derived.KernelRfl
namespace Go.Proofs.Ytdafapcckimefaa
/- THE CELL 'sum', in the pinned program and in every row, IS THE sha256 OF THE DUMP (.gsa) THAT YtdafapcckimefaaProg.lean LOADS. Nothing in Lean hashes anything: it is a label: what it is worth is what the hold of that sum in a sandbox is worth. -/
noncomputable def Try.pinned : Pinned := { name := "ytdafapcckimefaa", sum := "deeb710762b5813c300a154306663fec72d49f801cf5c2689def3c3f64822ec2", checked := Try.checked }
namespace Rows
def none {H : Type} : Left H := { results := [], args := [] }

/-- 'radiolinklaw19.StatusExact': WHATEVER THE INPUT: true; the input reads as it did. -/
def statusExactSpec : ChangeSpec := { name := "statusExact", fn := fun _ => fun
  | [d1, d2, d3] => { results := [.lit (.bool true)], args := [d1, d2, d3] }
  | _ => none }
def statusExactRow : OpenClaim := { program := "ytdafapcckimefaa", sum := "deeb710762b5813c300a154306663fec72d49f801cf5c2689def3c3f64822ec2", func := "radiolink/radiolinklaw19.StatusExact", spec := "statusExact", unfollowed := true, recurses := true, apart := false }
def StatusExactSaid : Prop := statusExactRow.holds Try.pinned (OpenSpec.ofChange statusExactSpec)

/-- ITS FALSE NEIGHBOUR: 'it returns false'. Refute it at one input. -/
def statusExactWrong : ChangeSpec := { name := "statusExact", fn := fun _ => fun
  | [d1, d2, d3] => { results := [.lit (.bool false)], args := [d1, d2, d3] }
  | _ => none }
def StatusExactWrongFalsely : Prop := statusExactRow.holds Try.pinned (OpenSpec.ofChange statusExactWrong)

/-- 'radiolinklaw19.StatusMade': WHATEVER THE INPUT: true; the input reads as it did. -/
def statusMadeSpec : ChangeSpec := { name := "statusMade", fn := fun _ => fun
  | [d] => { results := [.lit (.bool true)], args := [d] }
  | _ => none }
def statusMadeRow : OpenClaim := { program := "ytdafapcckimefaa", sum := "deeb710762b5813c300a154306663fec72d49f801cf5c2689def3c3f64822ec2", func := "radiolink/radiolinklaw19.StatusMade", spec := "statusMade", unfollowed := true, recurses := true, apart := false }
def StatusMadeSaid : Prop := statusMadeRow.holds Try.pinned (OpenSpec.ofChange statusMadeSpec)

/-- ITS FALSE NEIGHBOUR: 'it returns false'. Refute it at one input. -/
def statusMadeWrong : ChangeSpec := { name := "statusMade", fn := fun _ => fun
  | [d] => { results := [.lit (.bool false)], args := [d] }
  | _ => none }
def StatusMadeWrongFalsely : Prop := statusMadeRow.holds Try.pinned (OpenSpec.ofChange statusMadeWrong)

/-- 'radiolinklaw19.StatusReturns': WHATEVER THE INPUT: true; the input reads as it did. -/
def statusReturnsSpec : ChangeSpec := { name := "statusReturns", fn := fun _ => fun
  | [d] => { results := [.lit (.bool true)], args := [d] }
  | _ => none }
def statusReturnsRow : OpenClaim := { program := "ytdafapcckimefaa", sum := "deeb710762b5813c300a154306663fec72d49f801cf5c2689def3c3f64822ec2", func := "radiolink/radiolinklaw19.StatusReturns", spec := "statusReturns", unfollowed := true, recurses := true, apart := false }
def StatusReturnsSaid : Prop := statusReturnsRow.holds Try.pinned (OpenSpec.ofChange statusReturnsSpec)

/-- ITS FALSE NEIGHBOUR: 'it returns false'. Refute it at one input. -/
def statusReturnsWrong : ChangeSpec := { name := "statusReturns", fn := fun _ => fun
  | [d] => { results := [.lit (.bool false)], args := [d] }
  | _ => none }
def StatusReturnsWrongFalsely : Prop := statusReturnsRow.holds Try.pinned (OpenSpec.ofChange statusReturnsWrong)

/-- 'radiolinklaw19.StatusFits': WHATEVER THE INPUT: true; the input reads as it did. -/
def statusFitsSpec : ChangeSpec := { name := "statusFits", fn := fun _ => fun
  | [d1, d2] => { results := [.lit (.bool true)], args := [d1, d2] }
  | _ => none }
def statusFitsRow : OpenClaim := { program := "ytdafapcckimefaa", sum := "deeb710762b5813c300a154306663fec72d49f801cf5c2689def3c3f64822ec2", func := "radiolink/radiolinklaw19.StatusFits", spec := "statusFits", unfollowed := true, recurses := true, apart := false }
def StatusFitsSaid : Prop := statusFitsRow.holds Try.pinned (OpenSpec.ofChange statusFitsSpec)

/-- ITS FALSE NEIGHBOUR: 'it returns false'. Refute it at one input. -/
def statusFitsWrong : ChangeSpec := { name := "statusFits", fn := fun _ => fun
  | [d1, d2] => { results := [.lit (.bool false)], args := [d1, d2] }
  | _ => none }
def StatusFitsWrongFalsely : Prop := statusFitsRow.holds Try.pinned (OpenSpec.ofChange statusFitsWrong)

/- THE SECOND FORM. 'bulk': how many values and letters a reading holds, each counted each time it is reached (what is shared counts as often as it is met; a slice's spare places count too). A statement '..UptoSaid' is the law's where the arguments, and the package variables that the reading takes, are together of bulk at most 1048576: NARROWER than '..Said'. Prove '..Said' where nothing that the law and all that it calls make is longer than what came in: it says more and counts as full. Else prove '..UptoSaid'. A law counts once. -/
mutual
def uptoBulk {H : Type} : DataW H → Nat
  | .lit (.string bytes) => bytes.length + 1
  | .lit _ => 1
  | .nil => 1
  | .ptr d => uptoBulk d + 1
  | .slice elems spare => uptoBulkAll elems + uptoBulkAll spare + 1
  | .agg parts => uptoBulkAll parts + 1
  | .iface _ d => uptoBulk d + 1
  | .map entries => uptoBulkEntries entries + 1
  | .held _ => 1
def uptoBulkAll {H : Type} : List (DataW H) → Nat
  | [] => 0
  | d :: r => uptoBulk d + uptoBulkAll r
def uptoBulkEntries {H : Type} : List (Lit × DataW H) → Nat
  | [] => 0
  | x :: r => uptoBulkEntry x + uptoBulkEntries r
def uptoBulkEntry {H : Type} : Lit × DataW H → Nat
  | (.string bytes, d) => bytes.length + uptoBulk d + 1
  | (_, d) => uptoBulk d + 1
 end
def uptoSmall : (H : Type) → List (DataW H) → Bool := fun _ ds => decide (uptoBulkAll ds ≤ 1048576)
def OpenSpec.upto (s : _root_.Go.ChangeSpec) : _root_.Go.OpenSpec := { _root_.Go.OpenSpec.ofChange s with cond := some uptoSmall }

/-- 'radiolinklaw19.StatusExact', WHERE WHAT IT READS IS OF BULK AT MOST 1048576: true; the input reads as it did. -/
def statusExactUptoRow : OpenClaim := { program := "ytdafapcckimefaa", sum := "deeb710762b5813c300a154306663fec72d49f801cf5c2689def3c3f64822ec2", func := "radiolink/radiolinklaw19.StatusExact", spec := "statusExact", unfollowed := true, recurses := true, apart := false, narrowed := true }
def StatusExactUptoSaid : Prop := statusExactUptoRow.holds Try.pinned (OpenSpec.upto statusExactSpec)

/-- 'radiolinklaw19.StatusMade', WHERE WHAT IT READS IS OF BULK AT MOST 1048576: true; the input reads as it did. -/
def statusMadeUptoRow : OpenClaim := { program := "ytdafapcckimefaa", sum := "deeb710762b5813c300a154306663fec72d49f801cf5c2689def3c3f64822ec2", func := "radiolink/radiolinklaw19.StatusMade", spec := "statusMade", unfollowed := true, recurses := true, apart := false, narrowed := true }
def StatusMadeUptoSaid : Prop := statusMadeUptoRow.holds Try.pinned (OpenSpec.upto statusMadeSpec)

/-- 'radiolinklaw19.StatusReturns', WHERE WHAT IT READS IS OF BULK AT MOST 1048576: true; the input reads as it did. -/
def statusReturnsUptoRow : OpenClaim := { program := "ytdafapcckimefaa", sum := "deeb710762b5813c300a154306663fec72d49f801cf5c2689def3c3f64822ec2", func := "radiolink/radiolinklaw19.StatusReturns", spec := "statusReturns", unfollowed := true, recurses := true, apart := false, narrowed := true }
def StatusReturnsUptoSaid : Prop := statusReturnsUptoRow.holds Try.pinned (OpenSpec.upto statusReturnsSpec)

/-- 'radiolinklaw19.StatusFits', WHERE WHAT IT READS IS OF BULK AT MOST 1048576: true; the input reads as it did. -/
def statusFitsUptoRow : OpenClaim := { program := "ytdafapcckimefaa", sum := "deeb710762b5813c300a154306663fec72d49f801cf5c2689def3c3f64822ec2", func := "radiolink/radiolinklaw19.StatusFits", spec := "statusFits", unfollowed := true, recurses := true, apart := false, narrowed := true }
def StatusFitsUptoSaid : Prop := statusFitsUptoRow.holds Try.pinned (OpenSpec.upto statusFitsSpec)

end Rows
end Go.Proofs.Ytdafapcckimefaa
