/-
  No cell of these rows narrows 'for every input' (looked for: loops, veiled, ifaces, maps, wideKeys, modest, calm, conditions, laid).
  DERIVED. THE GIVEN ROWS OF THIS SEAT. 5 by the template 'for every input the law returns true; each argument reads behind the call as it read before'; 0 by the template 'total and deterministic' (their statements: YteoogdpjidbapaaTotals.lean).
  GIVEN WITH THE SEED: the statements are not yours to turn. If you find one false, say at which input.
  Laid BY PROGRAM, IN A SANDBOX (cutbox-rows.mjs): the forced cells as the released guide's own fill.sh prints them over the translation ce96206b5bb742f9… (all of the seat's roots in one cut). By AI agents, Wed Nov 11 2026. No macro, syntax, notation, axiom, sorry.
-/
import Derived.Test.YteoogdpjidbapaaChecked
import GoSem.Claim
import GoSem.ClaimJoined
import GoSem.ClaimMapViews
import Derived.JoinedTies
import Derived.KernelRfl
namespace Go.Proofs.Yteoogdpjidbapaa
/- THE CELL 'sum', in the pinned program and in every row, IS THE sha256 OF THE DUMP (.gsa) THAT YteoogdpjidbapaaProg.lean LOADS. Nothing in Lean hashes anything: it is a label: what it is worth is what the hold of that sum in a sandbox is worth. -/
noncomputable def Try.pinned : Pinned := { name := "yteoogdpjidbapaa", sum := "ce96206b5bb742f98c696ec7472d010dcf6a61741e8035e20cdf866360a5b86d", checked := Try.checked }
namespace Rows
def none {H : Type} : Left H := { results := [], args := [] }

/-- 'radiolinklaw01.BitsSplits': WHATEVER THE INPUT: true; the input reads as it did. -/
def bitsSplitsSpec : ChangeSpec := { name := "bitsSplits", fn := fun _ => fun
  | [d1, d2] => { results := [.lit (.bool true)], args := [d1, d2] }
  | _ => none }
def bitsSplitsRow : OpenClaim := { program := "yteoogdpjidbapaa", sum := "ce96206b5bb742f98c696ec7472d010dcf6a61741e8035e20cdf866360a5b86d", func := "radiolink/radiolinklaw01.BitsSplits", spec := "bitsSplits", apart := false }
def BitsSplitsSaid : Prop := bitsSplitsRow.holds Try.pinned (OpenSpec.ofChange bitsSplitsSpec)

/-- ITS FALSE NEIGHBOUR: 'it returns false'. Refute it at one input. -/
def bitsSplitsWrong : ChangeSpec := { name := "bitsSplits", fn := fun _ => fun
  | [d1, d2] => { results := [.lit (.bool false)], args := [d1, d2] }
  | _ => none }
def BitsSplitsWrongFalsely : Prop := bitsSplitsRow.holds Try.pinned (OpenSpec.ofChange bitsSplitsWrong)

/-- 'radiolinklaw01.BitsReads': WHATEVER THE INPUT: true; the input reads as it did. -/
def bitsReadsSpec : ChangeSpec := { name := "bitsReads", fn := fun _ => fun
  | [d1, d2, d3] => { results := [.lit (.bool true)], args := [d1, d2, d3] }
  | _ => none }
def bitsReadsRow : OpenClaim := { program := "yteoogdpjidbapaa", sum := "ce96206b5bb742f98c696ec7472d010dcf6a61741e8035e20cdf866360a5b86d", func := "radiolink/radiolinklaw01.BitsReads", spec := "bitsReads", apart := false }
def BitsReadsSaid : Prop := bitsReadsRow.holds Try.pinned (OpenSpec.ofChange bitsReadsSpec)

/-- ITS FALSE NEIGHBOUR: 'it returns false'. Refute it at one input. -/
def bitsReadsWrong : ChangeSpec := { name := "bitsReads", fn := fun _ => fun
  | [d1, d2, d3] => { results := [.lit (.bool false)], args := [d1, d2, d3] }
  | _ => none }
def BitsReadsWrongFalsely : Prop := bitsReadsRow.holds Try.pinned (OpenSpec.ofChange bitsReadsWrong)

/-- 'radiolinklaw01.BitsKeeps': WHATEVER THE INPUT: true; the input reads as it did. -/
def bitsKeepsSpec : ChangeSpec := { name := "bitsKeeps", fn := fun _ => fun
  | [d1, d2, d3] => { results := [.lit (.bool true)], args := [d1, d2, d3] }
  | _ => none }
def bitsKeepsRow : OpenClaim := { program := "yteoogdpjidbapaa", sum := "ce96206b5bb742f98c696ec7472d010dcf6a61741e8035e20cdf866360a5b86d", func := "radiolink/radiolinklaw01.BitsKeeps", spec := "bitsKeeps", apart := false }
def BitsKeepsSaid : Prop := bitsKeepsRow.holds Try.pinned (OpenSpec.ofChange bitsKeepsSpec)

/-- ITS FALSE NEIGHBOUR: 'it returns false'. Refute it at one input. -/
def bitsKeepsWrong : ChangeSpec := { name := "bitsKeeps", fn := fun _ => fun
  | [d1, d2, d3] => { results := [.lit (.bool false)], args := [d1, d2, d3] }
  | _ => none }
def BitsKeepsWrongFalsely : Prop := bitsKeepsRow.holds Try.pinned (OpenSpec.ofChange bitsKeepsWrong)

/-- 'radiolinklaw01.BitsPacks': WHATEVER THE INPUT: true; the input reads as it did. -/
def bitsPacksSpec : ChangeSpec := { name := "bitsPacks", fn := fun _ => fun
  | [d1, d2, d3] => { results := [.lit (.bool true)], args := [d1, d2, d3] }
  | _ => none }
def bitsPacksRow : OpenClaim := { program := "yteoogdpjidbapaa", sum := "ce96206b5bb742f98c696ec7472d010dcf6a61741e8035e20cdf866360a5b86d", func := "radiolink/radiolinklaw01.BitsPacks", spec := "bitsPacks", apart := false }
def BitsPacksSaid : Prop := bitsPacksRow.holds Try.pinned (OpenSpec.ofChange bitsPacksSpec)

/-- ITS FALSE NEIGHBOUR: 'it returns false'. Refute it at one input. -/
def bitsPacksWrong : ChangeSpec := { name := "bitsPacks", fn := fun _ => fun
  | [d1, d2, d3] => { results := [.lit (.bool false)], args := [d1, d2, d3] }
  | _ => none }
def BitsPacksWrongFalsely : Prop := bitsPacksRow.holds Try.pinned (OpenSpec.ofChange bitsPacksWrong)

/-- 'radiolinklaw01.BitsReturns': WHATEVER THE INPUT: true; the input reads as it did. -/
def bitsReturnsSpec : ChangeSpec := { name := "bitsReturns", fn := fun _ => fun
  | [d] => { results := [.lit (.bool true)], args := [d] }
  | _ => none }
def bitsReturnsRow : OpenClaim := { program := "yteoogdpjidbapaa", sum := "ce96206b5bb742f98c696ec7472d010dcf6a61741e8035e20cdf866360a5b86d", func := "radiolink/radiolinklaw01.BitsReturns", spec := "bitsReturns", apart := false }
def BitsReturnsSaid : Prop := bitsReturnsRow.holds Try.pinned (OpenSpec.ofChange bitsReturnsSpec)

/-- ITS FALSE NEIGHBOUR: 'it returns false'. Refute it at one input. -/
def bitsReturnsWrong : ChangeSpec := { name := "bitsReturns", fn := fun _ => fun
  | [d] => { results := [.lit (.bool false)], args := [d] }
  | _ => none }
def BitsReturnsWrongFalsely : Prop := bitsReturnsRow.holds Try.pinned (OpenSpec.ofChange bitsReturnsWrong)

/- THE SECOND FORM. 'bulk': how many values and letters a reading holds, each counted each time it is reached (what is shared counts as often as it is met; a slice's spare places count too). A statement '..UptoSaid' is the law's where the arguments, and the package variables that the reading takes, are together of bulk at most 1048576: NARROWER than '..Said'. Prove '..Said' where nothing that the law and all that it calls make is longer than what came in: it says more and counts as full. Else prove '..UptoSaid'. A law counts once. -/
mutual
def uptoBulk {H : Type} : DataW H → Nat
  | .lit (.string bytes) => bytes.length + 1
  | .lit _ => 1
  | .nil => 1
  | .ptr d => uptoBulk d + 1
  | .slice elems spare => uptoBulkAll elems + uptoBulkAll spare + 1
  | .agg parts => uptoBulkAll parts + 1
  | .iface _ d => uptoBulk d + 1
  | .map entries => uptoBulkEntries entries + 1
  | .held _ => 1
def uptoBulkAll {H : Type} : List (DataW H) → Nat
  | [] => 0
  | d :: r => uptoBulk d + uptoBulkAll r
def uptoBulkEntries {H : Type} : List (Lit × DataW H) → Nat
  | [] => 0
  | x :: r => uptoBulkEntry x + uptoBulkEntries r
def uptoBulkEntry {H : Type} : Lit × DataW H → Nat
  | (.string bytes, d) => bytes.length + uptoBulk d + 1
  | (_, d) => uptoBulk d + 1
 end
def uptoSmall : (H : Type) → List (DataW H) → Bool := fun _ ds => decide (uptoBulkAll ds ≤ 1048576)
def OpenSpec.upto (s : _root_.Go.ChangeSpec) : _root_.Go.OpenSpec := { _root_.Go.OpenSpec.ofChange s with cond := some uptoSmall }

/-- 'radiolinklaw01.BitsSplits', WHERE WHAT IT READS IS OF BULK AT MOST 1048576: true; the input reads as it did. -/
def bitsSplitsUptoRow : OpenClaim := { program := "yteoogdpjidbapaa", sum := "ce96206b5bb742f98c696ec7472d010dcf6a61741e8035e20cdf866360a5b86d", func := "radiolink/radiolinklaw01.BitsSplits", spec := "bitsSplits", apart := false, narrowed := true }
def BitsSplitsUptoSaid : Prop := bitsSplitsUptoRow.holds Try.pinned (OpenSpec.upto bitsSplitsSpec)

/-- 'radiolinklaw01.BitsReads', WHERE WHAT IT READS IS OF BULK AT MOST 1048576: true; the input reads as it did. -/
def bitsReadsUptoRow : OpenClaim := { program := "yteoogdpjidbapaa", sum := "ce96206b5bb742f98c696ec7472d010dcf6a61741e8035e20cdf866360a5b86d", func := "radiolink/radiolinklaw01.BitsReads", spec := "bitsReads", apart := false, narrowed := true }
def BitsReadsUptoSaid : Prop := bitsReadsUptoRow.holds Try.pinned (OpenSpec.upto bitsReadsSpec)

/-- 'radiolinklaw01.BitsKeeps', WHERE WHAT IT READS IS OF BULK AT MOST 1048576: true; the input reads as it did. -/
def bitsKeepsUptoRow : OpenClaim := { program := "yteoogdpjidbapaa", sum := "ce96206b5bb742f98c696ec7472d010dcf6a61741e8035e20cdf866360a5b86d", func := "radiolink/radiolinklaw01.BitsKeeps", spec := "bitsKeeps", apart := false, narrowed := true }
def BitsKeepsUptoSaid : Prop := bitsKeepsUptoRow.holds Try.pinned (OpenSpec.upto bitsKeepsSpec)

/-- 'radiolinklaw01.BitsPacks', WHERE WHAT IT READS IS OF BULK AT MOST 1048576: true; the input reads as it did. -/
def bitsPacksUptoRow : OpenClaim := { program := "yteoogdpjidbapaa", sum := "ce96206b5bb742f98c696ec7472d010dcf6a61741e8035e20cdf866360a5b86d", func := "radiolink/radiolinklaw01.BitsPacks", spec := "bitsPacks", apart := false, narrowed := true }
def BitsPacksUptoSaid : Prop := bitsPacksUptoRow.holds Try.pinned (OpenSpec.upto bitsPacksSpec)

/-- 'radiolinklaw01.BitsReturns', WHERE WHAT IT READS IS OF BULK AT MOST 1048576: true; the input reads as it did. -/
def bitsReturnsUptoRow : OpenClaim := { program := "yteoogdpjidbapaa", sum := "ce96206b5bb742f98c696ec7472d010dcf6a61741e8035e20cdf866360a5b86d", func := "radiolink/radiolinklaw01.BitsReturns", spec := "bitsReturns", apart := false, narrowed := true }
def BitsReturnsUptoSaid : Prop := bitsReturnsUptoRow.holds Try.pinned (OpenSpec.upto bitsReturnsSpec)

end Rows
end Go.Proofs.Yteoogdpjidbapaa
