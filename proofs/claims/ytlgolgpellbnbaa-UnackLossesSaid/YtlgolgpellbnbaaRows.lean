/-
  No cell of these rows narrows 'for every input' (looked for: loops, veiled, ifaces, maps, wideKeys, modest, calm, conditions, laid).
  DERIVED. THE GIVEN ROWS OF THIS SEAT. 3 by the template 'for every input the law returns true; each argument reads behind the call as it read before'; 0 by the template 'total and deterministic' (their statements: YtlgolgpellbnbaaTotals.lean).
  GIVEN WITH THE SEED: the statements are not yours to turn. If you find one false, say at which input.
  Laid BY PROGRAM, IN A SANDBOX (cutbox-rows.mjs): the forced cells as the released guide's own fill.sh prints them over the translation a1fe68d15362aa2d… (all of the seat's roots in one cut). By AI agents, Wed Nov 11 2026. No macro, syntax, notation, axiom, sorry.
-/
import Derived.Test.YtlgolgpellbnbaaChecked
import GoSem.Claim
import GoSem.ClaimJoined
import GoSem.ClaimMapViews
import Derived.JoinedTies
import Derived.KernelRfl
namespace Go.Proofs.Ytlgolgpellbnbaa
/- THE CELL 'sum', in the pinned program and in every row, IS THE sha256 OF THE DUMP (.gsa) THAT YtlgolgpellbnbaaProg.lean LOADS. Nothing in Lean hashes anything: it is a label: what it is worth is what the hold of that sum in a sandbox is worth. -/
noncomputable def Try.pinned : Pinned := { name := "ytlgolgpellbnbaa", sum := "a1fe68d15362aa2de8914ea11f725c3fcd2eb59f4365b273ce24591791453c1a", checked := Try.checked }
namespace Rows
def none {H : Type} : Left H := { results := [], args := [] }

/-- 'radiolinklaw23.UnackRaw': WHATEVER THE INPUT: true; the input reads as it did. -/
def unackRawSpec : ChangeSpec := { name := "unackRaw", fn := fun _ => fun
  | [d1, d2, d3, d4, d5] => { results := [.lit (.bool true)], args := [d1, d2, d3, d4, d5] }
  | _ => none }
def unackRawRow : OpenClaim := { program := "ytlgolgpellbnbaa", sum := "a1fe68d15362aa2de8914ea11f725c3fcd2eb59f4365b273ce24591791453c1a", func := "radiolink/radiolinklaw23.UnackRaw", spec := "unackRaw", inPlace := ["slices.overlaps[radiolink/api.Partial]"], unfollowed := true, recurses := true, apart := false }
def UnackRawSaid : Prop := unackRawRow.holds Try.pinned (OpenSpec.ofChange unackRawSpec)

/-- ITS FALSE NEIGHBOUR: 'it returns false'. Refute it at one input. -/
def unackRawWrong : ChangeSpec := { name := "unackRaw", fn := fun _ => fun
  | [d1, d2, d3, d4, d5] => { results := [.lit (.bool false)], args := [d1, d2, d3, d4, d5] }
  | _ => none }
def UnackRawWrongFalsely : Prop := unackRawRow.holds Try.pinned (OpenSpec.ofChange unackRawWrong)

/-- 'radiolinklaw23.UnackWhole': WHATEVER THE INPUT: true; the input reads as it did. -/
def unackWholeSpec : ChangeSpec := { name := "unackWhole", fn := fun _ => fun
  | [d1, d2, d3] => { results := [.lit (.bool true)], args := [d1, d2, d3] }
  | _ => none }
def unackWholeRow : OpenClaim := { program := "ytlgolgpellbnbaa", sum := "a1fe68d15362aa2de8914ea11f725c3fcd2eb59f4365b273ce24591791453c1a", func := "radiolink/radiolinklaw23.UnackWhole", spec := "unackWhole", inPlace := ["slices.overlaps[radiolink/api.Partial]"], unfollowed := true, recurses := true, apart := false }
def UnackWholeSaid : Prop := unackWholeRow.holds Try.pinned (OpenSpec.ofChange unackWholeSpec)

/-- ITS FALSE NEIGHBOUR: 'it returns false'. Refute it at one input. -/
def unackWholeWrong : ChangeSpec := { name := "unackWhole", fn := fun _ => fun
  | [d1, d2, d3] => { results := [.lit (.bool false)], args := [d1, d2, d3] }
  | _ => none }
def UnackWholeWrongFalsely : Prop := unackWholeRow.holds Try.pinned (OpenSpec.ofChange unackWholeWrong)

/-- 'radiolinklaw23.UnackLosses': WHATEVER THE INPUT: true; the input reads as it did. -/
def unackLossesSpec : ChangeSpec := { name := "unackLosses", fn := fun _ => fun
  | [d1, d2] => { results := [.lit (.bool true)], args := [d1, d2] }
  | _ => none }
def unackLossesRow : OpenClaim := { program := "ytlgolgpellbnbaa", sum := "a1fe68d15362aa2de8914ea11f725c3fcd2eb59f4365b273ce24591791453c1a", func := "radiolink/radiolinklaw23.UnackLosses", spec := "unackLosses", inPlace := ["slices.overlaps[radiolink/api.Partial]"], unfollowed := true, recurses := true, apart := false }
def UnackLossesSaid : Prop := unackLossesRow.holds Try.pinned (OpenSpec.ofChange unackLossesSpec)

/-- ITS FALSE NEIGHBOUR: 'it returns false'. Refute it at one input. -/
def unackLossesWrong : ChangeSpec := { name := "unackLosses", fn := fun _ => fun
  | [d1, d2] => { results := [.lit (.bool false)], args := [d1, d2] }
  | _ => none }
def UnackLossesWrongFalsely : Prop := unackLossesRow.holds Try.pinned (OpenSpec.ofChange unackLossesWrong)

/- THE SECOND FORM. 'bulk': how many values and letters a reading holds, each counted each time it is reached (what is shared counts as often as it is met; a slice's spare places count too). A statement '..UptoSaid' is the law's where the arguments, and the package variables that the reading takes, are together of bulk at most 1048576: NARROWER than '..Said'. Prove '..Said' where nothing that the law and all that it calls make is longer than what came in: it says more and counts as full. Else prove '..UptoSaid'. A law counts once. -/
mutual
def uptoBulk {H : Type} : DataW H → Nat
  | .lit (.string bytes) => bytes.length + 1
  | .lit _ => 1
  | .nil => 1
  | .ptr d => uptoBulk d + 1
  | .slice elems spare => uptoBulkAll elems + uptoBulkAll spare + 1
  | .agg parts => uptoBulkAll parts + 1
  | .iface _ d => uptoBulk d + 1
  | .map entries => uptoBulkEntries entries + 1
  | .held _ => 1
def uptoBulkAll {H : Type} : List (DataW H) → Nat
  | [] => 0
  | d :: r => uptoBulk d + uptoBulkAll r
def uptoBulkEntries {H : Type} : List (Lit × DataW H) → Nat
  | [] => 0
  | x :: r => uptoBulkEntry x + uptoBulkEntries r
def uptoBulkEntry {H : Type} : Lit × DataW H → Nat
  | (.string bytes, d) => bytes.length + uptoBulk d + 1
  | (_, d) => uptoBulk d + 1
 end
def uptoSmall : (H : Type) → List (DataW H) → Bool := fun _ ds => decide (uptoBulkAll ds ≤ 1048576)
def OpenSpec.upto (s : _root_.Go.ChangeSpec) : _root_.Go.OpenSpec := { _root_.Go.OpenSpec.ofChange s with cond := some uptoSmall }

/-- 'radiolinklaw23.UnackRaw', WHERE WHAT IT READS IS OF BULK AT MOST 1048576: true; the input reads as it did. -/
def unackRawUptoRow : OpenClaim := { program := "ytlgolgpellbnbaa", sum := "a1fe68d15362aa2de8914ea11f725c3fcd2eb59f4365b273ce24591791453c1a", func := "radiolink/radiolinklaw23.UnackRaw", spec := "unackRaw", inPlace := ["slices.overlaps[radiolink/api.Partial]"], unfollowed := true, recurses := true, apart := false, narrowed := true }
def UnackRawUptoSaid : Prop := unackRawUptoRow.holds Try.pinned (OpenSpec.upto unackRawSpec)

/-- 'radiolinklaw23.UnackWhole', WHERE WHAT IT READS IS OF BULK AT MOST 1048576: true; the input reads as it did. -/
def unackWholeUptoRow : OpenClaim := { program := "ytlgolgpellbnbaa", sum := "a1fe68d15362aa2de8914ea11f725c3fcd2eb59f4365b273ce24591791453c1a", func := "radiolink/radiolinklaw23.UnackWhole", spec := "unackWhole", inPlace := ["slices.overlaps[radiolink/api.Partial]"], unfollowed := true, recurses := true, apart := false, narrowed := true }
def UnackWholeUptoSaid : Prop := unackWholeUptoRow.holds Try.pinned (OpenSpec.upto unackWholeSpec)

/-- 'radiolinklaw23.UnackLosses', WHERE WHAT IT READS IS OF BULK AT MOST 1048576: true; the input reads as it did. -/
def unackLossesUptoRow : OpenClaim := { program := "ytlgolgpellbnbaa", sum := "a1fe68d15362aa2de8914ea11f725c3fcd2eb59f4365b273ce24591791453c1a", func := "radiolink/radiolinklaw23.UnackLosses", spec := "unackLosses", inPlace := ["slices.overlaps[radiolink/api.Partial]"], unfollowed := true, recurses := true, apart := false, narrowed := true }
def UnackLossesUptoSaid : Prop := unackLossesUptoRow.holds Try.pinned (OpenSpec.upto unackLossesSpec)

end Rows
end Go.Proofs.Ytlgolgpellbnbaa
