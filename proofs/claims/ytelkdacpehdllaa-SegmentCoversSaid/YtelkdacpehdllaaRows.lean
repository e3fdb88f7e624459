/-
  No cell of these rows narrows 'for every input' (looked for: loops, veiled, ifaces, maps, wideKeys, modest, calm, conditions, laid).
  DERIVED. THE GIVEN ROWS OF THIS SEAT. 6 by the template 'for every input the law returns true; each argument reads behind the call as it read before'; 0 by the template 'total and deterministic' (their statements: YtelkdacpehdllaaTotals.lean).
  GIVEN WITH THE SEED: the statements are not yours to turn. If you find one false, say at which input.
  Laid BY PROGRAM, IN A SANDBOX (cutbox-rows.mjs): the forced cells as the released guide's own fill.sh prints them over the translation 055a2150b17afb73… (all of the seat's roots in one cut). By AI agents, Wed Nov 11 2026. No macro, syntax, notation, axiom, sorry.
-/
import Derived.Test.YtelkdacpehdllaaChecked
import GoSem.Claim
import GoSem.ClaimJoined
import GoSem.ClaimMapViews
import Derived.JoinedTies
import Derived.KernelRfl
namespace Go.Proofs.Ytelkdacpehdllaa
/- THE CELL 'sum', in the pinned program and in every row, IS THE sha256 OF THE DUMP (.gsa) THAT YtelkdacpehdllaaProg.lean LOADS. Nothing in Lean hashes anything: it is a label: what it is worth is what the hold of that sum in a sandbox is worth. -/
noncomputable def Try.pinned : Pinned := { name := "ytelkdacpehdllaa", sum := "055a2150b17afb7354700f6194fd4af0f812af0d09a0efc29a0e0f6cb5f0339f", checked := Try.checked }
namespace Rows
def none {H : Type} : Left H := { results := [], args := [] }

/-- 'radiolinklaw18.SegmentCuts': WHATEVER THE INPUT: true; the input reads as it did. -/
def segmentCutsSpec : ChangeSpec := { name := "segmentCuts", fn := fun _ => fun
  | [d] => { results := [.lit (.bool true)], args := [d] }
  | _ => none }
def segmentCutsRow : OpenClaim := { program := "ytelkdacpehdllaa", sum := "055a2150b17afb7354700f6194fd4af0f812af0d09a0efc29a0e0f6cb5f0339f", func := "radiolink/radiolinklaw18.SegmentCuts", spec := "segmentCuts", apart := false }
def SegmentCutsSaid : Prop := segmentCutsRow.holds Try.pinned (OpenSpec.ofChange segmentCutsSpec)

/-- ITS FALSE NEIGHBOUR: 'it returns false'. Refute it at one input. -/
def segmentCutsWrong : ChangeSpec := { name := "segmentCuts", fn := fun _ => fun
  | [d] => { results := [.lit (.bool false)], args := [d] }
  | _ => none }
def SegmentCutsWrongFalsely : Prop := segmentCutsRow.holds Try.pinned (OpenSpec.ofChange segmentCutsWrong)

/-- 'radiolinklaw18.SegmentPieces': WHATEVER THE INPUT: true; the input reads as it did. -/
def segmentPiecesSpec : ChangeSpec := { name := "segmentPieces", fn := fun _ => fun
  | [d1, d2, d3] => { results := [.lit (.bool true)], args := [d1, d2, d3] }
  | _ => none }
def segmentPiecesRow : OpenClaim := { program := "ytelkdacpehdllaa", sum := "055a2150b17afb7354700f6194fd4af0f812af0d09a0efc29a0e0f6cb5f0339f", func := "radiolink/radiolinklaw18.SegmentPieces", spec := "segmentPieces", apart := false }
def SegmentPiecesSaid : Prop := segmentPiecesRow.holds Try.pinned (OpenSpec.ofChange segmentPiecesSpec)

/-- ITS FALSE NEIGHBOUR: 'it returns false'. Refute it at one input. -/
def segmentPiecesWrong : ChangeSpec := { name := "segmentPieces", fn := fun _ => fun
  | [d1, d2, d3] => { results := [.lit (.bool false)], args := [d1, d2, d3] }
  | _ => none }
def SegmentPiecesWrongFalsely : Prop := segmentPiecesRow.holds Try.pinned (OpenSpec.ofChange segmentPiecesWrong)

/-- 'radiolinklaw18.SegmentPiecesMade': WHATEVER THE INPUT: true; the input reads as it did. -/
def segmentPiecesMadeSpec : ChangeSpec := { name := "segmentPiecesMade", fn := fun _ => fun
  | [d] => { results := [.lit (.bool true)], args := [d] }
  | _ => none }
def segmentPiecesMadeRow : OpenClaim := { program := "ytelkdacpehdllaa", sum := "055a2150b17afb7354700f6194fd4af0f812af0d09a0efc29a0e0f6cb5f0339f", func := "radiolink/radiolinklaw18.SegmentPiecesMade", spec := "segmentPiecesMade", apart := false }
def SegmentPiecesMadeSaid : Prop := segmentPiecesMadeRow.holds Try.pinned (OpenSpec.ofChange segmentPiecesMadeSpec)

/-- ITS FALSE NEIGHBOUR: 'it returns false'. Refute it at one input. -/
def segmentPiecesMadeWrong : ChangeSpec := { name := "segmentPiecesMade", fn := fun _ => fun
  | [d] => { results := [.lit (.bool false)], args := [d] }
  | _ => none }
def SegmentPiecesMadeWrongFalsely : Prop := segmentPiecesMadeRow.holds Try.pinned (OpenSpec.ofChange segmentPiecesMadeWrong)

/-- 'radiolinklaw18.SegmentReturns': WHATEVER THE INPUT: true; the input reads as it did. -/
def segmentReturnsSpec : ChangeSpec := { name := "segmentReturns", fn := fun _ => fun
  | [d] => { results := [.lit (.bool true)], args := [d] }
  | _ => none }
def segmentReturnsRow : OpenClaim := { program := "ytelkdacpehdllaa", sum := "055a2150b17afb7354700f6194fd4af0f812af0d09a0efc29a0e0f6cb5f0339f", func := "radiolink/radiolinklaw18.SegmentReturns", spec := "segmentReturns", apart := false }
def SegmentReturnsSaid : Prop := segmentReturnsRow.holds Try.pinned (OpenSpec.ofChange segmentReturnsSpec)

/-- ITS FALSE NEIGHBOUR: 'it returns false'. Refute it at one input. -/
def segmentReturnsWrong : ChangeSpec := { name := "segmentReturns", fn := fun _ => fun
  | [d] => { results := [.lit (.bool false)], args := [d] }
  | _ => none }
def SegmentReturnsWrongFalsely : Prop := segmentReturnsRow.holds Try.pinned (OpenSpec.ofChange segmentReturnsWrong)

/-- 'radiolinklaw18.SegmentRanges': WHATEVER THE INPUT: true; the input reads as it did. -/
def segmentRangesSpec : ChangeSpec := { name := "segmentRanges", fn := fun _ => fun
  | [d1, d2, d3] => { results := [.lit (.bool true)], args := [d1, d2, d3] }
  | _ => none }
def segmentRangesRow : OpenClaim := { program := "ytelkdacpehdllaa", sum := "055a2150b17afb7354700f6194fd4af0f812af0d09a0efc29a0e0f6cb5f0339f", func := "radiolink/radiolinklaw18.SegmentRanges", spec := "segmentRanges", apart := false }
def SegmentRangesSaid : Prop := segmentRangesRow.holds Try.pinned (OpenSpec.ofChange segmentRangesSpec)

/-- ITS FALSE NEIGHBOUR: 'it returns false'. Refute it at one input. -/
def segmentRangesWrong : ChangeSpec := { name := "segmentRanges", fn := fun _ => fun
  | [d1, d2, d3] => { results := [.lit (.bool false)], args := [d1, d2, d3] }
  | _ => none }
def SegmentRangesWrongFalsely : Prop := segmentRangesRow.holds Try.pinned (OpenSpec.ofChange segmentRangesWrong)

/-- 'radiolinklaw18.SegmentCovers': WHATEVER THE INPUT: true; the input reads as it did. -/
def segmentCoversSpec : ChangeSpec := { name := "segmentCovers", fn := fun _ => fun
  | [d1, d2] => { results := [.lit (.bool true)], args := [d1, d2] }
  | _ => none }
def segmentCoversRow : OpenClaim := { program := "ytelkdacpehdllaa", sum := "055a2150b17afb7354700f6194fd4af0f812af0d09a0efc29a0e0f6cb5f0339f", func := "radiolink/radiolinklaw18.SegmentCovers", spec := "segmentCovers", apart := false }
def SegmentCoversSaid : Prop := segmentCoversRow.holds Try.pinned (OpenSpec.ofChange segmentCoversSpec)

/-- ITS FALSE NEIGHBOUR: 'it returns false'. Refute it at one input. -/
def segmentCoversWrong : ChangeSpec := { name := "segmentCovers", fn := fun _ => fun
  | [d1, d2] => { results := [.lit (.bool false)], args := [d1, d2] }
  | _ => none }
def SegmentCoversWrongFalsely : Prop := segmentCoversRow.holds Try.pinned (OpenSpec.ofChange segmentCoversWrong)

/- THE SECOND FORM. 'bulk': how many values and letters a reading holds, each counted each time it is reached (what is shared counts as often as it is met; a slice's spare places count too). A statement '..UptoSaid' is the law's where the arguments, and the package variables that the reading takes, are together of bulk at most 1048576: NARROWER than '..Said'. Prove '..Said' where nothing that the law and all that it calls make is longer than what came in: it says more and counts as full. Else prove '..UptoSaid'. A law counts once. -/
mutual
def uptoBulk {H : Type} : DataW H → Nat
  | .lit (.string bytes) => bytes.length + 1
  | .lit _ => 1
  | .nil => 1
  | .ptr d => uptoBulk d + 1
  | .slice elems spare => uptoBulkAll elems + uptoBulkAll spare + 1
  | .agg parts => uptoBulkAll parts + 1
  | .iface _ d => uptoBulk d + 1
  | .map entries => uptoBulkEntries entries + 1
  | .held _ => 1
def uptoBulkAll {H : Type} : List (DataW H) → Nat
  | [] => 0
  | d :: r => uptoBulk d + uptoBulkAll r
def uptoBulkEntries {H : Type} : List (Lit × DataW H) → Nat
  | [] => 0
  | x :: r => uptoBulkEntry x + uptoBulkEntries r
def uptoBulkEntry {H : Type} : Lit × DataW H → Nat
  | (.string bytes, d) => bytes.length + uptoBulk d + 1
  | (_, d) => uptoBulk d + 1
 end
def uptoSmall : (H : Type) → List (DataW H) → Bool := fun _ ds => decide (uptoBulkAll ds ≤ 1048576)
def OpenSpec.upto (s : _root_.Go.ChangeSpec) : _root_.Go.OpenSpec := { _root_.Go.OpenSpec.ofChange s with cond := some uptoSmall }

/-- 'radiolinklaw18.SegmentCuts', WHERE WHAT IT READS IS OF BULK AT MOST 1048576: true; the input reads as it did. -/
def segmentCutsUptoRow : OpenClaim := { program := "ytelkdacpehdllaa", sum := "055a2150b17afb7354700f6194fd4af0f812af0d09a0efc29a0e0f6cb5f0339f", func := "radiolink/radiolinklaw18.SegmentCuts", spec := "segmentCuts", apart := false, narrowed := true }
def SegmentCutsUptoSaid : Prop := segmentCutsUptoRow.holds Try.pinned (OpenSpec.upto segmentCutsSpec)

/-- 'radiolinklaw18.SegmentPieces', WHERE WHAT IT READS IS OF BULK AT MOST 1048576: true; the input reads as it did. -/
def segmentPiecesUptoRow : OpenClaim := { program := "ytelkdacpehdllaa", sum := "055a2150b17afb7354700f6194fd4af0f812af0d09a0efc29a0e0f6cb5f0339f", func := "radiolink/radiolinklaw18.SegmentPieces", spec := "segmentPieces", apart := false, narrowed := true }
def SegmentPiecesUptoSaid : Prop := segmentPiecesUptoRow.holds Try.pinned (OpenSpec.upto segmentPiecesSpec)

/-- 'radiolinklaw18.SegmentPiecesMade', WHERE WHAT IT READS IS OF BULK AT MOST 1048576: true; the input reads as it did. -/
def segmentPiecesMadeUptoRow : OpenClaim := { program := "ytelkdacpehdllaa", sum := "055a2150b17afb7354700f6194fd4af0f812af0d09a0efc29a0e0f6cb5f0339f", func := "radiolink/radiolinklaw18.SegmentPiecesMade", spec := "segmentPiecesMade", apart := false, narrowed := true }
def SegmentPiecesMadeUptoSaid : Prop := segmentPiecesMadeUptoRow.holds Try.pinned (OpenSpec.upto segmentPiecesMadeSpec)

/-- 'radiolinklaw18.SegmentReturns', WHERE WHAT IT READS IS OF BULK AT MOST 1048576: true; the input reads as it did. -/
def segmentReturnsUptoRow : OpenClaim := { program := "ytelkdacpehdllaa", sum := "055a2150b17afb7354700f6194fd4af0f812af0d09a0efc29a0e0f6cb5f0339f", func := "radiolink/radiolinklaw18.SegmentReturns", spec := "segmentReturns", apart := false, narrowed := true }
def SegmentReturnsUptoSaid : Prop := segmentReturnsUptoRow.holds Try.pinned (OpenSpec.upto segmentReturnsSpec)

/-- 'radiolinklaw18.SegmentRanges', WHERE WHAT IT READS IS OF BULK AT MOST 1048576: true; the input reads as it did. -/
def segmentRangesUptoRow : OpenClaim := { program := "ytelkdacpehdllaa", sum := "055a2150b17afb7354700f6194fd4af0f812af0d09a0efc29a0e0f6cb5f0339f", func := "radiolink/radiolinklaw18.SegmentRanges", spec := "segmentRanges", apart := false, narrowed := true }
def SegmentRangesUptoSaid : Prop := segmentRangesUptoRow.holds Try.pinned (OpenSpec.upto segmentRangesSpec)

/-- 'radiolinklaw18.SegmentCovers', WHERE WHAT IT READS IS OF BULK AT MOST 1048576: true; the input reads as it did. -/
def segmentCoversUptoRow : OpenClaim := { program := "ytelkdacpehdllaa", sum := "055a2150b17afb7354700f6194fd4af0f812af0d09a0efc29a0e0f6cb5f0339f", func := "radiolink/radiolinklaw18.SegmentCovers", spec := "segmentCovers", apart := false, narrowed := true }
def SegmentCoversUptoSaid : Prop := segmentCoversUptoRow.holds Try.pinned (OpenSpec.upto segmentCoversSpec)

end Rows
end Go.Proofs.Ytelkdacpehdllaa
