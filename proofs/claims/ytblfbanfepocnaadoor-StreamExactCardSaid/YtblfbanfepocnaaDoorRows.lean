/-
  NARROWER THAN 'FOR EVERY INPUT', by the rows' own cells (each row's printed sentence says how): StreamQuarter: laid · StreamExact: laid · StreamLimits: laid · StreamTwice: laid · StreamBlocks: laid.
  DERIVED. THE GIVEN ROWS OF THIS SEAT. 5 by the template 'for every input the law returns true; each argument reads behind the call as it read before'; 0 by the template 'total and deterministic' (their statements: YtblfbanfepocnaaDoorTotals.lean).
  GIVEN WITH THE SEED: the statements are not yours to turn. If you find one false, say at which input.
  Laid BY PROGRAM, IN A SANDBOX (cutbox-rows.mjs): the forced cells as the released guide's own fill.sh prints them over the translation e66cdb366e2b142a… (all of the seat's roots in one cut). By AI agents, Wed Nov 11 2026. No macro, syntax, notation, axiom, sorry.
-/
import Derived.Test.YtblfbanfepocnaaDoorChecked
import GoSem.Claim
import GoSem.ClaimJoined
import GoSem.ClaimMapViews
import Derived.JoinedTies
import Derived.KernelRfl
namespace Go.Proofs.YtblfbanfepocnaaDoor
/- THE CELL 'sum', in the pinned program and in every row, IS THE sha256 OF THE DUMP (.gsa) THAT YtblfbanfepocnaaDoorProg.lean LOADS. Nothing in Lean hashes anything: it is a label: what it is worth is what the hold of that sum in a sandbox is worth. -/
noncomputable def Tryd.pinned : Pinned := { name := "ytblfbanfepocnaadoor", sum := "e66cdb366e2b142a082c3aac48993296dabdb68a70c01e4d06fd47ee06d4c7e5", checked := Tryd.checked }
namespace Rows
def none {H : Type} : Left H := { results := [], args := [] }

/- WHAT THE LISTED PACKAGE-LEVEL VARIABLES READ AS WHEN THE CALL BEGINS. Each datum BY PROGRAM (the guide's laid-datum.mjs) off the statement by which the dump's own 'gosem.cut.vars' lays the variable. In a bare row this is a premise. The card (YtblfbanfepocnaaDoorCards.lean) ties it to the program's text. -/
def laid_radiolink_stream_lanes {H : Type} : DataW H := .agg [.agg [.lit (.int .i64 0), .lit (.int .i64 4), .lit (.int .i64 8), .lit (.int .i64 12)], .agg [.lit (.int .i64 1), .lit (.int .i64 5), .lit (.int .i64 9), .lit (.int .i64 13)], .agg [.lit (.int .i64 2), .lit (.int .i64 6), .lit (.int .i64 10), .lit (.int .i64 14)], .agg [.lit (.int .i64 3), .lit (.int .i64 7), .lit (.int .i64 11), .lit (.int .i64 15)], .agg [.lit (.int .i64 0), .lit (.int .i64 5), .lit (.int .i64 10), .lit (.int .i64 15)], .agg [.lit (.int .i64 1), .lit (.int .i64 6), .lit (.int .i64 11), .lit (.int .i64 12)], .agg [.lit (.int .i64 2), .lit (.int .i64 7), .lit (.int .i64 8), .lit (.int .i64 13)], .agg [.lit (.int .i64 3), .lit (.int .i64 4), .lit (.int .i64 9), .lit (.int .i64 14)]]

/-- 'radiolinklaw13.StreamQuarter': WHATEVER THE INPUT: true; the input reads as it did. -/
def streamQuarterSpec : ChangeSpec := { name := "streamQuarter", fn := fun _ => fun
  | [d1, d2] => { results := [.lit (.bool true)], args := [d1, d2] }
  | _ => none }
def streamQuarterRow : OpenClaim := { program := "ytblfbanfepocnaadoor", sum := "e66cdb366e2b142a082c3aac48993296dabdb68a70c01e4d06fd47ee06d4c7e5", func := "radiolink/radiolinklaw13.StreamQuarter", spec := "streamQuarter", named := ["radiolink/stream.lanes"], apart := false, laid := [("radiolink/stream.lanes", laid_radiolink_stream_lanes)] }
def StreamQuarterSaid : Prop := streamQuarterRow.holds Tryd.pinned (OpenSpec.ofChange streamQuarterSpec)

/-- ITS FALSE NEIGHBOUR: 'it returns false'. Refute it at one input. -/
def streamQuarterWrong : ChangeSpec := { name := "streamQuarter", fn := fun _ => fun
  | [d1, d2] => { results := [.lit (.bool false)], args := [d1, d2] }
  | _ => none }
def StreamQuarterWrongFalsely : Prop := streamQuarterRow.holds Tryd.pinned (OpenSpec.ofChange streamQuarterWrong)

/-- 'radiolinklaw13.StreamExact': WHATEVER THE INPUT: true; the input reads as it did. -/
def streamExactSpec : ChangeSpec := { name := "streamExact", fn := fun _ => fun
  | [d1, d2, d3] => { results := [.lit (.bool true)], args := [d1, d2, d3] }
  | _ => none }
def streamExactRow : OpenClaim := { program := "ytblfbanfepocnaadoor", sum := "e66cdb366e2b142a082c3aac48993296dabdb68a70c01e4d06fd47ee06d4c7e5", func := "radiolink/radiolinklaw13.StreamExact", spec := "streamExact", named := ["radiolink/stream.lanes"], apart := false, laid := [("radiolink/stream.lanes", laid_radiolink_stream_lanes)] }
def StreamExactSaid : Prop := streamExactRow.holds Tryd.pinned (OpenSpec.ofChange streamExactSpec)

/-- ITS FALSE NEIGHBOUR: 'it returns false'. Refute it at one input. -/
def streamExactWrong : ChangeSpec := { name := "streamExact", fn := fun _ => fun
  | [d1, d2, d3] => { results := [.lit (.bool false)], args := [d1, d2, d3] }
  | _ => none }
def StreamExactWrongFalsely : Prop := streamExactRow.holds Tryd.pinned (OpenSpec.ofChange streamExactWrong)

/-- 'radiolinklaw13.StreamLimits': WHATEVER THE INPUT: true; the input reads as it did. -/
def streamLimitsSpec : ChangeSpec := { name := "streamLimits", fn := fun _ => fun
  | [d1, d2] => { results := [.lit (.bool true)], args := [d1, d2] }
  | _ => none }
def streamLimitsRow : OpenClaim := { program := "ytblfbanfepocnaadoor", sum := "e66cdb366e2b142a082c3aac48993296dabdb68a70c01e4d06fd47ee06d4c7e5", func := "radiolink/radiolinklaw13.StreamLimits", spec := "streamLimits", named := ["radiolink/stream.lanes"], apart := false, laid := [("radiolink/stream.lanes", laid_radiolink_stream_lanes)] }
def StreamLimitsSaid : Prop := streamLimitsRow.holds Tryd.pinned (OpenSpec.ofChange streamLimitsSpec)

/-- ITS FALSE NEIGHBOUR: 'it returns false'. Refute it at one input. -/
def streamLimitsWrong : ChangeSpec := { name := "streamLimits", fn := fun _ => fun
  | [d1, d2] => { results := [.lit (.bool false)], args := [d1, d2] }
  | _ => none }
def StreamLimitsWrongFalsely : Prop := streamLimitsRow.holds Tryd.pinned (OpenSpec.ofChange streamLimitsWrong)

/-- 'radiolinklaw13.StreamTwice': WHATEVER THE INPUT: true; the input reads as it did. -/
def streamTwiceSpec : ChangeSpec := { name := "streamTwice", fn := fun _ => fun
  | [d1, d2] => { results := [.lit (.bool true)], args := [d1, d2] }
  | _ => none }
def streamTwiceRow : OpenClaim := { program := "ytblfbanfepocnaadoor", sum := "e66cdb366e2b142a082c3aac48993296dabdb68a70c01e4d06fd47ee06d4c7e5", func := "radiolink/radiolinklaw13.StreamTwice", spec := "streamTwice", named := ["radiolink/stream.lanes"], apart := false, laid := [("radiolink/stream.lanes", laid_radiolink_stream_lanes)] }
def StreamTwiceSaid : Prop := streamTwiceRow.holds Tryd.pinned (OpenSpec.ofChange streamTwiceSpec)

/-- ITS FALSE NEIGHBOUR: 'it returns false'. Refute it at one input. -/
def streamTwiceWrong : ChangeSpec := { name := "streamTwice", fn := fun _ => fun
  | [d1, d2] => { results := [.lit (.bool false)], args := [d1, d2] }
  | _ => none }
def StreamTwiceWrongFalsely : Prop := streamTwiceRow.holds Tryd.pinned (OpenSpec.ofChange streamTwiceWrong)

/-- 'radiolinklaw13.StreamBlocks': WHATEVER THE INPUT: true; the input reads as it did. -/
def streamBlocksSpec : ChangeSpec := { name := "streamBlocks", fn := fun _ => fun
  | [d] => { results := [.lit (.bool true)], args := [d] }
  | _ => none }
def streamBlocksRow : OpenClaim := { program := "ytblfbanfepocnaadoor", sum := "e66cdb366e2b142a082c3aac48993296dabdb68a70c01e4d06fd47ee06d4c7e5", func := "radiolink/radiolinklaw13.StreamBlocks", spec := "streamBlocks", named := ["radiolink/stream.lanes"], apart := false, laid := [("radiolink/stream.lanes", laid_radiolink_stream_lanes)] }
def StreamBlocksSaid : Prop := streamBlocksRow.holds Tryd.pinned (OpenSpec.ofChange streamBlocksSpec)

/-- ITS FALSE NEIGHBOUR: 'it returns false'. Refute it at one input. -/
def streamBlocksWrong : ChangeSpec := { name := "streamBlocks", fn := fun _ => fun
  | [d] => { results := [.lit (.bool false)], args := [d] }
  | _ => none }
def StreamBlocksWrongFalsely : Prop := streamBlocksRow.holds Tryd.pinned (OpenSpec.ofChange streamBlocksWrong)

/- THE SECOND FORM. 'bulk': how many values and letters a reading holds, each counted each time it is reached (what is shared counts as often as it is met; a slice's spare places count too). A statement '..UptoSaid' is the law's where the arguments, and the package variables that the reading takes, are together of bulk at most 1048576: NARROWER than '..Said'. Prove '..Said' where nothing that the law and all that it calls make is longer than what came in: it says more and counts as full. Else prove '..UptoSaid'. A law counts once. -/
mutual
def uptoBulk {H : Type} : DataW H → Nat
  | .lit (.string bytes) => bytes.length + 1
  | .lit _ => 1
  | .nil => 1
  | .ptr d => uptoBulk d + 1
  | .slice elems spare => uptoBulkAll elems + uptoBulkAll spare + 1
  | .agg parts => uptoBulkAll parts + 1
  | .iface _ d => uptoBulk d + 1
  | .map entries => uptoBulkEntries entries + 1
  | .held _ => 1
def uptoBulkAll {H : Type} : List (DataW H) → Nat
  | [] => 0
  | d :: r => uptoBulk d + uptoBulkAll r
def uptoBulkEntries {H : Type} : List (Lit × DataW H) → Nat
  | [] => 0
  | x :: r => uptoBulkEntry x + uptoBulkEntries r
def uptoBulkEntry {H : Type} : Lit × DataW H → Nat
  | (.string bytes, d) => bytes.length + uptoBulk d + 1
  | (_, d) => uptoBulk d + 1
 end
def uptoSmall : (H : Type) → List (DataW H) → Bool := fun _ ds => decide (uptoBulkAll ds ≤ 1048576)
def OpenSpec.upto (s : _root_.Go.ChangeSpec) : _root_.Go.OpenSpec := { _root_.Go.OpenSpec.ofChange s with cond := some uptoSmall }

/-- 'radiolinklaw13.StreamQuarter', WHERE WHAT IT READS IS OF BULK AT MOST 1048576: true; the input reads as it did. -/
def streamQuarterUptoRow : OpenClaim := { program := "ytblfbanfepocnaadoor", sum := "e66cdb366e2b142a082c3aac48993296dabdb68a70c01e4d06fd47ee06d4c7e5", func := "radiolink/radiolinklaw13.StreamQuarter", spec := "streamQuarter", named := ["radiolink/stream.lanes"], apart := false, laid := [("radiolink/stream.lanes", laid_radiolink_stream_lanes)], narrowed := true }
def StreamQuarterUptoSaid : Prop := streamQuarterUptoRow.holds Tryd.pinned (OpenSpec.upto streamQuarterSpec)

/-- 'radiolinklaw13.StreamExact', WHERE WHAT IT READS IS OF BULK AT MOST 1048576: true; the input reads as it did. -/
def streamExactUptoRow : OpenClaim := { program := "ytblfbanfepocnaadoor", sum := "e66cdb366e2b142a082c3aac48993296dabdb68a70c01e4d06fd47ee06d4c7e5", func := "radiolink/radiolinklaw13.StreamExact", spec := "streamExact", named := ["radiolink/stream.lanes"], apart := false, laid := [("radiolink/stream.lanes", laid_radiolink_stream_lanes)], narrowed := true }
def StreamExactUptoSaid : Prop := streamExactUptoRow.holds Tryd.pinned (OpenSpec.upto streamExactSpec)

/-- 'radiolinklaw13.StreamLimits', WHERE WHAT IT READS IS OF BULK AT MOST 1048576: true; the input reads as it did. -/
def streamLimitsUptoRow : OpenClaim := { program := "ytblfbanfepocnaadoor", sum := "e66cdb366e2b142a082c3aac48993296dabdb68a70c01e4d06fd47ee06d4c7e5", func := "radiolink/radiolinklaw13.StreamLimits", spec := "streamLimits", named := ["radiolink/stream.lanes"], apart := false, laid := [("radiolink/stream.lanes", laid_radiolink_stream_lanes)], narrowed := true }
def StreamLimitsUptoSaid : Prop := streamLimitsUptoRow.holds Tryd.pinned (OpenSpec.upto streamLimitsSpec)

/-- 'radiolinklaw13.StreamTwice', WHERE WHAT IT READS IS OF BULK AT MOST 1048576: true; the input reads as it did. -/
def streamTwiceUptoRow : OpenClaim := { program := "ytblfbanfepocnaadoor", sum := "e66cdb366e2b142a082c3aac48993296dabdb68a70c01e4d06fd47ee06d4c7e5", func := "radiolink/radiolinklaw13.StreamTwice", spec := "streamTwice", named := ["radiolink/stream.lanes"], apart := false, laid := [("radiolink/stream.lanes", laid_radiolink_stream_lanes)], narrowed := true }
def StreamTwiceUptoSaid : Prop := streamTwiceUptoRow.holds Tryd.pinned (OpenSpec.upto streamTwiceSpec)

/-- 'radiolinklaw13.StreamBlocks', WHERE WHAT IT READS IS OF BULK AT MOST 1048576: true; the input reads as it did. -/
def streamBlocksUptoRow : OpenClaim := { program := "ytblfbanfepocnaadoor", sum := "e66cdb366e2b142a082c3aac48993296dabdb68a70c01e4d06fd47ee06d4c7e5", func := "radiolink/radiolinklaw13.StreamBlocks", spec := "streamBlocks", named := ["radiolink/stream.lanes"], apart := false, laid := [("radiolink/stream.lanes", laid_radiolink_stream_lanes)], narrowed := true }
def StreamBlocksUptoSaid : Prop := streamBlocksUptoRow.holds Tryd.pinned (OpenSpec.upto streamBlocksSpec)

end Rows
end Go.Proofs.YtblfbanfepocnaaDoor
