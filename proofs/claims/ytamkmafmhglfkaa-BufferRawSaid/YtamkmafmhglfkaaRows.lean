/-
  No cell of these rows narrows 'for every input' (looked for: loops, veiled, ifaces, maps, wideKeys, modest, calm, conditions, laid).
  DERIVED. THE GIVEN ROWS OF THIS SEAT. 4 by the template 'for every input the law returns true; each argument reads behind the call as it read before'; 0 by the template 'total and deterministic' (their statements: YtamkmafmhglfkaaTotals.lean).
  GIVEN WITH THE SEED: the statements are not yours to turn. If you find one false, say at which input.
  Laid BY PROGRAM, IN A SANDBOX (cutbox-rows.mjs): the forced cells as the released guide's own fill.sh prints them over the translation 2783a45d01434b4f… (all of the seat's roots in one cut). By AI agents, Wed Nov 11 2026. No macro, syntax, notation, axiom, sorry.
-/
import Derived.Test.YtamkmafmhglfkaaChecked
import GoSem.Claim
import GoSem.ClaimJoined
import GoSem.ClaimMapViews
import Derived.JoinedTies
import Derived.KernelRfl
namespace Go.Proofs.Ytamkmafmhglfkaa
/- THE CELL 'sum', in the pinned program and in every row, IS THE sha256 OF THE DUMP (.gsa) THAT YtamkmafmhglfkaaProg.lean LOADS. Nothing in Lean hashes anything: it is a label: what it is worth is what the hold of that sum in a sandbox is worth. -/
noncomputable def Try.pinned : Pinned := { name := "ytamkmafmhglfkaa", sum := "2783a45d01434b4fa872859b92024dd96faa4d9a094addaacfad3aa6790d982f", checked := Try.checked }
namespace Rows
def none {H : Type} : Left H := { results := [], args := [] }

/-- 'radiolinklaw26.BufferLevels': WHATEVER THE INPUT: true; the input reads as it did. -/
def bufferLevelsSpec : ChangeSpec := { name := "bufferLevels", fn := fun _ => fun
  | [d1, d2] => { results := [.lit (.bool true)], args := [d1, d2] }
  | _ => none }
def bufferLevelsRow : OpenClaim := { program := "ytamkmafmhglfkaa", sum := "2783a45d01434b4fa872859b92024dd96faa4d9a094addaacfad3aa6790d982f", func := "radiolink/radiolinklaw26.BufferLevels", spec := "bufferLevels", apart := false }
def BufferLevelsSaid : Prop := bufferLevelsRow.holds Try.pinned (OpenSpec.ofChange bufferLevelsSpec)

/-- ITS FALSE NEIGHBOUR: 'it returns false'. Refute it at one input. -/
def bufferLevelsWrong : ChangeSpec := { name := "bufferLevels", fn := fun _ => fun
  | [d1, d2] => { results := [.lit (.bool false)], args := [d1, d2] }
  | _ => none }
def BufferLevelsWrongFalsely : Prop := bufferLevelsRow.holds Try.pinned (OpenSpec.ofChange bufferLevelsWrong)

/-- 'radiolinklaw26.BufferOf': WHATEVER THE INPUT: true; the input reads as it did. -/
def bufferOfSpec : ChangeSpec := { name := "bufferOf", fn := fun _ => fun
  | [d1, d2] => { results := [.lit (.bool true)], args := [d1, d2] }
  | _ => none }
def bufferOfRow : OpenClaim := { program := "ytamkmafmhglfkaa", sum := "2783a45d01434b4fa872859b92024dd96faa4d9a094addaacfad3aa6790d982f", func := "radiolink/radiolinklaw26.BufferOf", spec := "bufferOf", apart := false }
def BufferOfSaid : Prop := bufferOfRow.holds Try.pinned (OpenSpec.ofChange bufferOfSpec)

/-- ITS FALSE NEIGHBOUR: 'it returns false'. Refute it at one input. -/
def bufferOfWrong : ChangeSpec := { name := "bufferOf", fn := fun _ => fun
  | [d1, d2] => { results := [.lit (.bool false)], args := [d1, d2] }
  | _ => none }
def BufferOfWrongFalsely : Prop := bufferOfRow.holds Try.pinned (OpenSpec.ofChange bufferOfWrong)

/-- 'radiolinklaw26.BufferBack': WHATEVER THE INPUT: true; the input reads as it did. -/
def bufferBackSpec : ChangeSpec := { name := "bufferBack", fn := fun _ => fun
  | [d] => { results := [.lit (.bool true)], args := [d] }
  | _ => none }
def bufferBackRow : OpenClaim := { program := "ytamkmafmhglfkaa", sum := "2783a45d01434b4fa872859b92024dd96faa4d9a094addaacfad3aa6790d982f", func := "radiolink/radiolinklaw26.BufferBack", spec := "bufferBack", apart := false }
def BufferBackSaid : Prop := bufferBackRow.holds Try.pinned (OpenSpec.ofChange bufferBackSpec)

/-- ITS FALSE NEIGHBOUR: 'it returns false'. Refute it at one input. -/
def bufferBackWrong : ChangeSpec := { name := "bufferBack", fn := fun _ => fun
  | [d] => { results := [.lit (.bool false)], args := [d] }
  | _ => none }
def BufferBackWrongFalsely : Prop := bufferBackRow.holds Try.pinned (OpenSpec.ofChange bufferBackWrong)

/-- 'radiolinklaw26.BufferRaw': WHATEVER THE INPUT: true; the input reads as it did. -/
def bufferRawSpec : ChangeSpec := { name := "bufferRaw", fn := fun _ => fun
  | [d1, d2, d3, d4, d5, d6] => { results := [.lit (.bool true)], args := [d1, d2, d3, d4, d5, d6] }
  | _ => none }
def bufferRawRow : OpenClaim := { program := "ytamkmafmhglfkaa", sum := "2783a45d01434b4fa872859b92024dd96faa4d9a094addaacfad3aa6790d982f", func := "radiolink/radiolinklaw26.BufferRaw", spec := "bufferRaw", apart := false }
def BufferRawSaid : Prop := bufferRawRow.holds Try.pinned (OpenSpec.ofChange bufferRawSpec)

/-- ITS FALSE NEIGHBOUR: 'it returns false'. Refute it at one input. -/
def bufferRawWrong : ChangeSpec := { name := "bufferRaw", fn := fun _ => fun
  | [d1, d2, d3, d4, d5, d6] => { results := [.lit (.bool false)], args := [d1, d2, d3, d4, d5, d6] }
  | _ => none }
def BufferRawWrongFalsely : Prop := bufferRawRow.holds Try.pinned (OpenSpec.ofChange bufferRawWrong)

/- THE SECOND FORM. 'bulk': how many values and letters a reading holds, each counted each time it is reached (what is shared counts as often as it is met; a slice's spare places count too). A statement '..UptoSaid' is the law's where the arguments, and the package variables that the reading takes, are together of bulk at most 1048576: NARROWER than '..Said'. Prove '..Said' where nothing that the law and all that it calls make is longer than what came in: it says more and counts as full. Else prove '..UptoSaid'. A law counts once. -/
mutual
def uptoBulk {H : Type} : DataW H → Nat
  | .lit (.string bytes) => bytes.length + 1
  | .lit _ => 1
  | .nil => 1
  | .ptr d => uptoBulk d + 1
  | .slice elems spare => uptoBulkAll elems + uptoBulkAll spare + 1
  | .agg parts => uptoBulkAll parts + 1
  | .iface _ d => uptoBulk d + 1
  | .map entries => uptoBulkEntries entries + 1
  | .held _ => 1
def uptoBulkAll {H : Type} : List (DataW H) → Nat
  | [] => 0
  | d :: r => uptoBulk d + uptoBulkAll r
def uptoBulkEntries {H : Type} : List (Lit × DataW H) → Nat
  | [] => 0
  | x :: r => uptoBulkEntry x + uptoBulkEntries r
def uptoBulkEntry {H : Type} : Lit × DataW H → Nat
  | (.string bytes, d) => bytes.length + uptoBulk d + 1
  | (_, d) => uptoBulk d + 1
 end
def uptoSmall : (H : Type) → List (DataW H) → Bool := fun _ ds => decide (uptoBulkAll ds ≤ 1048576)
def OpenSpec.upto (s : _root_.Go.ChangeSpec) : _root_.Go.OpenSpec := { _root_.Go.OpenSpec.ofChange s with cond := some uptoSmall }

/-- 'radiolinklaw26.BufferLevels', WHERE WHAT IT READS IS OF BULK AT MOST 1048576: true; the input reads as it did. -/
def bufferLevelsUptoRow : OpenClaim := { program := "ytamkmafmhglfkaa", sum := "2783a45d01434b4fa872859b92024dd96faa4d9a094addaacfad3aa6790d982f", func := "radiolink/radiolinklaw26.BufferLevels", spec := "bufferLevels", apart := false, narrowed := true }
def BufferLevelsUptoSaid : Prop := bufferLevelsUptoRow.holds Try.pinned (OpenSpec.upto bufferLevelsSpec)

/-- 'radiolinklaw26.BufferOf', WHERE WHAT IT READS IS OF BULK AT MOST 1048576: true; the input reads as it did. -/
def bufferOfUptoRow : OpenClaim := { program := "ytamkmafmhglfkaa", sum := "2783a45d01434b4fa872859b92024dd96faa4d9a094addaacfad3aa6790d982f", func := "radiolink/radiolinklaw26.BufferOf", spec := "bufferOf", apart := false, narrowed := true }
def BufferOfUptoSaid : Prop := bufferOfUptoRow.holds Try.pinned (OpenSpec.upto bufferOfSpec)

/-- 'radiolinklaw26.BufferBack', WHERE WHAT IT READS IS OF BULK AT MOST 1048576: true; the input reads as it did. -/
def bufferBackUptoRow : OpenClaim := { program := "ytamkmafmhglfkaa", sum := "2783a45d01434b4fa872859b92024dd96faa4d9a094addaacfad3aa6790d982f", func := "radiolink/radiolinklaw26.BufferBack", spec := "bufferBack", apart := false, narrowed := true }
def BufferBackUptoSaid : Prop := bufferBackUptoRow.holds Try.pinned (OpenSpec.upto bufferBackSpec)

/-- 'radiolinklaw26.BufferRaw', WHERE WHAT IT READS IS OF BULK AT MOST 1048576: true; the input reads as it did. -/
def bufferRawUptoRow : OpenClaim := { program := "ytamkmafmhglfkaa", sum := "2783a45d01434b4fa872859b92024dd96faa4d9a094addaacfad3aa6790d982f", func := "radiolink/radiolinklaw26.BufferRaw", spec := "bufferRaw", apart := false, narrowed := true }
def BufferRawUptoSaid : Prop := bufferRawUptoRow.holds Try.pinned (OpenSpec.upto bufferRawSpec)

end Rows
end Go.Proofs.Ytamkmafmhglfkaa
