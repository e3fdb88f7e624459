/-
  No cell of these rows narrows 'for every input' (looked for: loops, veiled, ifaces, maps, wideKeys, modest, calm, conditions, laid).
  DERIVED. THE GIVEN ROWS OF THIS SEAT. 5 by the template 'for every input the law returns true; each argument reads behind the call as it read before'; 0 by the template 'total and deterministic' (their statements: YtjmjdjpbgjjhmaaTotals.lean).
  GIVEN WITH THE SEED: the statements are not yours to turn. If you find one false, say at which input.
  Laid BY PROGRAM, IN A SANDBOX (cutbox-rows.mjs): the forced cells as the released guide's own fill.sh prints them over the translation 92cd851cc5ba02a7… (all of the seat's roots in one cut). By AI agents, Wed Nov 11 2026. No macro, syntax, notation, axiom, sorry.
-/
import Derived.Test.YtjmjdjpbgjjhmaaChecked
import GoSem.Claim
import GoSem.ClaimJoined
import GoSem.ClaimMapViews
import Derived.JoinedTies
import Derived.KernelRfl
namespace Go.Proofs.Ytjmjdjpbgjjhmaa
/- THE CELL 'sum', in the pinned program and in every row, IS THE sha256 OF THE DUMP (.gsa) THAT YtjmjdjpbgjjhmaaProg.lean LOADS. Nothing in Lean hashes anything: it is a label: what it is worth is what the hold of that sum in a sandbox is worth. -/
noncomputable def Try.pinned : Pinned := { name := "ytjmjdjpbgjjhmaa", sum := "92cd851cc5ba02a789f7db0645618ce31650f759ff3f0752b4c538968e5a7e25", checked := Try.checked }
namespace Rows
def none {H : Type} : Left H := { results := [], args := [] }

/-- 'radiolinklaw24.BlockRaw': WHATEVER THE INPUT: true; the input reads as it did. -/
def blockRawSpec : ChangeSpec := { name := "blockRaw", fn := fun _ => fun
  | [d1, d2, d3] => { results := [.lit (.bool true)], args := [d1, d2, d3] }
  | _ => none }
def blockRawRow : OpenClaim := { program := "ytjmjdjpbgjjhmaa", sum := "92cd851cc5ba02a789f7db0645618ce31650f759ff3f0752b4c538968e5a7e25", func := "radiolink/radiolinklaw24.BlockRaw", spec := "blockRaw", apart := false }
def BlockRawSaid : Prop := blockRawRow.holds Try.pinned (OpenSpec.ofChange blockRawSpec)

/-- ITS FALSE NEIGHBOUR: 'it returns false'. Refute it at one input. -/
def blockRawWrong : ChangeSpec := { name := "blockRaw", fn := fun _ => fun
  | [d1, d2, d3] => { results := [.lit (.bool false)], args := [d1, d2, d3] }
  | _ => none }
def BlockRawWrongFalsely : Prop := blockRawRow.holds Try.pinned (OpenSpec.ofChange blockRawWrong)

/-- 'radiolinklaw24.BlockMade': WHATEVER THE INPUT: true; the input reads as it did. -/
def blockMadeSpec : ChangeSpec := { name := "blockMade", fn := fun _ => fun
  | [d1, d2, d3, d4, d5] => { results := [.lit (.bool true)], args := [d1, d2, d3, d4, d5] }
  | _ => none }
def blockMadeRow : OpenClaim := { program := "ytjmjdjpbgjjhmaa", sum := "92cd851cc5ba02a789f7db0645618ce31650f759ff3f0752b4c538968e5a7e25", func := "radiolink/radiolinklaw24.BlockMade", spec := "blockMade", apart := false }
def BlockMadeSaid : Prop := blockMadeRow.holds Try.pinned (OpenSpec.ofChange blockMadeSpec)

/-- ITS FALSE NEIGHBOUR: 'it returns false'. Refute it at one input. -/
def blockMadeWrong : ChangeSpec := { name := "blockMade", fn := fun _ => fun
  | [d1, d2, d3, d4, d5] => { results := [.lit (.bool false)], args := [d1, d2, d3, d4, d5] }
  | _ => none }
def BlockMadeWrongFalsely : Prop := blockMadeRow.holds Try.pinned (OpenSpec.ofChange blockMadeWrong)

/-- 'radiolinklaw24.BlockBack': WHATEVER THE INPUT: true; the input reads as it did. -/
def blockBackSpec : ChangeSpec := { name := "blockBack", fn := fun _ => fun
  | [d1, d2, d3] => { results := [.lit (.bool true)], args := [d1, d2, d3] }
  | _ => none }
def blockBackRow : OpenClaim := { program := "ytjmjdjpbgjjhmaa", sum := "92cd851cc5ba02a789f7db0645618ce31650f759ff3f0752b4c538968e5a7e25", func := "radiolink/radiolinklaw24.BlockBack", spec := "blockBack", apart := false }
def BlockBackSaid : Prop := blockBackRow.holds Try.pinned (OpenSpec.ofChange blockBackSpec)

/-- ITS FALSE NEIGHBOUR: 'it returns false'. Refute it at one input. -/
def blockBackWrong : ChangeSpec := { name := "blockBack", fn := fun _ => fun
  | [d1, d2, d3] => { results := [.lit (.bool false)], args := [d1, d2, d3] }
  | _ => none }
def BlockBackWrongFalsely : Prop := blockBackRow.holds Try.pinned (OpenSpec.ofChange blockBackWrong)

/-- 'radiolinklaw24.BlockGrows': WHATEVER THE INPUT: true; the input reads as it did. -/
def blockGrowsSpec : ChangeSpec := { name := "blockGrows", fn := fun _ => fun
  | [d1, d2] => { results := [.lit (.bool true)], args := [d1, d2] }
  | _ => none }
def blockGrowsRow : OpenClaim := { program := "ytjmjdjpbgjjhmaa", sum := "92cd851cc5ba02a789f7db0645618ce31650f759ff3f0752b4c538968e5a7e25", func := "radiolink/radiolinklaw24.BlockGrows", spec := "blockGrows", apart := false }
def BlockGrowsSaid : Prop := blockGrowsRow.holds Try.pinned (OpenSpec.ofChange blockGrowsSpec)

/-- ITS FALSE NEIGHBOUR: 'it returns false'. Refute it at one input. -/
def blockGrowsWrong : ChangeSpec := { name := "blockGrows", fn := fun _ => fun
  | [d1, d2] => { results := [.lit (.bool false)], args := [d1, d2] }
  | _ => none }
def BlockGrowsWrongFalsely : Prop := blockGrowsRow.holds Try.pinned (OpenSpec.ofChange blockGrowsWrong)

/-- 'radiolinklaw24.BlockJoins': WHATEVER THE INPUT: true; the input reads as it did. -/
def blockJoinsSpec : ChangeSpec := { name := "blockJoins", fn := fun _ => fun
  | [d1, d2] => { results := [.lit (.bool true)], args := [d1, d2] }
  | _ => none }
def blockJoinsRow : OpenClaim := { program := "ytjmjdjpbgjjhmaa", sum := "92cd851cc5ba02a789f7db0645618ce31650f759ff3f0752b4c538968e5a7e25", func := "radiolink/radiolinklaw24.BlockJoins", spec := "blockJoins", apart := false }
def BlockJoinsSaid : Prop := blockJoinsRow.holds Try.pinned (OpenSpec.ofChange blockJoinsSpec)

/-- ITS FALSE NEIGHBOUR: 'it returns false'. Refute it at one input. -/
def blockJoinsWrong : ChangeSpec := { name := "blockJoins", fn := fun _ => fun
  | [d1, d2] => { results := [.lit (.bool false)], args := [d1, d2] }
  | _ => none }
def BlockJoinsWrongFalsely : Prop := blockJoinsRow.holds Try.pinned (OpenSpec.ofChange blockJoinsWrong)

/- THE SECOND FORM. 'bulk': how many values and letters a reading holds, each counted each time it is reached (what is shared counts as often as it is met; a slice's spare places count too). A statement '..UptoSaid' is the law's where the arguments, and the package variables that the reading takes, are together of bulk at most 1048576: NARROWER than '..Said'. Prove '..Said' where nothing that the law and all that it calls make is longer than what came in: it says more and counts as full. Else prove '..UptoSaid'. A law counts once. -/
mutual
def uptoBulk {H : Type} : DataW H → Nat
  | .lit (.string bytes) => bytes.length + 1
  | .lit _ => 1
  | .nil => 1
  | .ptr d => uptoBulk d + 1
  | .slice elems spare => uptoBulkAll elems + uptoBulkAll spare + 1
  | .agg parts => uptoBulkAll parts + 1
  | .iface _ d => uptoBulk d + 1
  | .map entries => uptoBulkEntries entries + 1
  | .held _ => 1
def uptoBulkAll {H : Type} : List (DataW H) → Nat
  | [] => 0
  | d :: r => uptoBulk d + uptoBulkAll r
def uptoBulkEntries {H : Type} : List (Lit × DataW H) → Nat
  | [] => 0
  | x :: r => uptoBulkEntry x + uptoBulkEntries r
def uptoBulkEntry {H : Type} : Lit × DataW H → Nat
  | (.string bytes, d) => bytes.length + uptoBulk d + 1
  | (_, d) => uptoBulk d + 1
 end
def uptoSmall : (H : Type) → List (DataW H) → Bool := fun _ ds => decide (uptoBulkAll ds ≤ 1048576)
def OpenSpec.upto (s : _root_.Go.ChangeSpec) : _root_.Go.OpenSpec := { _root_.Go.OpenSpec.ofChange s with cond := some uptoSmall }

/-- 'radiolinklaw24.BlockRaw', WHERE WHAT IT READS IS OF BULK AT MOST 1048576: true; the input reads as it did. -/
def blockRawUptoRow : OpenClaim := { program := "ytjmjdjpbgjjhmaa", sum := "92cd851cc5ba02a789f7db0645618ce31650f759ff3f0752b4c538968e5a7e25", func := "radiolink/radiolinklaw24.BlockRaw", spec := "blockRaw", apart := false, narrowed := true }
def BlockRawUptoSaid : Prop := blockRawUptoRow.holds Try.pinned (OpenSpec.upto blockRawSpec)

/-- 'radiolinklaw24.BlockMade', WHERE WHAT IT READS IS OF BULK AT MOST 1048576: true; the input reads as it did. -/
def blockMadeUptoRow : OpenClaim := { program := "ytjmjdjpbgjjhmaa", sum := "92cd851cc5ba02a789f7db0645618ce31650f759ff3f0752b4c538968e5a7e25", func := "radiolink/radiolinklaw24.BlockMade", spec := "blockMade", apart := false, narrowed := true }
def BlockMadeUptoSaid : Prop := blockMadeUptoRow.holds Try.pinned (OpenSpec.upto blockMadeSpec)

/-- 'radiolinklaw24.BlockBack', WHERE WHAT IT READS IS OF BULK AT MOST 1048576: true; the input reads as it did. -/
def blockBackUptoRow : OpenClaim := { program := "ytjmjdjpbgjjhmaa", sum := "92cd851cc5ba02a789f7db0645618ce31650f759ff3f0752b4c538968e5a7e25", func := "radiolink/radiolinklaw24.BlockBack", spec := "blockBack", apart := false, narrowed := true }
def BlockBackUptoSaid : Prop := blockBackUptoRow.holds Try.pinned (OpenSpec.upto blockBackSpec)

/-- 'radiolinklaw24.BlockGrows', WHERE WHAT IT READS IS OF BULK AT MOST 1048576: true; the input reads as it did. -/
def blockGrowsUptoRow : OpenClaim := { program := "ytjmjdjpbgjjhmaa", sum := "92cd851cc5ba02a789f7db0645618ce31650f759ff3f0752b4c538968e5a7e25", func := "radiolink/radiolinklaw24.BlockGrows", spec := "blockGrows", apart := false, narrowed := true }
def BlockGrowsUptoSaid : Prop := blockGrowsUptoRow.holds Try.pinned (OpenSpec.upto blockGrowsSpec)

/-- 'radiolinklaw24.BlockJoins', WHERE WHAT IT READS IS OF BULK AT MOST 1048576: true; the input reads as it did. -/
def blockJoinsUptoRow : OpenClaim := { program := "ytjmjdjpbgjjhmaa", sum := "92cd851cc5ba02a789f7db0645618ce31650f759ff3f0752b4c538968e5a7e25", func := "radiolink/radiolinklaw24.BlockJoins", spec := "blockJoins", apart := false, narrowed := true }
def BlockJoinsUptoSaid : Prop := blockJoinsUptoRow.holds Try.pinned (OpenSpec.upto blockJoinsSpec)

end Rows
end Go.Proofs.Ytjmjdjpbgjjhmaa
