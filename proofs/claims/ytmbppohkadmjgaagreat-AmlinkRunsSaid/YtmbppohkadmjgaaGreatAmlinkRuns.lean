/- The law AmlinkRuns: called with any arguments, the function returns true, each argument reads behind the call as it read before, and nothing else that was in memory has turned. No condition. -/
import Derived.Test.YtmbppohkadmjgaaGreatM22c
import Derived.Test.YtmbppohkadmjgaaGreatLift
import Derived.Test.YtmbppohkadmjgaaGreatOp
import Derived.OpenShut
namespace Go.Proofs.YtmbppohkadmjgaaGreat
open Go.Sx Go.RowKit Go.ChangeShapes Go.WideShapes Go.ChangeAt
set_option maxRecDepth 100000 in
theorem amlinkRuns_call {H : Type} {enc : TypeId × Value → H} (W : World) (base : Nat) (args : Array Value) (ds : List (DataW H)) (ps : List MemPlace) (h : LawArgs enc Tryz.prog Tryz.f5 W base args ds ps) :
    Calls Tryz.prog 5 args W fun e W' => e = .returned (.bool true) ∧ Below W.heap.size W W' := by
  obtain ⟨hval, hA, hreach⟩ := h
  rw [Tryz.params5] at hA hval hreach
  obtain ⟨v0, vs0, d0, ds0, p0, q0, hargs, rfl, rfl, h0, r0⟩ := trodAll_cons hA
  obtain ⟨v1, vs1, d1, ds1, p1, q1, rfl, rfl, rfl, h1, r1⟩ := trodAll_cons r0
  obtain ⟨v2, vs2, d2, ds2, p2, q2, rfl, rfl, rfl, h2, r2⟩ := trodAll_cons r1
  obtain ⟨rfl, rfl, rfl⟩ := trodAll_nil r2
  obtain rfl : args = #[v0, v1, v2] := by cases args; simp_all
  obtain ⟨cs, rfl, hR⟩ := open_shape shLk Tryz.underlying30 (by kernel_rfl) (hval 0 30 v0 rfl rfl) h0
  obtain ⟨l, rfl⟩ := lk_of hR
  obtain ⟨a1, l1, c1, rfl, huc, _, hx1⟩ := open_shapeS 1 (.sl 1 (.int .u8)) Tryz.underlying27 (by kernel_rfl) (hval 1 27 v1 rfl rfl) h1
  obtain ⟨U, rfl, hU, hUb⟩ := units_of hx1
  obtain ⟨a2, l2, c2, rfl, _, _, hx2⟩ := open_shapeS 2 shSp Tryz.underlying35 (by kernel_rfl) (hval 2 35 v2 rfl rfl) h2
  obtain ⟨ST, rfl, hST, hSa⟩ := steps_of hx2
  exact law22_AmlinkRuns_ct ⟨hU, hST⟩ huc hUb hSa

set_option maxRecDepth 100000 in
theorem amlinkRuns_lifted (os : Os) (started : os.Started) (H : Type) (enc : TypeId × Value → H) :
    ReturnsInHanded {} Tryz.checked os 5 .any (Rows.amlinkRunsSpec.pre6 enc Tryz.prog Tryz.f5 Rows.amlinkRunsRow.domain false) (Rows.amlinkRunsSpec.post enc Tryz.prog Tryz.f5 false true false false) :=
  law_lift (C := Tryz.checked) (s := Rows.amlinkRunsSpec) (T := 4) (by kernel_rfl) started (by kernel_rfl) Tryz.func5
    (ChangeSpec.witness6 (enc := enc) (C := Tryz.checked) false ⟨#[], #[.agg #[.int .i64 (0 : Int), .int .i64 (0 : Int), .int .i64 (0 : Int), .int .i64 (0 : Int), .int .i64 (0 : Int), .int .i64 (0 : Int)], .slice none 0 0, .slice none 0 0], []⟩ 8 (by kernel_rfl) (by kernel_rfl) (by kernel_rfl) (by kernel_rfl))
    (by kernel_rfl) (by kernel_rfl) rfl rfl Tryz.underlying4
    (fun ds hd => by
      rw [Tryz.params5] at hd
      match ds, hd with
      | [_, _, _], _ => exact ⟨rfl, rfl, rfl⟩)
    (fun W base args ds ps h => amlinkRuns_call W base args ds ps h)

theorem amlinkRuns_holds : Rows.AmlinkRunsSaid :=
  OpenClaim.holds_of_wide 5 Tryz.f5 rfl rfl rfl rfl rfl rfl rfl ⟨rfl, rfl, rfl, rfl, rfl⟩ rfl rfl rfl rfl rfl (by kernel_rfl) Tryz.func5 (by kernel_rfl)
    (of_decide_eq_true (by kernel_rfl)) (by unfold Func.isWrapper; rw [if_neg (by decide +kernel)]; exact ⟨rfl, rfl⟩)
    (fun os started H enc _ => amlinkRuns_lifted os started H enc)
#print axioms amlinkRuns_holds
end Go.Proofs.YtmbppohkadmjgaaGreat
