/- The law SegmentRanges: called with any arguments, the function returns true, each argument reads behind the call as it read before, and nothing else that was in memory has turned. No condition. -/
import Derived.Test.YtelkdacpehdllaaW18u
import Derived.Test.YtelkdacpehdllaaW18t
import Derived.Test.YtelkdacpehdllaaLift
import Derived.Test.YtelkdacpehdllaaOp
import Derived.OpenShut
namespace Go.Proofs.Ytelkdacpehdllaa
open Go.Sx Go.RowKit Go.ChangeShapes Go.WideShapes Go.ChangeAt
theorem segmentRanges_call {H : Type} {enc : TypeId × Value → H} (W : World) (base : Nat) (args : Array Value) (ds : List (DataW H)) (ps : List MemPlace) (h : LawArgs enc Try.prog Try.f7 W base args ds ps) :
    Calls Try.prog 7 args W fun e W' => e = .returned (.bool true) ∧ Below W.heap.size W W' := by
  obtain ⟨hval, hA, hreach⟩ := h
  rw [Try.params7] at hA hval hreach
  obtain ⟨v0, vs0, d0, ds0, p0, q0, hargs, rfl, rfl, h0, r0⟩ := trodAll_cons hA
  obtain ⟨v1, vs1, d1, ds1, p1, q1, rfl, rfl, rfl, h1, r1⟩ := trodAll_cons r0
  obtain ⟨v2, vs2, d2, ds2, p2, q2, rfl, rfl, rfl, h2, r2⟩ := trodAll_cons r1
  obtain ⟨rfl, rfl, rfl⟩ := trodAll_nil r2
  obtain rfl : args = #[v0, v1, v2] := by cases args; simp_all
  obtain ⟨a0, l0, c0, rfl, _, _, hx0⟩ := open_shapeS 3 shRange Try.underlying47 (by kernel_rfl) (hval 0 47 v0 rfl rfl) h0
  obtain ⟨L, rfl, hL, _⟩ := ranges_of hx0
  obtain ⟨cs, rfl, hR⟩ := open_shape shRange Try.underlying49 (by kernel_rfl) (hval 1 49 v1 rfl rfl) h1
  obtain ⟨r, hr, _⟩ := range_of hR
  obtain rfl : cs = (encR r).toArray := by rw [← hr]
  obtain ⟨a2, c2, xs, rfl, hx, _, hm, _⟩ := open_sl Try.underlying22 Try.underlying3 (by kernel_rfl) (hval 2 22 v2 rfl rfl) h2
  exact law18_SegmentRanges_ct hL hx

set_option maxRecDepth 100000 in
theorem segmentRanges_lifted (os : Os) (started : os.Started) (H : Type) (enc : TypeId × Value → H) :
    ReturnsInHanded {} Try.checked os 7 .any (Rows.segmentRangesSpec.pre6 enc Try.prog Try.f7 Rows.segmentRangesRow.domain false) (Rows.segmentRangesSpec.post enc Try.prog Try.f7 false true false false) :=
  law_lift (C := Try.checked) (s := Rows.segmentRangesSpec) (T := 4) (by kernel_rfl) started (by kernel_rfl) Try.func7
    (ChangeSpec.witness6 (enc := enc) (C := Try.checked) false ⟨#[], #[.slice none 0 0, .agg #[.int .i64 (0 : Int), .int .i64 (0 : Int), .int .i64 (0 : Int)], .slice none 0 0], []⟩ 8 (by kernel_rfl) (by kernel_rfl) (by kernel_rfl) (by kernel_rfl))
    (by kernel_rfl) (by kernel_rfl) rfl rfl Try.underlying4
    (fun ds hd => by
      rw [Try.params7] at hd
      match ds, hd with
      | [_, _, _], _ => exact ⟨rfl, rfl, rfl⟩)
    (fun W base args ds ps h => segmentRanges_call W base args ds ps h)

theorem segmentRanges_holds : Rows.SegmentRangesSaid :=
  OpenClaim.holds_of_wide 7 Try.f7 rfl rfl rfl rfl rfl rfl rfl ⟨rfl, rfl, rfl, rfl, rfl⟩ rfl rfl rfl rfl rfl (by kernel_rfl) Try.func7 (by kernel_rfl)
    (of_decide_eq_true (by kernel_rfl)) (by unfold Func.isWrapper; rw [if_neg (by decide +kernel)]; exact ⟨rfl, rfl⟩)
    (fun os started H enc _ => segmentRanges_lifted os started H enc)
#print axioms segmentRanges_holds
end Go.Proofs.Ytelkdacpehdllaa
