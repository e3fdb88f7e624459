/- The law UnackLosses: called with any arguments, the function returns true, each argument reads behind the call as it read before, and nothing else that was in memory has turned. No condition. -/
import Derived.Test.YtlgolgpellbnbaaM23
import Derived.Test.YtlgolgpellbnbaaLift
import Derived.Test.YtlgolgpellbnbaaOp
import Derived.OpenShut
namespace Go.Proofs.Ytlgolgpellbnbaa
open Go.Sx Go.RowKit Go.ChangeShapes Go.WideShapes Go.ChangeAt
set_option maxRecDepth 100000 in
theorem unackLosses_call {H : Type} {enc : TypeId × Value → H} (W : World) (base : Nat) (args : Array Value) (ds : List (DataW H)) (ps : List MemPlace) (h : LawArgs enc Try.prog Try.f5 W base args ds ps) :
    Calls Try.prog 5 args W fun e W' => e = .returned (.bool true) ∧ Below W.heap.size W W' := by
  obtain ⟨hval, hA, hreach⟩ := h
  rw [Try.params5] at hA hval hreach
  obtain ⟨v0, vs0, d0, ds0, p0, q0, hargs, rfl, rfl, h0, r0⟩ := trodAll_cons hA
  obtain ⟨v1, vs1, d1, ds1, p1, q1, rfl, rfl, rfl, h1, r1⟩ := trodAll_cons r0
  obtain ⟨rfl, rfl, rfl⟩ := trodAll_nil r1
  obtain rfl : args = #[v0, v1] := by cases args; simp_all
  obtain ⟨oa, ol, oc, rfl, _, _, ho⟩ := open_shapeS 1 .bool Try.underlying49 (by kernel_rfl) (hval 0 49 v0 rfl rfl) h0
  obtain ⟨os, rfl, hos⟩ := bools_of ho
  obtain ⟨la, lc, ls, rfl, _, hl, hwl, _⟩ := open_slc Try.underlying25 Try.underlying5 (by kernel_rfl) (hval 1 25 v1 rfl rfl) h1
  exact law23_UnackLosses_ct hos hl (fun i hi => by have := bounds_u8 (hwl i hi); omega)

set_option maxRecDepth 100000 in
theorem unackLosses_lifted (os : Os) (started : os.Started) (H : Type) (enc : TypeId × Value → H) :
    ReturnsInHanded {} Try.checked os 5 .any (Rows.unackLossesSpec.pre6 enc Try.prog Try.f5 Rows.unackLossesRow.domain false) (Rows.unackLossesSpec.post enc Try.prog Try.f5 false true false false) :=
  law_lift (C := Try.checked) (s := Rows.unackLossesSpec) (T := 4) (by kernel_rfl) started (by kernel_rfl) Try.func5
    (ChangeSpec.witness6 (enc := enc) (C := Try.checked) false ⟨#[], #[.slice none 0 0, .slice none 0 0], []⟩ 8 (by kernel_rfl) (by kernel_rfl) (by kernel_rfl) (by kernel_rfl))
    (by kernel_rfl) (by kernel_rfl) rfl rfl Try.underlying4
    (fun ds hd => by
      rw [Try.params5] at hd
      match ds, hd with
      | [_, _], _ => exact ⟨rfl, rfl, rfl⟩)
    (fun W base args ds ps h => unackLosses_call W base args ds ps h)

theorem unackLosses_holds : Rows.UnackLossesSaid :=
  OpenClaim.holds_of_wide 5 Try.f5 rfl rfl rfl rfl rfl rfl rfl ⟨rfl, rfl, rfl, rfl, rfl⟩ rfl rfl rfl rfl rfl (by kernel_rfl) Try.func5 (by kernel_rfl)
    (of_decide_eq_true (by kernel_rfl)) (by unfold Func.isWrapper; rw [if_neg (by decide +kernel)]; exact ⟨rfl, rfl⟩)
    (fun os started H enc _ => unackLosses_lifted os started H enc)
#print axioms unackLosses_holds
end Go.Proofs.Ytlgolgpellbnbaa
