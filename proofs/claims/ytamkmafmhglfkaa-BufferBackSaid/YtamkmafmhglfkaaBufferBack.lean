/- The law BufferBack: called with any arguments, the function returns true, each argument reads behind the call as it read before, and nothing else that was in memory has turned. No condition. -/
import Derived.Test.YtamkmafmhglfkaaW26i
import Derived.Test.YtamkmafmhglfkaaLift
import Derived.OpenShut
namespace Go.Proofs.Ytamkmafmhglfkaa
open Go.Sx Go.RowKit Go.ChangeShapes Go.WideShapes Go.ChangeAt
theorem bufferBack_call {H : Type} {enc : TypeId × Value → H} (W : World) (base : Nat) (args : Array Value) (ds : List (DataW H)) (ps : List MemPlace) (h : LawArgs enc Try.prog Try.f5 W base args ds ps) :
    Calls Try.prog 5 args W fun e W' => e = .returned (.bool true) ∧ Below W.heap.size W W' := by
  obtain ⟨hval, hA, hreach⟩ := h
  rw [Try.params5] at hA hval hreach
  obtain ⟨v0, vs0, d0, ds0, p0, q0, hargs, rfl, rfl, h0, r0⟩ := trodAll_cons hA
  obtain ⟨rfl, rfl, rfl⟩ := trodAll_nil r0
  obtain rfl : args = #[v0] := by cases args; simp_all
  obtain ⟨xs, rfl, hl, hw⟩ := open_arrI Try.underlying38 Try.underlying5 (by kernel_rfl) (by kernel_rfl) (hval 0 38 v0 rfl rfl) h0
  obtain ⟨u0, u1, u2, u3, rfl⟩ := len4 hl
  have g0 := bounds_u8 (hw 0 (by simp)); have g1 := bounds_u8 (hw 1 (by simp)); have g2 := bounds_u8 (hw 2 (by simp)); have g3 := bounds_u8 (hw 3 (by simp))
  exact law_back g0 g1 g2 g3

set_option maxRecDepth 100000 in
theorem bufferBack_lifted (os : Os) (started : os.Started) (H : Type) (enc : TypeId × Value → H) :
    ReturnsInHanded {} Try.checked os 5 .any (Rows.bufferBackSpec.pre6 enc Try.prog Try.f5 Rows.bufferBackRow.domain false) (Rows.bufferBackSpec.post enc Try.prog Try.f5 false true false false) :=
  law_lift (C := Try.checked) (s := Rows.bufferBackSpec) (T := 4) (by kernel_rfl) started (by kernel_rfl) Try.func5
    (ChangeSpec.witness6 (enc := enc) (C := Try.checked) false ⟨#[], #[.agg #[.int .u8 (0 : Int), .int .u8 (0 : Int), .int .u8 (0 : Int), .int .u8 (0 : Int)]], []⟩ 8 (by kernel_rfl) (by kernel_rfl) (by kernel_rfl) (by kernel_rfl))
    (by kernel_rfl) (by kernel_rfl) rfl rfl Try.underlying4
    (fun ds hd => by
      rw [Try.params5] at hd
      match ds, hd with
      | [_], _ => exact ⟨rfl, rfl, rfl⟩)
    (fun W base args ds ps h => bufferBack_call W base args ds ps h)

theorem bufferBack_holds : Rows.BufferBackSaid :=
  OpenClaim.holds_of_wide 5 Try.f5 rfl rfl rfl rfl rfl rfl rfl ⟨rfl, rfl, rfl, rfl, rfl⟩ rfl rfl rfl rfl rfl (by kernel_rfl) Try.func5 (by kernel_rfl)
    (of_decide_eq_true (by kernel_rfl)) (by unfold Func.isWrapper; rw [if_neg (by decide +kernel)]; exact ⟨rfl, rfl⟩)
    (fun os started H enc _ => bufferBack_lifted os started H enc)
#print axioms bufferBack_holds
end Go.Proofs.Ytamkmafmhglfkaa
