/- The law BufferLevels: called with any arguments, the function returns true, each argument reads behind the call as it read before, and nothing else that was in memory has turned. No condition. -/
import Derived.Test.YtamkmafmhglfkaaW26a
import Derived.Test.YtamkmafmhglfkaaLift
import Derived.OpenShut
namespace Go.Proofs.Ytamkmafmhglfkaa
open Go.Sx Go.RowKit Go.ChangeShapes Go.WideShapes Go.ChangeAt
theorem bufferLevels_call {H : Type} {enc : TypeId × Value → H} (W : World) (base : Nat) (args : Array Value) (ds : List (DataW H)) (ps : List MemPlace) (h : LawArgs enc Try.prog Try.f3 W base args ds ps) :
    Calls Try.prog 3 args W fun e W' => e = .returned (.bool true) ∧ Below W.heap.size W W' := by
  obtain ⟨hval, hA, hreach⟩ := h
  rw [Try.params3] at hA hval hreach
  obtain ⟨v0, vs0, d0, ds0, p0, q0, hargs, rfl, rfl, h0, r0⟩ := trodAll_cons hA
  obtain ⟨v1, vs1, d1, ds1, p1, q1, rfl, rfl, rfl, h1, r1⟩ := trodAll_cons r0
  obtain ⟨rfl, rfl, rfl⟩ := trodAll_nil r1
  obtain rfl : args = #[v0, v1] := by cases args; simp_all
  obtain ⟨a0, rfl, rfl, rfl, x0⟩ := open_int Try.underlying22 (hval 0 22 v0 rfl rfl) h0
  obtain ⟨a1, rfl, rfl, rfl, x1⟩ := open_int Try.underlying22 (hval 1 22 v1 rfl rfl) h1
  exact law_levels a0 a1 (bounds_u32 x0) (bounds_u32 x1) W

set_option maxRecDepth 100000 in
theorem bufferLevels_lifted (os : Os) (started : os.Started) (H : Type) (enc : TypeId × Value → H) :
    ReturnsInHanded {} Try.checked os 3 .any (Rows.bufferLevelsSpec.pre6 enc Try.prog Try.f3 Rows.bufferLevelsRow.domain false) (Rows.bufferLevelsSpec.post enc Try.prog Try.f3 false true false false) :=
  law_lift (C := Try.checked) (s := Rows.bufferLevelsSpec) (T := 4) (by kernel_rfl) started (by kernel_rfl) Try.func3
    (ChangeSpec.witness6 (enc := enc) (C := Try.checked) false ⟨#[], #[.int .u32 0, .int .u32 0], []⟩ 8 (by kernel_rfl) (by kernel_rfl) (by kernel_rfl) (by kernel_rfl))
    (by kernel_rfl) (by kernel_rfl) rfl rfl Try.underlying4
    (fun ds hd => by
      rw [Try.params3] at hd
      match ds, hd with
      | [_, _], _ => exact ⟨rfl, rfl, rfl⟩)
    (fun W base args ds ps h => bufferLevels_call W base args ds ps h)

theorem bufferLevels_holds : Rows.BufferLevelsSaid :=
  OpenClaim.holds_of_wide 3 Try.f3 rfl rfl rfl rfl rfl rfl rfl ⟨rfl, rfl, rfl, rfl, rfl⟩ rfl rfl rfl rfl rfl (by kernel_rfl) Try.func3 (by kernel_rfl)
    (of_decide_eq_true (by kernel_rfl)) (by unfold Func.isWrapper; rw [if_neg (by decide +kernel)]; exact ⟨rfl, rfl⟩)
    (fun os started H enc _ => bufferLevels_lifted os started H enc)
#print axioms bufferLevels_holds
end Go.Proofs.Ytamkmafmhglfkaa
