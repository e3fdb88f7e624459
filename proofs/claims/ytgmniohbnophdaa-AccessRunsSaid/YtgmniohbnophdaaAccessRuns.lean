/- The law AccessRuns: called with any arguments, the function returns true, each argument reads behind the call as it read before, and nothing else that was in memory has turned. No condition. -/
import Derived.Test.YtgmniohbnophdaaW38o
import Derived.Test.YtgmniohbnophdaaLift
import Derived.OpenShut
namespace Go.Proofs.Ytgmniohbnophdaa
open Go.Sx Go.RowKit Go.ChangeShapes Go.WideShapes Go.ChangeAt
set_option maxRecDepth 100000 in
theorem accessRuns_call {H : Type} {enc : TypeId × Value → H} (W : World) (base : Nat) (args : Array Value) (ds : List (DataW H)) (ps : List MemPlace) (h : LawArgs enc Try.prog Try.f7 W base args ds ps) :
    Calls Try.prog 7 args W fun e W' => e = .returned (.bool true) ∧ Below W.heap.size W W' := by
  obtain ⟨hval, hA, hreach⟩ := h
  rw [Try.params7] at hA hval hreach
  obtain ⟨v0, vs0, d0, ds0, p0, q0, hargs, rfl, rfl, h0, r0⟩ := trodAll_cons hA
  obtain ⟨rfl, rfl, rfl⟩ := trodAll_nil r0
  obtain rfl : args = #[v0] := by cases args; simp_all
  obtain ⟨a0, c0, xs, rfl, hx, _, _, _⟩ := open_sl Try.underlying33 Try.underlying3 (by kernel_rfl) (hval 0 33 v0 rfl rfl) h0
  exact law38_AccessRuns_ct hx

set_option maxRecDepth 100000 in
theorem accessRuns_lifted (os : Os) (started : os.Started) (H : Type) (enc : TypeId × Value → H) :
    ReturnsInHanded {} Try.checked os 7 .any (Rows.accessRunsSpec.pre6 enc Try.prog Try.f7 Rows.accessRunsRow.domain false) (Rows.accessRunsSpec.post enc Try.prog Try.f7 false true false false) :=
  law_lift (C := Try.checked) (s := Rows.accessRunsSpec) (T := 4) (by kernel_rfl) started (by kernel_rfl) Try.func7
    (ChangeSpec.witness6 (enc := enc) (C := Try.checked) false ⟨#[], #[.slice none 0 0], []⟩ 8 (by kernel_rfl) (by kernel_rfl) (by kernel_rfl) (by kernel_rfl))
    (by kernel_rfl) (by kernel_rfl) rfl rfl Try.underlying4
    (fun ds hd => by
      rw [Try.params7] at hd
      match ds, hd with
      | [_], _ => exact ⟨rfl, rfl, rfl⟩)
    (fun W base args ds ps h => accessRuns_call W base args ds ps h)

theorem accessRuns_holds : Rows.AccessRunsSaid :=
  OpenClaim.holds_of_wide 7 Try.f7 rfl rfl rfl rfl rfl rfl rfl ⟨rfl, rfl, rfl, rfl, rfl⟩ rfl rfl rfl rfl rfl (by kernel_rfl) Try.func7 (by kernel_rfl)
    (of_decide_eq_true (by kernel_rfl)) (by unfold Func.isWrapper; rw [if_neg (by decide +kernel)]; exact ⟨rfl, rfl⟩)
    (fun os started H enc _ => accessRuns_lifted os started H enc)
#print axioms accessRuns_holds
end Go.Proofs.Ytgmniohbnophdaa
