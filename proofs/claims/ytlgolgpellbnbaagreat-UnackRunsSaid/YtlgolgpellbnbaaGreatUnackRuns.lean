/- The law UnackRuns: called with any arguments, the function returns true, each argument reads behind the call as it read before, and nothing else that was in memory has turned. No condition. -/
import Derived.Test.YtlgolgpellbnbaaGreatM23b
import Derived.Test.YtlgolgpellbnbaaGreatLift
import Derived.Test.YtlgolgpellbnbaaGreatOp
import Derived.OpenShut
namespace Go.Proofs.YtlgolgpellbnbaaGreat
open Go.Sx Go.RowKit Go.ChangeShapes Go.WideShapes Go.ChangeAt
set_option maxRecDepth 100000 in
theorem unackRuns_call {H : Type} {enc : TypeId × Value → H} (W : World) (base : Nat) (args : Array Value) (ds : List (DataW H)) (ps : List MemPlace) (h : LawArgs enc Tryz.prog Tryz.f3 W base args ds ps) :
    Calls Tryz.prog 3 args W fun e W' => e = .returned (.bool true) ∧ Below W.heap.size W W' := by
  obtain ⟨hval, hA, hreach⟩ := h
  rw [Tryz.params3] at hA hval hreach
  obtain ⟨v0, vs0, d0, ds0, p0, q0, hargs, rfl, rfl, h0, r0⟩ := trodAll_cons hA
  obtain ⟨rfl, rfl, rfl⟩ := trodAll_nil r0
  obtain rfl : args = #[v0] := by cases args; simp_all
  obtain ⟨ta, tc, ts, rfl, _, ht, _, _⟩ := open_slc Tryz.underlying22 Tryz.underlying3 (by kernel_rfl) (hval 0 22 v0 rfl rfl) h0
  exact law23_UnackRuns_ct ht

set_option maxRecDepth 100000 in
theorem unackRuns_lifted (os : Os) (started : os.Started) (H : Type) (enc : TypeId × Value → H) :
    ReturnsInHanded {} Tryz.checked os 3 .any (Rows.unackRunsSpec.pre6 enc Tryz.prog Tryz.f3 Rows.unackRunsRow.domain false) (Rows.unackRunsSpec.post enc Tryz.prog Tryz.f3 false true false false) :=
  law_lift (C := Tryz.checked) (s := Rows.unackRunsSpec) (T := 4) (by kernel_rfl) started (by kernel_rfl) Tryz.func3
    (ChangeSpec.witness6 (enc := enc) (C := Tryz.checked) false ⟨#[], #[.slice none 0 0], []⟩ 8 (by kernel_rfl) (by kernel_rfl) (by kernel_rfl) (by kernel_rfl))
    (by kernel_rfl) (by kernel_rfl) rfl rfl Tryz.underlying4
    (fun ds hd => by
      rw [Tryz.params3] at hd
      match ds, hd with
      | [_], _ => exact ⟨rfl, rfl, rfl⟩)
    (fun W base args ds ps h => unackRuns_call W base args ds ps h)

theorem unackRuns_holds : Rows.UnackRunsSaid :=
  OpenClaim.holds_of_wide 3 Tryz.f3 rfl rfl rfl rfl rfl rfl rfl ⟨rfl, rfl, rfl, rfl, rfl⟩ rfl rfl rfl rfl rfl (by kernel_rfl) Tryz.func3 (by kernel_rfl)
    (of_decide_eq_true (by kernel_rfl)) (by unfold Func.isWrapper; rw [if_neg (by decide +kernel)]; exact ⟨rfl, rfl⟩)
    (fun os started H enc _ => unackRuns_lifted os started H enc)
#print axioms unackRuns_holds
end Go.Proofs.YtlgolgpellbnbaaGreat
