/- The law AmlinkMade: called with any arguments, the function returns true, each argument reads behind the call as it read before, and nothing else that was in memory has turned. No condition. -/
import Derived.Test.YtmbppohkadmjgaaGreatM22c
import Derived.Test.YtmbppohkadmjgaaGreatLift
import Derived.Test.YtmbppohkadmjgaaGreatOp
import Derived.OpenShut
namespace Go.Proofs.YtmbppohkadmjgaaGreat
open Go.Sx Go.RowKit Go.ChangeShapes Go.WideShapes Go.ChangeAt
set_option maxRecDepth 100000 in
theorem amlinkMade_call {H : Type} {enc : TypeId × Value → H} (W : World) (base : Nat) (args : Array Value) (ds : List (DataW H)) (ps : List MemPlace) (h : LawArgs enc Tryz.prog Tryz.f6 W base args ds ps) :
    Calls Tryz.prog 6 args W fun e W' => e = .returned (.bool true) ∧ Below W.heap.size W W' := by
  obtain ⟨hval, hA, hreach⟩ := h
  rw [Tryz.params6] at hA hval hreach
  obtain ⟨v0, vs0, d0, ds0, p0, q0, hargs, rfl, rfl, h0, r0⟩ := trodAll_cons hA
  obtain ⟨rfl, rfl, rfl⟩ := trodAll_nil r0
  obtain rfl : args = #[v0] := by cases args; simp_all
  obtain ⟨ta, tc, ts, rfl, _, ht, _, _⟩ := open_slc Tryz.underlying22 Tryz.underlying3 (by kernel_rfl) (hval 0 22 v0 rfl rfl) h0
  exact law22_AmlinkMade_ct ht

set_option maxRecDepth 100000 in
theorem amlinkMade_lifted (os : Os) (started : os.Started) (H : Type) (enc : TypeId × Value → H) :
    ReturnsInHanded {} Tryz.checked os 6 .any (Rows.amlinkMadeSpec.pre6 enc Tryz.prog Tryz.f6 Rows.amlinkMadeRow.domain false) (Rows.amlinkMadeSpec.post enc Tryz.prog Tryz.f6 false true false false) :=
  law_lift (C := Tryz.checked) (s := Rows.amlinkMadeSpec) (T := 4) (by kernel_rfl) started (by kernel_rfl) Tryz.func6
    (ChangeSpec.witness6 (enc := enc) (C := Tryz.checked) false ⟨#[], #[.slice none 0 0], []⟩ 8 (by kernel_rfl) (by kernel_rfl) (by kernel_rfl) (by kernel_rfl))
    (by kernel_rfl) (by kernel_rfl) rfl rfl Tryz.underlying4
    (fun ds hd => by
      rw [Tryz.params6] at hd
      match ds, hd with
      | [_], _ => exact ⟨rfl, rfl, rfl⟩)
    (fun W base args ds ps h => amlinkMade_call W base args ds ps h)

theorem amlinkMade_holds : Rows.AmlinkMadeSaid :=
  OpenClaim.holds_of_wide 6 Tryz.f6 rfl rfl rfl rfl rfl rfl rfl ⟨rfl, rfl, rfl, rfl, rfl⟩ rfl rfl rfl rfl rfl (by kernel_rfl) Tryz.func6 (by kernel_rfl)
    (of_decide_eq_true (by kernel_rfl)) (by unfold Func.isWrapper; rw [if_neg (by decide +kernel)]; exact ⟨rfl, rfl⟩)
    (fun os started H enc _ => amlinkMade_lifted os started H enc)
#print axioms amlinkMade_holds
end Go.Proofs.YtmbppohkadmjgaaGreat
