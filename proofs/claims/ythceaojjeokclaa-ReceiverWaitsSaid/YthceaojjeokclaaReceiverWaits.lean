/- The law ReceiverWaits: called with any arguments, the function returns true, each argument reads behind the call as it read before, and nothing else that was in memory has turned. No condition. -/
import Derived.Test.YthceaojjeokclaaM21c
import Derived.Test.YthceaojjeokclaaLift
import Derived.Test.YthceaojjeokclaaOp
import Derived.OpenShut
namespace Go.Proofs.Ythceaojjeokclaa
open Go.Sx Go.RowKit Go.ChangeShapes Go.WideShapes Go.ChangeAt
set_option maxRecDepth 100000 in
theorem receiverWaits_call {H : Type} {enc : TypeId × Value → H} (W : World) (base : Nat) (args : Array Value) (ds : List (DataW H)) (ps : List MemPlace) (h : LawArgs enc Try.prog Try.f4 W base args ds ps) :
    Calls Try.prog 4 args W fun e W' => e = .returned (.bool true) ∧ Below W.heap.size W W' := by
  obtain ⟨hval, hA, hreach⟩ := h
  rw [Try.params4] at hA hval hreach
  obtain ⟨v0, vs0, d0, ds0, p0, q0, hargs, rfl, rfl, h0, r0⟩ := trodAll_cons hA
  obtain ⟨v1, vs1, d1, ds1, p1, q1, rfl, rfl, rfl, h1, r1⟩ := trodAll_cons r0
  obtain ⟨rfl, rfl, rfl⟩ := trodAll_nil r1
  obtain rfl : args = #[v0, v1] := by cases args; simp_all
  obtain ⟨ta, tc, ts, rfl, _, ht, _, _⟩ := open_slc Try.underlying22 Try.underlying3 (by kernel_rfl) (hval 0 22 v0 rfl rfl) h0
  obtain ⟨again, rfl, rfl, rfl, _⟩ := open_int Try.underlying3 (hval 1 3 v1 rfl rfl) h1
  exact law21_ReceiverWaits_ct ht

set_option maxRecDepth 100000 in
theorem receiverWaits_lifted (os : Os) (started : os.Started) (H : Type) (enc : TypeId × Value → H) :
    ReturnsInHanded {} Try.checked os 4 .any (Rows.receiverWaitsSpec.pre6 enc Try.prog Try.f4 Rows.receiverWaitsRow.domain false) (Rows.receiverWaitsSpec.post enc Try.prog Try.f4 false true false false) :=
  law_lift (C := Try.checked) (s := Rows.receiverWaitsSpec) (T := 4) (by kernel_rfl) started (by kernel_rfl) Try.func4
    (ChangeSpec.witness6 (enc := enc) (C := Try.checked) false ⟨#[], #[.slice none 0 0, .int .i64 0], []⟩ 8 (by kernel_rfl) (by kernel_rfl) (by kernel_rfl) (by kernel_rfl))
    (by kernel_rfl) (by kernel_rfl) rfl rfl Try.underlying4
    (fun ds hd => by
      rw [Try.params4] at hd
      match ds, hd with
      | [_, _], _ => exact ⟨rfl, rfl, rfl⟩)
    (fun W base args ds ps h => receiverWaits_call W base args ds ps h)

theorem receiverWaits_holds : Rows.ReceiverWaitsSaid :=
  OpenClaim.holds_of_wide 4 Try.f4 rfl rfl rfl rfl rfl rfl rfl ⟨rfl, rfl, rfl, rfl, rfl⟩ rfl rfl rfl rfl rfl (by kernel_rfl) Try.func4 (by kernel_rfl)
    (of_decide_eq_true (by kernel_rfl)) (by unfold Func.isWrapper; rw [if_neg (by decide +kernel)]; exact ⟨rfl, rfl⟩)
    (fun os started H enc _ => receiverWaits_lifted os started H enc)
#print axioms receiverWaits_holds
end Go.Proofs.Ythceaojjeokclaa
