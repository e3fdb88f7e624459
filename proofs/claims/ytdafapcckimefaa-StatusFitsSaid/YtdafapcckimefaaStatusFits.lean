/- The law StatusFits: called with any arguments, the function returns true, each argument reads behind the call as it read before, and nothing else that was in memory has turned. No condition. -/
import Derived.Test.YtdafapcckimefaaW19k
import Derived.Test.YtdafapcckimefaaLift
import Derived.Test.YtdafapcckimefaaOp
import Derived.OpenShut
namespace Go.Proofs.Ytdafapcckimefaa
open Go.Sx Go.RowKit Go.ChangeShapes Go.WideShapes Go.ChangeAt
theorem statusFits_call {H : Type} {enc : TypeId × Value → H} (W : World) (base : Nat) (args : Array Value) (ds : List (DataW H)) (ps : List MemPlace) (h : LawArgs enc Try.prog Try.f6 W base args ds ps) :
    Calls Try.prog 6 args W fun e W' => e = .returned (.bool true) ∧ Below W.heap.size W W' := by
  obtain ⟨hval, hA, hreach⟩ := h
  rw [Try.params6] at hA hval hreach
  obtain ⟨v0, vs0, d0, ds0, p0, q0, hargs, rfl, rfl, h0, r0⟩ := trodAll_cons hA
  obtain ⟨v1, vs1, d1, ds1, p1, q1, rfl, rfl, rfl, h1, r1⟩ := trodAll_cons r0
  obtain ⟨rfl, rfl, rfl⟩ := trodAll_nil r1
  obtain rfl : args = #[v0, v1] := by cases args; simp_all
  obtain ⟨a0, c0, xs, rfl, hx, _, hm, _⟩ := open_sl Try.underlying38 Try.underlying3 (by kernel_rfl) (hval 0 38 v0 rfl rfl) h0
  obtain ⟨n1, rfl, rfl, rfl, x1⟩ := open_int Try.underlying3 (hval 1 3 v1 rfl rfl) h1
  exact law19_StatusFits_ct hx

set_option maxRecDepth 100000 in
theorem statusFits_lifted (os : Os) (started : os.Started) (H : Type) (enc : TypeId × Value → H) :
    ReturnsInHanded {} Try.checked os 6 .any (Rows.statusFitsSpec.pre6 enc Try.prog Try.f6 Rows.statusFitsRow.domain false) (Rows.statusFitsSpec.post enc Try.prog Try.f6 false true false false) :=
  law_lift (C := Try.checked) (s := Rows.statusFitsSpec) (T := 4) (by kernel_rfl) started (by kernel_rfl) Try.func6
    (ChangeSpec.witness6 (enc := enc) (C := Try.checked) false ⟨#[], #[.slice none 0 0, .int .i64 0], []⟩ 8 (by kernel_rfl) (by kernel_rfl) (by kernel_rfl) (by kernel_rfl))
    (by kernel_rfl) (by kernel_rfl) rfl rfl Try.underlying4
    (fun ds hd => by
      rw [Try.params6] at hd
      match ds, hd with
      | [_, _], _ => exact ⟨rfl, rfl, rfl⟩)
    (fun W base args ds ps h => statusFits_call W base args ds ps h)

theorem statusFits_holds : Rows.StatusFitsSaid :=
  OpenClaim.holds_of_wide 6 Try.f6 rfl rfl rfl rfl rfl rfl rfl ⟨rfl, rfl, rfl, rfl, rfl⟩ rfl rfl rfl rfl rfl (by kernel_rfl) Try.func6 (by kernel_rfl)
    (of_decide_eq_true (by kernel_rfl)) (by unfold Func.isWrapper; rw [if_neg (by decide +kernel)]; exact ⟨rfl, rfl⟩)
    (fun os started H enc _ => statusFits_lifted os started H enc)
#print axioms statusFits_holds
end Go.Proofs.Ytdafapcckimefaa
