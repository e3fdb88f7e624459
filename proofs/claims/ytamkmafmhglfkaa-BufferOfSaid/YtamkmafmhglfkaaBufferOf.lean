/- The law BufferOf: called with any arguments, the function returns true, each argument reads behind the call as it read before, and nothing else that was in memory has turned. No condition. -/
import Derived.Test.YtamkmafmhglfkaaW26c
import Derived.Test.YtamkmafmhglfkaaLift
import Derived.OpenShut
namespace Go.Proofs.Ytamkmafmhglfkaa
open Go.Sx Go.RowKit Go.ChangeShapes Go.WideShapes Go.ChangeAt
theorem bufferOf_call {H : Type} {enc : TypeId × Value → H} (W : World) (base : Nat) (args : Array Value) (ds : List (DataW H)) (ps : List MemPlace) (h : LawArgs enc Try.prog Try.f4 W base args ds ps) :
    Calls Try.prog 4 args W fun e W' => e = .returned (.bool true) ∧ Below W.heap.size W W' := by
  obtain ⟨hval, hA, hreach⟩ := h
  rw [Try.params4] at hA hval hreach
  obtain ⟨v0, vs0, d0, ds0, p0, q0, hargs, rfl, rfl, h0, r0⟩ := trodAll_cons hA
  obtain ⟨v1, vs1, d1, ds1, p1, q1, rfl, rfl, rfl, h1, r1⟩ := trodAll_cons r0
  obtain ⟨rfl, rfl, rfl⟩ := trodAll_nil r1
  obtain rfl : args = #[v0, v1] := by cases args; simp_all
  obtain ⟨a0, c0, xs, rfl, hx, hwx, hmx, _⟩ := open_sl Try.underlying26 Try.underlying30 (by kernel_rfl) (hval 0 26 v0 rfl rfl) h0
  obtain ⟨a1, c1, ys, rfl, hy, hwy, hmy, _⟩ := open_sl Try.underlying27 Try.underlying5 (by kernel_rfl) (hval 1 27 v1 rfl rfl) h1
  unfold maxLen at hmx hmy
  exact law_of hx hy (fun i h => bounds_u16 (hwx i h)) (fun i h => bounds_u8 (hwy i h)) (by omega) (by omega)

set_option maxRecDepth 100000 in
theorem bufferOf_lifted (os : Os) (started : os.Started) (H : Type) (enc : TypeId × Value → H) :
    ReturnsInHanded {} Try.checked os 4 .any (Rows.bufferOfSpec.pre6 enc Try.prog Try.f4 Rows.bufferOfRow.domain false) (Rows.bufferOfSpec.post enc Try.prog Try.f4 false true false false) :=
  law_lift (C := Try.checked) (s := Rows.bufferOfSpec) (T := 4) (by kernel_rfl) started (by kernel_rfl) Try.func4
    (ChangeSpec.witness6 (enc := enc) (C := Try.checked) false ⟨#[], #[.slice none 0 0, .slice none 0 0], []⟩ 8 (by kernel_rfl) (by kernel_rfl) (by kernel_rfl) (by kernel_rfl))
    (by kernel_rfl) (by kernel_rfl) rfl rfl Try.underlying4
    (fun ds hd => by
      rw [Try.params4] at hd
      match ds, hd with
      | [_, _], _ => exact ⟨rfl, rfl, rfl⟩)
    (fun W base args ds ps h => bufferOf_call W base args ds ps h)

theorem bufferOf_holds : Rows.BufferOfSaid :=
  OpenClaim.holds_of_wide 4 Try.f4 rfl rfl rfl rfl rfl rfl rfl ⟨rfl, rfl, rfl, rfl, rfl⟩ rfl rfl rfl rfl rfl (by kernel_rfl) Try.func4 (by kernel_rfl)
    (of_decide_eq_true (by kernel_rfl)) (by unfold Func.isWrapper; rw [if_neg (by decide +kernel)]; exact ⟨rfl, rfl⟩)
    (fun os started H enc _ => bufferOf_lifted os started H enc)
#print axioms bufferOf_holds
end Go.Proofs.Ytamkmafmhglfkaa
