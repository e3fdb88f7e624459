/- The law BitsPacks: called with any arguments, the function returns true, each argument reads behind the call as it read before, and nothing else that was in memory has turned. No condition. -/
import Derived.Test.YteoogdpjidbapaaW01d
import Derived.Test.YteoogdpjidbapaaLift
import Derived.OpenShut
namespace Go.Proofs.Yteoogdpjidbapaa
open Go.Sx Go.RowKit Go.ChangeShapes Go.WideShapes Go.ChangeAt
theorem bitsPacks_call {H : Type} {enc : TypeId × Value → H} (W : World) (base : Nat) (args : Array Value) (ds : List (DataW H)) (ps : List MemPlace) (h : LawArgs enc Try.prog Try.f6 W base args ds ps) :
    Calls Try.prog 6 args W fun e W' => e = .returned (.bool true) ∧ Below W.heap.size W W' := by
  obtain ⟨hval, hA, hreach⟩ := h
  rw [Try.params6] at hA hval hreach
  obtain ⟨v0, vs0, d0, ds0, p0, q0, hargs, rfl, rfl, h0, r0⟩ := trodAll_cons hA
  obtain ⟨v1, vs1, d1, ds1, p1, q1, rfl, rfl, rfl, h1, r1⟩ := trodAll_cons r0
  obtain ⟨v2, vs2, d2, ds2, p2, q2, rfl, rfl, rfl, h2, r2⟩ := trodAll_cons r1
  obtain ⟨rfl, rfl, rfl⟩ := trodAll_nil r2
  obtain rfl : args = #[v0, v1, v2] := by cases args; simp_all
  obtain ⟨a0, c0, ws, rfl, hw, hww, hmw, _⟩ := open_sl Try.underlying36 Try.underlying3 (by kernel_rfl) (hval 0 36 v0 rfl rfl) h0
  obtain ⟨a1, c1, vs, rfl, hv, hwv, hmv, _⟩ := open_sl Try.underlying36 Try.underlying3 (by kernel_rfl) (hval 1 36 v1 rfl rfl) h1
  obtain ⟨a2, c2, xs, rfl, hx, hwx, hmx, hd⟩ := open_sl Try.underlying22 Try.underlying5 (by kernel_rfl) (hval 2 22 v2 rfl rfl) h2
  have hr := sl_reach (j := 2) (t := 22) (e := 5) (n := 1) (f := fun n => .lit (.int .u8 n)) hreach rfl rfl Try.underlying22 hd (by kernel_rfl)
  unfold maxLen at hmw
  exact law_packs hw hv hx (fun i h => by have := bounds_u8 (hwx i h); omega) (by omega) (by omega)

set_option maxRecDepth 100000 in
theorem bitsPacks_lifted (os : Os) (started : os.Started) (H : Type) (enc : TypeId × Value → H) :
    ReturnsInHanded {} Try.checked os 6 .any (Rows.bitsPacksSpec.pre6 enc Try.prog Try.f6 Rows.bitsPacksRow.domain false) (Rows.bitsPacksSpec.post enc Try.prog Try.f6 false true false false) :=
  law_lift (C := Try.checked) (s := Rows.bitsPacksSpec) (T := 4) (by kernel_rfl) started (by kernel_rfl) Try.func6
    (ChangeSpec.witness6 (enc := enc) (C := Try.checked) false ⟨#[], #[.slice none 0 0, .slice none 0 0, .slice none 0 0], []⟩ 8 (by kernel_rfl) (by kernel_rfl) (by kernel_rfl) (by kernel_rfl))
    (by kernel_rfl) (by kernel_rfl) rfl rfl Try.underlying4
    (fun ds hd => by
      rw [Try.params6] at hd
      match ds, hd with
      | [_, _, _], _ => exact ⟨rfl, rfl, rfl⟩)
    (fun W base args ds ps h => bitsPacks_call W base args ds ps h)

theorem bitsPacks_holds : Rows.BitsPacksSaid :=
  OpenClaim.holds_of_wide 6 Try.f6 rfl rfl rfl rfl rfl rfl rfl ⟨rfl, rfl, rfl, rfl, rfl⟩ rfl rfl rfl rfl rfl (by kernel_rfl) Try.func6 (by kernel_rfl)
    (of_decide_eq_true (by kernel_rfl)) (by unfold Func.isWrapper; rw [if_neg (by decide +kernel)]; exact ⟨rfl, rfl⟩)
    (fun os started H enc _ => bitsPacks_lifted os started H enc)
#print axioms bitsPacks_holds
end Go.Proofs.Yteoogdpjidbapaa
