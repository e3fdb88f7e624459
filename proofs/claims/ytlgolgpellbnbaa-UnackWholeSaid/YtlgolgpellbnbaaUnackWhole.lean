/- The law UnackWhole: called with any arguments, the function returns true, each argument reads behind the call as it read before, and nothing else that was in memory has turned. No condition. -/
import Derived.Test.YtlgolgpellbnbaaM23
import Derived.Test.YtlgolgpellbnbaaLift
import Derived.Test.YtlgolgpellbnbaaOp
import Derived.OpenShut
namespace Go.Proofs.Ytlgolgpellbnbaa
open Go.Sx Go.RowKit Go.ChangeShapes Go.WideShapes Go.ChangeAt
set_option maxRecDepth 100000 in
theorem unackWhole_call {H : Type} {enc : TypeId × Value → H} (W : World) (base : Nat) (args : Array Value) (ds : List (DataW H)) (ps : List MemPlace) (h : LawArgs enc Try.prog Try.f4 W base args ds ps) :
    Calls Try.prog 4 args W fun e W' => e = .returned (.bool true) ∧ Below W.heap.size W W' := by
  obtain ⟨hval, hA, hreach⟩ := h
  rw [Try.params4] at hA hval hreach
  obtain ⟨v0, vs0, d0, ds0, p0, q0, hargs, rfl, rfl, h0, r0⟩ := trodAll_cons hA
  obtain ⟨v1, vs1, d1, ds1, p1, q1, rfl, rfl, rfl, h1, r1⟩ := trodAll_cons r0
  obtain ⟨v2, vs2, d2, ds2, p2, q2, rfl, rfl, rfl, h2, r2⟩ := trodAll_cons r1
  obtain ⟨rfl, rfl, rfl⟩ := trodAll_nil r2
  obtain rfl : args = #[v0, v1, v2] := by cases args; simp_all
  obtain ⟨sa, sc, ss, rfl, _, hs, hws, _⟩ := open_slc Try.underlying25 Try.underlying5 (by kernel_rfl) (hval 0 25 v0 rfl rfl) h0
  obtain ⟨la, lc, ls, rfl, _, hl, hwl, _⟩ := open_slc Try.underlying25 Try.underlying5 (by kernel_rfl) (hval 1 25 v1 rfl rfl) h1
  obtain ⟨bits, rfl, rfl, rfl, x2⟩ := open_int Try.underlying5 (hval 2 5 v2 rfl rfl) h2
  exact law23_UnackWhole_ct hs hl (fun i hi => by have := bounds_u8 (hws i hi); omega) (fun i hi => by have := bounds_u8 (hwl i hi); omega) (by have := bounds_u8 x2; omega)

set_option maxRecDepth 100000 in
theorem unackWhole_lifted (os : Os) (started : os.Started) (H : Type) (enc : TypeId × Value → H) :
    ReturnsInHanded {} Try.checked os 4 .any (Rows.unackWholeSpec.pre6 enc Try.prog Try.f4 Rows.unackWholeRow.domain false) (Rows.unackWholeSpec.post enc Try.prog Try.f4 false true false false) :=
  law_lift (C := Try.checked) (s := Rows.unackWholeSpec) (T := 4) (by kernel_rfl) started (by kernel_rfl) Try.func4
    (ChangeSpec.witness6 (enc := enc) (C := Try.checked) false ⟨#[], #[.slice none 0 0, .slice none 0 0, .int .u8 0], []⟩ 8 (by kernel_rfl) (by kernel_rfl) (by kernel_rfl) (by kernel_rfl))
    (by kernel_rfl) (by kernel_rfl) rfl rfl Try.underlying4
    (fun ds hd => by
      rw [Try.params4] at hd
      match ds, hd with
      | [_, _, _], _ => exact ⟨rfl, rfl, rfl⟩)
    (fun W base args ds ps h => unackWhole_call W base args ds ps h)

theorem unackWhole_holds : Rows.UnackWholeSaid :=
  OpenClaim.holds_of_wide 4 Try.f4 rfl rfl rfl rfl rfl rfl rfl ⟨rfl, rfl, rfl, rfl, rfl⟩ rfl rfl rfl rfl rfl (by kernel_rfl) Try.func4 (by kernel_rfl)
    (of_decide_eq_true (by kernel_rfl)) (by unfold Func.isWrapper; rw [if_neg (by decide +kernel)]; exact ⟨rfl, rfl⟩)
    (fun os started H enc _ => unackWhole_lifted os started H enc)
#print axioms unackWhole_holds
end Go.Proofs.Ytlgolgpellbnbaa
