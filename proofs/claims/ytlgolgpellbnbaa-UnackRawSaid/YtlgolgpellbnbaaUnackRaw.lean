/- The law UnackRaw: called with any arguments, the function returns true, each argument reads behind the call as it read before, and nothing else that was in memory has turned. No condition. -/
import Derived.Test.YtlgolgpellbnbaaM23
import Derived.Test.YtlgolgpellbnbaaLift
import Derived.Test.YtlgolgpellbnbaaOpx
import Derived.OpenShut
namespace Go.Proofs.Ytlgolgpellbnbaa
open Go.Sx Go.RowKit Go.ChangeShapes Go.WideShapes Go.ChangeAt
set_option maxRecDepth 100000 in
theorem unackRaw_call {H : Type} {enc : TypeId × Value → H} (W : World) (base : Nat) (args : Array Value) (ds : List (DataW H)) (ps : List MemPlace) (h : LawArgs enc Try.prog Try.f3 W base args ds ps) :
    Calls Try.prog 3 args W fun e W' => e = .returned (.bool true) ∧ Below W.heap.size W W' := by
  obtain ⟨hval, hA, hreach⟩ := h
  rw [Try.params3] at hA hval hreach
  obtain ⟨v0, vs0, d0, ds0, p0, q0, hargs, rfl, rfl, h0, r0⟩ := trodAll_cons hA
  obtain ⟨v1, vs1, d1, ds1, p1, q1, rfl, rfl, rfl, h1, r1⟩ := trodAll_cons r0
  obtain ⟨v2, vs2, d2, ds2, p2, q2, rfl, rfl, rfl, h2, r2⟩ := trodAll_cons r1
  obtain ⟨v3, vs3, d3, ds3, p3, q3, rfl, rfl, rfl, h3, r3⟩ := trodAll_cons r2
  obtain ⟨v4, vs4, d4, ds4, p4, q4, rfl, rfl, rfl, h4, r4⟩ := trodAll_cons r3
  obtain ⟨rfl, rfl, rfl⟩ := trodAll_nil r4
  obtain rfl : args = #[v0, v1, v2, v3, v4] := by cases args; simp_all
  obtain ⟨cs, rfl, hR⟩ := open_shapeX shCut Try.underlying24 (by kernel_rfl) (by kernel_rfl) (hval 0 24 v0 rfl rfl) h0 hreach (j := 0) rfl rfl
  obtain ⟨x, a, c, L, hse, hL, hQ, hm, hxc⟩ := cut_of hR
  obtain ⟨ba, bc, bs, rfl, hbc, hb, hwb, _⟩ := open_slc Try.underlying25 Try.underlying5 (by kernel_rfl) (hval 1 25 v1 rfl rfl) h1
  obtain ⟨n2, rfl, rfl, rfl, x2⟩ := open_int Try.underlying3 (hval 2 3 v2 rfl rfl) h2
  obtain ⟨n3, rfl, rfl, rfl, x3⟩ := open_int Try.underlying3 (hval 3 3 v3 rfl rfl) h3
  obtain ⟨n4, rfl, rfl, rfl, x4⟩ := open_int Try.underlying3 (hval 4 3 v4 rfl rfl) h4
  rw [hse]
  exact law23_UnackRaw_ct hL hQ hm hxc hb (bounds_i64 x2)

set_option maxRecDepth 100000 in
theorem unackRaw_lifted (os : Os) (started : os.Started) (H : Type) (enc : TypeId × Value → H) :
    ReturnsInHanded {} Try.checked os 3 .any (Rows.unackRawSpec.pre6 enc Try.prog Try.f3 Rows.unackRawRow.domain false) (Rows.unackRawSpec.post enc Try.prog Try.f3 false true false false) :=
  law_lift (C := Try.checked) (s := Rows.unackRawSpec) (T := 4) (by kernel_rfl) started (by kernel_rfl) Try.func3
    (ChangeSpec.witness6 (enc := enc) (C := Try.checked) false ⟨#[], #[.agg #[.int .i64 (0 : Int), .int .i64 (0 : Int), .slice none 0 0, .int .i64 (0 : Int)], .slice none 0 0, .int .i64 0, .int .i64 0, .int .i64 0], []⟩ 8 (by kernel_rfl) (by kernel_rfl) (by kernel_rfl) (by kernel_rfl))
    (by kernel_rfl) (by kernel_rfl) rfl rfl Try.underlying4
    (fun ds hd => by
      rw [Try.params3] at hd
      match ds, hd with
      | [_, _, _, _, _], _ => exact ⟨rfl, rfl, rfl⟩)
    (fun W base args ds ps h => unackRaw_call W base args ds ps h)

theorem unackRaw_holds : Rows.UnackRawSaid :=
  OpenClaim.holds_of_wide 3 Try.f3 rfl rfl rfl rfl rfl rfl rfl ⟨rfl, rfl, rfl, rfl, rfl⟩ rfl rfl rfl rfl rfl (by kernel_rfl) Try.func3 (by kernel_rfl)
    (of_decide_eq_true (by kernel_rfl)) (by unfold Func.isWrapper; rw [if_neg (by decide +kernel)]; exact ⟨rfl, rfl⟩)
    (fun os started H enc _ => unackRaw_lifted os started H enc)
#print axioms unackRaw_holds
end Go.Proofs.Ytlgolgpellbnbaa
