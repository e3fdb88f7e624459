/- The law BufferRaw: called with any arguments, the function returns true, each argument reads behind the call as it read before, and nothing else that was in memory has turned. No condition. -/
import Derived.Test.YtamkmafmhglfkaaW26r
import Derived.OpenShut
namespace Go.Proofs.Ytamkmafmhglfkaa
open Go.Sx Go.RowKit Go.ChangeShapes Go.WideShapes Go.ChangeAt
theorem bufferRaw_call {H : Type} {enc : TypeId × Value → H} (W : World) (base : Nat) (args : Array Value) (ds : List (DataW H)) (ps : List MemPlace) (h : LawArgs enc Try.prog Try.f6 W base args ds ps) :
    Calls Try.prog 6 args W fun e W' => e = .returned (.bool true) ∧ Below W.heap.size W W' := by
  obtain ⟨hval, hA, hreach⟩ := h
  rw [Try.params6] at hA hval hreach
  obtain ⟨v0, vs0, d0, ds0, p0, q0, hargs, rfl, rfl, h0, r0⟩ := trodAll_cons hA
  obtain ⟨v1, vs1, d1, ds1, p1, q1, rfl, rfl, rfl, h1, r1⟩ := trodAll_cons r0
  obtain ⟨v2, vs2, d2, ds2, p2, q2, rfl, rfl, rfl, h2, r2⟩ := trodAll_cons r1
  obtain ⟨v3, vs3, d3, ds3, p3, q3, rfl, rfl, rfl, h3, r3⟩ := trodAll_cons r2
  obtain ⟨v4, vs4, d4, ds4, p4, q4, rfl, rfl, rfl, h4, r4⟩ := trodAll_cons r3
  obtain ⟨v5, vs5, d5, ds5, p5, q5, rfl, rfl, rfl, h5, r5⟩ := trodAll_cons r4
  obtain ⟨rfl, rfl, rfl⟩ := trodAll_nil r5
  obtain rfl : args = #[v0, v1, v2, v3, v4, v5] := by cases args; simp_all
  obtain ⟨n0, rfl, rfl, rfl, x0⟩ := open_int Try.underlying3 (hval 0 3 v0 rfl rfl) h0
  obtain ⟨a1, c1, xs, rfl, hx, _, hmx, _⟩ := open_sl Try.underlying28 Try.underlying3 (by kernel_rfl) (hval 1 28 v1 rfl rfl) h1
  obtain ⟨a2, c2, ys, rfl, hy, _, hmy, _⟩ := open_sl Try.underlying28 Try.underlying3 (by kernel_rfl) (hval 2 28 v2 rfl rfl) h2
  obtain ⟨us, rfl, hul, _⟩ := open_boxArr Try.underlying32 rfl rfl Try.underlying29 Try.underlying3 (by kernel_rfl) (by kernel_rfl) (by kernel_rfl) (hval 3 32 v3 rfl rfl) h3
  obtain ⟨u0, u1, u2, u3, rfl⟩ := len4 hul
  obtain ⟨n4, rfl, rfl, rfl, x4⟩ := open_int Try.underlying3 (hval 4 3 v4 rfl rfl) h4
  obtain ⟨ss, rfl, hR⟩ := open_shape shSection Try.underlying40 (by kernel_rfl) (hval 5 40 v5 rfl rfl) h5
  obtain ⟨ch, sa, sc, bs, rfl, hs, hby⟩ := section_of hR
  exact law26_BufferRaw_ct hx hy hs hby

set_option maxRecDepth 100000 in
theorem bufferRaw_lifted (os : Os) (started : os.Started) (H : Type) (enc : TypeId × Value → H) :
    ReturnsInHanded {} Try.checked os 6 .any (Rows.bufferRawSpec.pre6 enc Try.prog Try.f6 Rows.bufferRawRow.domain false) (Rows.bufferRawSpec.post enc Try.prog Try.f6 false true false false) :=
  law_lift (C := Try.checked) (s := Rows.bufferRawSpec) (T := 4) (by kernel_rfl) started (by kernel_rfl) Try.func6
    (ChangeSpec.witness6 (enc := enc) (C := Try.checked) false ⟨#[], #[.int .i64 0, .slice none 0 0, .slice none 0 0, .agg #[.int .i64 (0 : Int), .int .i64 (0 : Int), .int .i64 (0 : Int), .int .i64 (0 : Int)], .int .i64 0, .agg #[.int .i64 (0 : Int), .slice none 0 0]], []⟩ 8 (by kernel_rfl) (by kernel_rfl) (by kernel_rfl) (by kernel_rfl))
    (by kernel_rfl) (by kernel_rfl) rfl rfl Try.underlying4
    (fun ds hd => by
      rw [Try.params6] at hd
      match ds, hd with
      | [_, _, _, _, _, _], _ => exact ⟨rfl, rfl, rfl⟩)
    (fun W base args ds ps h => bufferRaw_call W base args ds ps h)

theorem bufferRaw_holds : Rows.BufferRawSaid :=
  OpenClaim.holds_of_wide 6 Try.f6 rfl rfl rfl rfl rfl rfl rfl ⟨rfl, rfl, rfl, rfl, rfl⟩ rfl rfl rfl rfl rfl (by kernel_rfl) Try.func6 (by kernel_rfl)
    (of_decide_eq_true (by kernel_rfl)) (by unfold Func.isWrapper; rw [if_neg (by decide +kernel)]; exact ⟨rfl, rfl⟩)
    (fun os started H enc _ => bufferRaw_lifted os started H enc)
#print axioms bufferRaw_holds
end Go.Proofs.Ytamkmafmhglfkaa
