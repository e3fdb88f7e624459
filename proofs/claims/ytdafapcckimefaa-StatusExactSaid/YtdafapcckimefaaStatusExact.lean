/- The law StatusExact: called with any arguments, the function returns true, each argument reads behind the call as it read before, and nothing else that was in memory has turned. No condition. -/
import Derived.Test.YtdafapcckimefaaW19m
import Derived.Test.YtdafapcckimefaaW19j
import Derived.Test.YtdafapcckimefaaLift
import Derived.Test.YtdafapcckimefaaOp
import Derived.OpenShut
namespace Go.Proofs.Ytdafapcckimefaa
open Go.Sx Go.RowKit Go.ChangeShapes Go.WideShapes Go.ChangeAt
theorem statusExact_call {H : Type} {enc : TypeId × Value → H} (W : World) (base : Nat) (args : Array Value) (ds : List (DataW H)) (ps : List MemPlace) (h : LawArgs enc Try.prog Try.f3 W base args ds ps) :
    Calls Try.prog 3 args W fun e W' => e = .returned (.bool true) ∧ Below W.heap.size W W' := by
  obtain ⟨hval, hA, hreach⟩ := h
  rw [Try.params3] at hA hval hreach
  obtain ⟨v0, vs0, d0, ds0, p0, q0, hargs, rfl, rfl, h0, r0⟩ := trodAll_cons hA
  obtain ⟨v1, vs1, d1, ds1, p1, q1, rfl, rfl, rfl, h1, r1⟩ := trodAll_cons r0
  obtain ⟨v2, vs2, d2, ds2, p2, q2, rfl, rfl, rfl, h2, r2⟩ := trodAll_cons r1
  obtain ⟨rfl, rfl, rfl⟩ := trodAll_nil r2
  obtain rfl : args = #[v0, v1, v2] := by cases args; simp_all
  obtain ⟨cs, rfl, hR⟩ := open_shape shStatus Try.underlying24 (by kernel_rfl) (hval 0 24 v0 rfl rfl) h0
  obtain ⟨u, a, L, c, rfl, hL, hLc⟩ := status_of hR
  obtain ⟨ba, bc, bs, rfl, hbc, hb, hwb, _⟩ := open_slc Try.underlying25 Try.underlying5 (by kernel_rfl) (hval 1 25 v1 rfl rfl) h1
  obtain ⟨ns, rfl, hn, hwn⟩ := open_arrI Try.underlying26 Try.underlying3 (by kernel_rfl) (by kernel_rfl) (hval 2 26 v2 rfl rfl) h2
  obtain ⟨n0, n1, rfl⟩ := two_ints hn
  exact law19_StatusExact_ct hL hLc hb (bytes_of hwb) hbc

set_option maxRecDepth 100000 in
theorem statusExact_lifted (os : Os) (started : os.Started) (H : Type) (enc : TypeId × Value → H) :
    ReturnsInHanded {} Try.checked os 3 .any (Rows.statusExactSpec.pre6 enc Try.prog Try.f3 Rows.statusExactRow.domain false) (Rows.statusExactSpec.post enc Try.prog Try.f3 false true false false) :=
  law_lift (C := Try.checked) (s := Rows.statusExactSpec) (T := 4) (by kernel_rfl) started (by kernel_rfl) Try.func3
    (ChangeSpec.witness6 (enc := enc) (C := Try.checked) false ⟨#[], #[.agg #[.int .i64 (0 : Int), .slice none 0 0], .slice none 0 0, .agg #[.int .i64 (0 : Int), .int .i64 (0 : Int)]], []⟩ 8 (by kernel_rfl) (by kernel_rfl) (by kernel_rfl) (by kernel_rfl))
    (by kernel_rfl) (by kernel_rfl) rfl rfl Try.underlying4
    (fun ds hd => by
      rw [Try.params3] at hd
      match ds, hd with
      | [_, _, _], _ => exact ⟨rfl, rfl, rfl⟩)
    (fun W base args ds ps h => statusExact_call W base args ds ps h)

theorem statusExact_holds : Rows.StatusExactSaid :=
  OpenClaim.holds_of_wide 3 Try.f3 rfl rfl rfl rfl rfl rfl rfl ⟨rfl, rfl, rfl, rfl, rfl⟩ rfl rfl rfl rfl rfl (by kernel_rfl) Try.func3 (by kernel_rfl)
    (of_decide_eq_true (by kernel_rfl)) (by unfold Func.isWrapper; rw [if_neg (by decide +kernel)]; exact ⟨rfl, rfl⟩)
    (fun os started H enc _ => statusExact_lifted os started H enc)
#print axioms statusExact_holds
end Go.Proofs.Ytdafapcckimefaa
