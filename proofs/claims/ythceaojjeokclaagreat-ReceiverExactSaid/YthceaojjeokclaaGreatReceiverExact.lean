/- The law ReceiverExact: called with any arguments, the function returns true, each argument reads behind the call as it read before, and nothing else that was in memory has turned. No condition. -/
import Derived.Test.YthceaojjeokclaaGreatM21b
import Derived.Test.YthceaojjeokclaaGreatLift
import Derived.OpenShut
namespace Go.Proofs.YthceaojjeokclaaGreat
open Go.Sx Go.RowKit Go.ChangeShapes Go.WideShapes Go.ChangeAt
set_option maxRecDepth 100000 in
theorem receiverExact_call {H : Type} {enc : TypeId × Value → H} (W : World) (base : Nat) (args : Array Value) (ds : List (DataW H)) (ps : List MemPlace) (h : LawArgs enc Tryz.prog Tryz.f3 W base args ds ps) :
    Calls Tryz.prog 3 args W fun e W' => e = .returned (.bool true) ∧ Below W.heap.size W W' := by
  obtain ⟨hval, hA, hreach⟩ := h
  rw [Tryz.params3] at hA hval hreach
  obtain ⟨v0, vs0, d0, ds0, p0, q0, hargs, rfl, rfl, h0, r0⟩ := trodAll_cons hA
  obtain ⟨v1, vs1, d1, ds1, p1, q1, rfl, rfl, rfl, h1, r1⟩ := trodAll_cons r0
  obtain ⟨v2, vs2, d2, ds2, p2, q2, rfl, rfl, rfl, h2, r2⟩ := trodAll_cons r1
  obtain ⟨rfl, rfl, rfl⟩ := trodAll_nil r2
  obtain rfl : args = #[v0, v1, v2] := by cases args; simp_all
  obtain ⟨cs, rfl, hR⟩ := open_shapeW shRec Tryz.underlying26 (by kernel_rfl) (by kernel_rfl) (hval 0 26 v0 rfl rfl) h0 hreach (j := 0) rfl rfl
  obtain ⟨s, sa, sc, hse, hu, hg⟩ := rec_of hR
  obtain ⟨ba, bc, bs, rfl, hbc, hb, hwb, _⟩ := open_slc Tryz.underlying27 Tryz.underlying5 (by kernel_rfl) (hval 1 27 v1 rfl rfl) h1
  obtain ⟨n1, rfl, rfl, rfl, x1⟩ := open_int Tryz.underlying3 (hval 2 3 v2 rfl rfl) h2
  rw [hse]
  exact law21_ReceiverExact_ct hu (fun _ => hg) hb (byt_of hwb) hbc

set_option maxRecDepth 100000 in
theorem receiverExact_lifted (os : Os) (started : os.Started) (H : Type) (enc : TypeId × Value → H) :
    ReturnsInHanded {} Tryz.checked os 3 .any (Rows.receiverExactSpec.pre6 enc Tryz.prog Tryz.f3 Rows.receiverExactRow.domain false) (Rows.receiverExactSpec.post enc Tryz.prog Tryz.f3 false true false false) :=
  law_lift (C := Tryz.checked) (s := Rows.receiverExactSpec) (T := 4) (by kernel_rfl) started (by kernel_rfl) Tryz.func3
    (ChangeSpec.witness6 (enc := enc) (C := Tryz.checked) false ⟨#[], #[.agg #[.int .i64 (0 : Int), .int .i64 (0 : Int), .int .i64 (0 : Int), .int .i64 (0 : Int), .int .i64 (0 : Int), .int .i64 (0 : Int), .int .i64 (0 : Int), .int .i64 (0 : Int), .int .i64 (0 : Int), .int .i64 (0 : Int), .int .i64 (0 : Int), .int .i64 (0 : Int), .bool false, .slice none 0 0], .slice none 0 0, .int .i64 0], []⟩ 8 (by kernel_rfl) (by kernel_rfl) (by kernel_rfl) (by kernel_rfl))
    (by kernel_rfl) (by kernel_rfl) rfl rfl Tryz.underlying4
    (fun ds hd => by
      rw [Tryz.params3] at hd
      match ds, hd with
      | [_, _, _], _ => exact ⟨rfl, rfl, rfl⟩)
    (fun W base args ds ps h => receiverExact_call W base args ds ps h)

theorem receiverExact_holds : Rows.ReceiverExactSaid :=
  OpenClaim.holds_of_wide 3 Tryz.f3 rfl rfl rfl rfl rfl rfl rfl ⟨rfl, rfl, rfl, rfl, rfl⟩ rfl rfl rfl rfl rfl (by kernel_rfl) Tryz.func3 (by kernel_rfl)
    (of_decide_eq_true (by kernel_rfl)) (by unfold Func.isWrapper; rw [if_neg (by decide +kernel)]; exact ⟨rfl, rfl⟩)
    (fun os started H enc _ => receiverExact_lifted os started H enc)
#print axioms receiverExact_holds
end Go.Proofs.YthceaojjeokclaaGreat
