/- The law SenderExact: called with any arguments, the function returns true, each argument reads behind the call as it read before, and nothing else that was in memory has turned. No condition. -/
import Derived.Test.YtmhggobilcmdmaaM20b
import Derived.Test.YtmhggobilcmdmaaLift
import Derived.OpenShut
namespace Go.Proofs.Ytmhggobilcmdmaa
open Go.Sx Go.RowKit Go.ChangeShapes Go.WideShapes Go.ChangeAt
set_option maxRecDepth 100000 in
theorem senderExact_call {H : Type} {enc : TypeId × Value → H} (W : World) (base : Nat) (args : Array Value) (ds : List (DataW H)) (ps : List MemPlace) (h : LawArgs enc Try.prog Try.f6 W base args ds ps) :
    Calls Try.prog 6 args W fun e W' => e = .returned (.bool true) ∧ Below W.heap.size W W' := by
  obtain ⟨hval, hA, hreach⟩ := h
  rw [Try.params6] at hA hval hreach
  obtain ⟨v0, vs0, d0, ds0, p0, q0, hargs, rfl, rfl, h0, r0⟩ := trodAll_cons hA
  obtain ⟨v1, vs1, d1, ds1, p1, q1, rfl, rfl, rfl, h1, r1⟩ := trodAll_cons r0
  obtain ⟨v2, vs2, d2, ds2, p2, q2, rfl, rfl, rfl, h2, r2⟩ := trodAll_cons r1
  obtain ⟨rfl, rfl, rfl⟩ := trodAll_nil r2
  obtain rfl : args = #[v0, v1, v2] := by cases args; simp_all
  obtain ⟨cs, rfl, hR⟩ := open_shapeW shSender Try.underlying31 (by kernel_rfl) (by kernel_rfl) (hval 0 31 v0 rfl rfl) h0 hreach (j := 0) rfl rfl
  obtain ⟨s, sa, sc, hse, hu, hg⟩ := sender_of hR
  obtain ⟨ba, bc, bs, rfl, hbc, hb, hwb, _⟩ := open_slc Try.underlying36 Try.underlying5 (by kernel_rfl) (hval 1 36 v1 rfl rfl) h1
  obtain ⟨cs2, rfl, hR2⟩ := open_shapeW shStat Try.underlying50 (by kernel_rfl) (by kernel_rfl) (hval 2 50 v2 rfl rfl) h2 hreach (j := 2) rfl rfl
  obtain ⟨r, ma, mc, rfl, hM⟩ := stat_of hR2
  rw [hse]
  exact law20_SenderExact_ct hu hg hb (byt_of hwb) hM

set_option maxRecDepth 100000 in
theorem senderExact_lifted (os : Os) (started : os.Started) (H : Type) (enc : TypeId × Value → H) :
    ReturnsInHanded {} Try.checked os 6 .any (Rows.senderExactSpec.pre6 enc Try.prog Try.f6 Rows.senderExactRow.domain false) (Rows.senderExactSpec.post enc Try.prog Try.f6 false true false false) :=
  law_lift (C := Try.checked) (s := Rows.senderExactSpec) (T := 4) (by kernel_rfl) started (by kernel_rfl) Try.func6
    (ChangeSpec.witness6 (enc := enc) (C := Try.checked) false ⟨#[], #[.agg #[.int .i64 (0 : Int), .int .i64 (0 : Int), .int .i64 (0 : Int), .int .i64 (0 : Int), .int .i64 (0 : Int), .int .i64 (0 : Int), .int .i64 (0 : Int), .int .i64 (0 : Int), .slice none 0 0, .int .i64 (0 : Int), .int .i64 (0 : Int), .int .i64 (0 : Int), .bool false], .slice none 0 0, .agg #[.int .i64 (0 : Int), .slice none 0 0]], []⟩ 8 (by kernel_rfl) (by kernel_rfl) (by kernel_rfl) (by kernel_rfl))
    (by kernel_rfl) (by kernel_rfl) rfl rfl Try.underlying4
    (fun ds hd => by
      rw [Try.params6] at hd
      match ds, hd with
      | [_, _, _], _ => exact ⟨rfl, rfl, rfl⟩)
    (fun W base args ds ps h => senderExact_call W base args ds ps h)

theorem senderExact_holds : Rows.SenderExactSaid :=
  OpenClaim.holds_of_wide 6 Try.f6 rfl rfl rfl rfl rfl rfl rfl ⟨rfl, rfl, rfl, rfl, rfl⟩ rfl rfl rfl rfl rfl (by kernel_rfl) Try.func6 (by kernel_rfl)
    (of_decide_eq_true (by kernel_rfl)) (by unfold Func.isWrapper; rw [if_neg (by decide +kernel)]; exact ⟨rfl, rfl⟩)
    (fun os started H enc _ => senderExact_lifted os started H enc)
#print axioms senderExact_holds
end Go.Proofs.Ytmhggobilcmdmaa
