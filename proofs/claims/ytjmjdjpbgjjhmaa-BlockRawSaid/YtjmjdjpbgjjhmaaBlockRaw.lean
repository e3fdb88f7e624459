/- The law BlockRaw: called with any arguments, the function returns true, each argument reads behind the call as it read before, and nothing else that was in memory has turned. No condition. -/
import Derived.Test.YtjmjdjpbgjjhmaaW24l
import Derived.Test.YtjmjdjpbgjjhmaaLift
import Derived.OpenShut
namespace Go.Proofs.Ytjmjdjpbgjjhmaa
open Go.Sx Go.RowKit Go.ChangeShapes Go.WideShapes Go.ChangeAt
theorem blockRaw_call {H : Type} {enc : TypeId × Value → H} (W : World) (base : Nat) (args : Array Value) (ds : List (DataW H)) (ps : List MemPlace) (h : LawArgs enc Try.prog Try.f3 W base args ds ps) :
    Calls Try.prog 3 args W fun e W' => e = .returned (.bool true) ∧ Below W.heap.size W W' := by
  obtain ⟨hval, hA, hreach⟩ := h
  rw [Try.params3] at hA hval hreach
  obtain ⟨v0, vs0, d0, ds0, p0, q0, hargs, rfl, rfl, h0, r0⟩ := trodAll_cons hA
  obtain ⟨v1, vs1, d1, ds1, p1, q1, rfl, rfl, rfl, h1, r1⟩ := trodAll_cons r0
  obtain ⟨v2, vs2, d2, ds2, p2, q2, rfl, rfl, rfl, h2, r2⟩ := trodAll_cons r1
  obtain ⟨rfl, rfl, rfl⟩ := trodAll_nil r2
  obtain rfl : args = #[v0, v1, v2] := by cases args; simp_all
  obtain ⟨a0, l0, c0, rfl, hlc0, hlr0, hx0⟩ := open_shapeSW 2 (.cons 1 (.int .i64) (.cons 1 (.sl 1 (.int .u8)) .nil)) Try.underlying22 (by kernel_rfl) (by kernel_rfl) (hval 0 22 v0 rfl rfl) h0 hreach (j := 0) rfl rfl
  have hrb : reachBytes = 140737488351232 := rfl
  obtain ⟨L, rfl, hL, hLs⟩ := sections_of (by omega) hx0
  obtain ⟨n1, rfl, rfl, rfl, x1⟩ := open_int Try.underlying3 (hval 1 3 v1 rfl rfl) h1
  obtain ⟨ba, bc, bs, rfl, hbc, hb, hwb, _⟩ := open_slc Try.underlying23 Try.underlying5 (by kernel_rfl) (hval 2 23 v2 rfl rfl) h2
  exact law24_BlockRaw_ct hL hLs hb (lit_bytes hwb) hbc

set_option maxRecDepth 100000 in
theorem blockRaw_lifted (os : Os) (started : os.Started) (H : Type) (enc : TypeId × Value → H) :
    ReturnsInHanded {} Try.checked os 3 .any (Rows.blockRawSpec.pre6 enc Try.prog Try.f3 Rows.blockRawRow.domain false) (Rows.blockRawSpec.post enc Try.prog Try.f3 false true false false) :=
  law_lift (C := Try.checked) (s := Rows.blockRawSpec) (T := 4) (by kernel_rfl) started (by kernel_rfl) Try.func3
    (ChangeSpec.witness6 (enc := enc) (C := Try.checked) false ⟨#[], #[.slice none 0 0, .int .i64 0, .slice none 0 0], []⟩ 8 (by kernel_rfl) (by kernel_rfl) (by kernel_rfl) (by kernel_rfl))
    (by kernel_rfl) (by kernel_rfl) rfl rfl Try.underlying4
    (fun ds hd => by
      rw [Try.params3] at hd
      match ds, hd with
      | [_, _, _], _ => exact ⟨rfl, rfl, rfl⟩)
    (fun W base args ds ps h => blockRaw_call W base args ds ps h)

theorem blockRaw_holds : Rows.BlockRawSaid :=
  OpenClaim.holds_of_wide 3 Try.f3 rfl rfl rfl rfl rfl rfl rfl ⟨rfl, rfl, rfl, rfl, rfl⟩ rfl rfl rfl rfl rfl (by kernel_rfl) Try.func3 (by kernel_rfl)
    (of_decide_eq_true (by kernel_rfl)) (by unfold Func.isWrapper; rw [if_neg (by decide +kernel)]; exact ⟨rfl, rfl⟩)
    (fun os started H enc _ => blockRaw_lifted os started H enc)
#print axioms blockRaw_holds
end Go.Proofs.Ytjmjdjpbgjjhmaa
