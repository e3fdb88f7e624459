import Derived.Test.YtelkdacpehdllaaW18f
import Derived.Test.YtelkdacpehdllaaOp
namespace Go.Proofs.Ytelkdacpehdllaa
open Go.Sx Go.RowKit

def shPiece : Shape := .cons 1 (.int .i64) (.cons 1 (.int .i64) (.cons 1 (.int .i64) (.cons 1 (.int .i64) (.cons 1 (.sl 1 (.int .u8)) .nil))))
theorem bytes_of {xs : List Int} (h : ∀ i (h : i < xs.length), (Lit.int .u8 xs[i]).wf = true) : Bytes xs := fun i hi => by have := bounds_u8 (h i hi); omega
theorem piece_of {W : World} {cs : Array Value} (h : shPiece.R W cs.toList) : ∃ sn part poll off a d c, cs = #[.int .i64 sn, .int .i64 part, .int .i64 poll, .int .i64 off, .slice a d.length c] ∧ SlR (IntC .u8) 1 W a d ∧ Bytes d ∧ d.length ≤ c ∧ c ≤ maxLen := by
  obtain ⟨⟨n0, e0, _⟩, ⟨n1, e1, _⟩, ⟨n2, e2, _⟩, ⟨n3, e3, _⟩, ⟨a, l, c, e4, hl, hc, hs⟩, e5⟩ := h
  obtain ⟨xs, rfl, hx, hw⟩ := sl_ints hs
  refine ⟨n0, n1, n2, n3, a, xs, c, ?_, hx, bytes_of hw, hl, hc⟩
  have h0 := tk1 e0; have h1 := tk1 e1; have h2 := tk1 e2; have h3 := tk1 e3; have h4 := tk1 e4
  rw [e5] at h4; rw [h4] at h3; rw [h3] at h2; rw [h2] at h1; rw [h1] at h0
  exact Array.toList_inj.1 h0
end Go.Proofs.Ytelkdacpehdllaa
