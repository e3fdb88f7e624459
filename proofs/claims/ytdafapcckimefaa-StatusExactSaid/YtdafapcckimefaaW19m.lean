import Derived.Test.YtdafapcckimefaaW19j
import Derived.Test.YtdafapcckimefaaOp
namespace Go.Proofs.Ytdafapcckimefaa
open Go.Sx Go.RowKit
def shRange : Shape := .cons 1 (.int .i64) (.cons 1 (.int .i64) (.cons 1 (.int .i64) .nil))
theorem range_of {W : World} {cs : List Value} (h : shRange.R W cs) : ∃ r : Rg, cs = encR r ∧ R64 r := by
  obtain ⟨⟨n0, e0, w0⟩, ⟨n1, e1, w1⟩, ⟨n2, e2, w2⟩, e3⟩ := h
  have h0 := tk1 e0; have h1 := tk1 e1; have h2 := tk1 e2
  rw [e3] at h2; rw [h2] at h1; rw [h1] at h0
  exact ⟨⟨n0, n1, n2⟩, h0, bounds_i64 w0, bounds_i64 w1, bounds_i64 w2⟩
theorem ranges_of {W : World} {a : Option Addr} {l : Nat} (h : 0 < l → ∃ b, a = some b ∧ ∀ i, i < l → ∃ es, cellsAt W (b.add (i * 3)) 0 es ∧ es.length = 3 ∧ shRange.R W es) :
    ∃ L : List Rg, L.length = l ∧ SlR (CE encR) 3 W a L ∧ ∀ x ∈ L, R64 x := by
  rcases Nat.eq_zero_or_pos l with rfl | hl
  · exact ⟨[], rfl, .inl rfl, fun s hs => by simp at hs⟩
  · obtain ⟨b, rfl, hb⟩ := h hl
    obtain ⟨L, hL, hq⟩ := choose_list (Q := fun i (s : Rg) => cellsAt W (b.add (i * 3)) 0 (encR s) ∧ R64 s) l fun i hi => by
      obtain ⟨es, hes, _, hR⟩ := hb i hi
      obtain ⟨r, rfl, h64⟩ := range_of hR
      exact ⟨r, hes, h64⟩
    refine ⟨L, hL, .inr ⟨b, rfl, fun i hi => (hq i hi).1⟩, fun s hs => ?_⟩
    obtain ⟨i, hi, rfl⟩ := List.getElem_of_mem hs
    exact (hq i hi).2
def shStatus : Shape := .cons 1 (.int .i64) (.cons 1 (.sl 3 shRange) .nil)
theorem status_of {W : World} {cs : Array Value} (h : shStatus.R W cs.toList) : ∃ u a L c, cs = #[.int .i64 u, .slice a (L : List Rg).length c] ∧ SlR (CE encR) 3 W a L ∧ L.length ≤ c := by
  obtain ⟨⟨u, e0, _⟩, ⟨a, l, c, e1, hl, _, hs⟩, e2⟩ := h
  obtain ⟨L, rfl, hL, _⟩ := ranges_of hs
  refine ⟨u, a, L, c, ?_, hL, hl⟩
  have h0 := tk1 e0; have h1 := tk1 e1
  rw [e2] at h1; rw [h1] at h0
  exact Array.toList_inj.1 h0
theorem bytes_of {xs : List Int} (h : ∀ i (h : i < xs.length), (Lit.int .u8 xs[i]).wf = true) : Bytes xs := fun i hi => by have := bounds_u8 (h i hi); omega
theorem two_ints {ns : List Int} (h : ns.length = 2) : ∃ n0 n1, ns = [n0, n1] := by
  rcases ns with _ | ⟨a, _ | ⟨b, _ | ⟨c, l⟩⟩⟩ <;> simp at h
  exact ⟨a, b, rfl⟩
end Go.Proofs.Ytdafapcckimefaa
