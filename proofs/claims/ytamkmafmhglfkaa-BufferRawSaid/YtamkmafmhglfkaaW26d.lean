import Derived.Test.YtamkmafmhglfkaaW26b
namespace Go.Proofs.Ytamkmafmhglfkaa
open Go.Sx Go.RowKit

section
variable {a : Option Addr} {xs : List Int} {c : Nat} {w : World}
theorem min_ok (ha : SlR (IntC .i64) 1 w a xs) (h0 : 0 < xs.length) (hl : xs.length ≤ 4611686018427387904) :
    Calls Try.prog N_slices_Min_Sint_int #[.slice a xs.length c] w fun e w' => (∃ m, e = .returned (.int .i64 m) ∧ m ∈ xs ∧ ∀ x ∈ xs, m ≤ x) ∧ w' = w := by
  apply F_slices_Min_Sint_int_ok
  unfold F_slices_Min_Sint_int
  refine ⟨fun w1 => w1 = w, ?_, bsplit_dec (fun h => by omega) (fun _ => rfl)⟩
  rintro _ w1 rfl
  obtain ⟨b, rfl, hb⟩ := ha.get h0
  refine ⟨b, rfl, ⟨by omega, by omega⟩, _, hb, ?_⟩
  refine ⟨fun m i => ((xs.length - i).toNat, fun w2 => w2 = w1 ∧ ∃ k : Nat, i = k ∧ 1 ≤ k ∧ k ≤ xs.length ∧ m ∈ xs ∧ ∀ x ∈ xs.take k, m ≤ x), ⟨rfl, 1, rfl, by omega, by omega, List.getElem_mem _, fun x hx => ?_⟩, ?_⟩
  · rw [List.take_succ_eq_append_getElem h0] at hx
    simp at hx
    omega
  rintro _ m i w2 ⟨rfl, k, rfl, hk1, hk, hm, hle⟩
  refine bsplit_dec (fun hlt => ?_) (fun hge => ?_)
  · have hlt : k < xs.length := by omega
    obtain ⟨b', hb', hc⟩ := ha.get hlt
    injection hb' with hb'
    subst hb'
    refine ⟨b, rfl, ⟨by omega, by omega⟩, _, hc, ?_⟩
    intro m1 i1
    have e1 : i1 = ((k + 1 : Nat) : Int) := by simp only [i1]; rw [wrap_id _ (by omega)]; omega
    rw [e1]
    refine ⟨⟨rfl, k + 1, rfl, by omega, by omega, ?_, fun x hx => ?_⟩, by simp; omega⟩
    · simp only [m1]; split
      · exact List.getElem_mem _
      · exact hm
    · rw [List.take_succ_eq_append_getElem hlt] at hx
      rcases List.mem_append.1 hx with hx | hx
      · have := hle x hx
        simp only [m1]; split <;> omega
      · simp at hx; subst hx
        simp only [m1]; split <;> omega
  · obtain rfl : k = xs.length := by omega
    exact ⟨⟨m, rfl, hm, fun x hx => hle x (by rwa [List.take_length])⟩, rfl⟩
theorem max_ok (ha : SlR (IntC .i64) 1 w a xs) (h0 : 0 < xs.length) (hl : xs.length ≤ 4611686018427387904) :
    Calls Try.prog N_slices_Max_Sint_int #[.slice a xs.length c] w fun e w' => (∃ m, e = .returned (.int .i64 m) ∧ m ∈ xs ∧ ∀ x ∈ xs, x ≤ m) ∧ w' = w := by
  apply F_slices_Max_Sint_int_ok
  unfold F_slices_Max_Sint_int
  refine ⟨fun w1 => w1 = w, ?_, bsplit_dec (fun h => by omega) (fun _ => rfl)⟩
  rintro _ w1 rfl
  obtain ⟨b, rfl, hb⟩ := ha.get h0
  refine ⟨b, rfl, ⟨by omega, by omega⟩, _, hb, ?_⟩
  refine ⟨fun m i => ((xs.length - i).toNat, fun w2 => w2 = w1 ∧ ∃ k : Nat, i = k ∧ 1 ≤ k ∧ k ≤ xs.length ∧ m ∈ xs ∧ ∀ x ∈ xs.take k, x ≤ m), ⟨rfl, 1, rfl, by omega, by omega, List.getElem_mem _, fun x hx => ?_⟩, ?_⟩
  · rw [List.take_succ_eq_append_getElem h0] at hx
    simp at hx
    omega
  rintro _ m i w2 ⟨rfl, k, rfl, hk1, hk, hm, hle⟩
  refine bsplit_dec (fun hlt => ?_) (fun hge => ?_)
  · have hlt : k < xs.length := by omega
    obtain ⟨b', hb', hc⟩ := ha.get hlt
    injection hb' with hb'
    subst hb'
    refine ⟨b, rfl, ⟨by omega, by omega⟩, _, hc, ?_⟩
    intro m1 i1
    have e1 : i1 = ((k + 1 : Nat) : Int) := by simp only [i1]; rw [wrap_id _ (by omega)]; omega
    rw [e1]
    refine ⟨⟨rfl, k + 1, rfl, by omega, by omega, ?_, fun x hx => ?_⟩, by simp; omega⟩
    · simp only [m1]; split
      · exact List.getElem_mem _
      · exact hm
    · rw [List.take_succ_eq_append_getElem hlt] at hx
      rcases List.mem_append.1 hx with hx | hx
      · have := hle x hx
        simp only [m1]; split <;> omega
      · simp at hx; subst hx
        simp only [m1]; split <;> omega
  · obtain rfl : k = xs.length := by omega
    exact ⟨⟨m, rfl, hm, fun x hx => hle x (by rwa [List.take_length])⟩, rfl⟩
end

/-! ## Encode -/
/-- the first of the greatest levels -/
def bst (l : Nat → Int) : Nat → Nat
  | 0 => 0
  | k + 1 => if l k > l (bst l k) then k else bst l k
theorem bst_lt (l : Nat → Int) : ∀ k, k ≤ 4 → bst l k < 4
  | 0, _ => by simp [bst]
  | k + 1, h => by simp only [bst]; split
                   · omega
                   · exact bst_lt l k (by omega)
def lvOk (l : Nat → Int) : Prop := ∀ i, i < 4 → 0 ≤ l i ∧ l i < 16
/-- channel, bytes and error of a report's section -/
noncomputable def encE (l : Nat → Int) (room : Int) : Int := open Classical in if ¬ lvOk l then 1 else if room < 3 then 15 else 0
noncomputable def encC (l : Nat → Int) (room : Int) : Int := if encE l room ≠ 0 then 0 else if room = 3 then 8 else 9
noncomputable def encB (l : Nat → Int) (room : Int) : List Int := if encE l room ≠ 0 then [] else if room = 3 then [64 * (bst l 4 : Int) + l (bst l 4)] else [16 * l 0 + l 1, 16 * l 2 + l 3]
def SecOut (w : World) (ch : Int) (bs : List Int) (E : Int) (e : Ending) (w' : World) : Prop :=
  ∃ a c, e = .returned (.tuple #[.agg #[.int .i64 ch, .slice a bs.length c], .int .i64 E]) ∧ SlR (IntC .u8) 1 w' a bs ∧ Below w.heap.size w w'
end Go.Proofs.Ytamkmafmhglfkaa
