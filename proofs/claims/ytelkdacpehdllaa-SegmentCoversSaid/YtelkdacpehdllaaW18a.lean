import Derived.Test.YtelkdacpehdllaaP18
import Derived.Test.YtelkdacpehdllaaForms
import Derived.Test.YtelkdacpehdllaaTys
import Derived.Test.YtelkdacpehdllaaSt
namespace Go.Proofs.Ytelkdacpehdllaa
open Go.Sx Go.RowKit

theorem counter_Bits_ct {bits : Int} {w : World} :
    Calls Try.prog N_counter_Bits #[(.int .i64 bits)] w fun e w' => e = .returned (.bool (decide (bitsOk bits))) ∧ Below w.heap.size w w' := by
  apply F_counter_Bits_ok
  unfold F_counter_Bits
  have H := St.nil w
  refine bsplit_dec (fun c => ?_) (fun c => ?_) --  (decide (bits ≥ (5 : Int)))
  · refine kLet_in ?_
    exact ⟨retD (by unfold bitsOk; omega), H.below⟩
  · exact ⟨retF (by unfold bitsOk; omega), H.below⟩
theorem ref15_Bits_ct {n : Int} {w : World} :
    Calls Try.prog N_ref15_Bits #[(.int .i64 n)] w fun e w' => e = .returned (.bool (decide (bitsOk n))) ∧ Below w.heap.size w w' := by
  apply F_ref15_Bits_ok
  unfold F_ref15_Bits
  have H := St.nil w
  refine bsplit_dec (fun c => ?_) (fun c => ?_) --  (decide (n ≥ (5 : Int)))
  · refine kLet_in ?_
    exact ⟨retD (by unfold bitsOk; omega), H.below⟩
  · exact ⟨retF (by unfold bitsOk; omega), H.below⟩
theorem segment_begins_ct {part : Int} {w : World} :
    Calls Try.prog N_segment_begins #[(.int .i64 part)] w fun e w' => e = .returned (.bool (begins part)) ∧ Below w.heap.size w w' := by
  apply F_segment_begins_ok
  unfold F_segment_begins begins
  have H := St.nil w
  refine bsplit_dec (fun c => ?_) (fun c => ?_) --  (decide (part = (0 : Int)))
  · exact ⟨retT (by omega), H.below⟩
  · refine kLet_in ?_
    exact ⟨retD (by omega), H.below⟩
theorem segment_Ends_ct {part : Int} {w : World} :
    Calls Try.prog N_segment_Ends #[(.int .i64 part)] w fun e w' => e = .returned (.bool (ends part)) ∧ Below w.heap.size w w' := by
  apply F_segment_Ends_ok
  unfold F_segment_Ends ends
  have H := St.nil w
  refine bsplit_dec (fun c => ?_) (fun c => ?_) --  (decide (part = (0 : Int)))
  · exact ⟨retT (by omega), H.below⟩
  · refine kLet_in ?_
    exact ⟨retD (by omega), H.below⟩
theorem segment_head_ct {part : Int} {w : World} :
    Calls Try.prog N_segment_head #[(.int .i64 part)] w fun e w' => e = .returned (.int .i64 (headN part : Nat)) ∧ Below w.heap.size w w' := by
  apply F_segment_head_ok
  unfold F_segment_head
  have H := St.nil w
  refine segment_begins_ct.mono ?_ -- (.int .i64 part)
  rintro _ w1 ⟨rfl, hb1⟩; have H1 := H.pass hb1; clear H
  refine ⟨_, rfl, ?_⟩
  unfold headN begins
  refine bsplit_dec (fun c => ?_) (fun c => ?_) --  r
  · exact ⟨by rw [if_pos c]; rfl, H1.below⟩ --! (.int .i64 (2 : Int))
  · exact ⟨by rw [if_neg c]; rfl, H1.below⟩ --! (.int .i64 (4 : Int))
theorem segment_Part_ct {first : Bool} {last : Bool} {w : World} :
    Calls Try.prog N_segment_Part #[(.bool first), (.bool last)] w fun e w' => e = .returned (.int .i64 (partOf first last)) ∧ Below w.heap.size w w' := by
  apply F_segment_Part_ok
  unfold F_segment_Part
  refine ⟨fun x w1 => w1 = w ∧ x = (first && last), ?_, ?_⟩ --!
  · rintro _ x w1 ⟨rfl, rfl⟩
    have H1 := St.nil w1
    refine bsplit_intro (fun c3 => ?_) (fun c3 => ?_) --  x
    · exact ⟨by simp at c3; simp [partOf, c3], H1.below⟩ --! (.int .i64 (0 : Int))
    · refine bsplit_intro (fun c2 => ?_) (fun c2 => ?_) --  first
      · exact ⟨by subst c2; simp at c3; simp [partOf, c3], H1.below⟩ --! (.int .i64 (1 : Int))
      · refine bsplit_intro (fun c1 => ?_) (fun c1 => ?_) --  last
        · exact ⟨by simp [partOf, c1, c2], H1.below⟩ --! (.int .i64 (2 : Int))
        · exact ⟨by simp [partOf, c1, c2], H1.below⟩ --! (.int .i64 (3 : Int))
  · refine bsplit_intro (fun c => ?_) (fun c => ?_) --  first
    · exact ⟨rfl, by simp [c]⟩ --! J last
    · exact ⟨rfl, by simp [c]⟩ --! J false
theorem ref18_Head_ct {part : Int} {w : World} :
    Calls Try.prog N_ref18_Head #[(.int .i64 part)] w fun e w' => e = .returned (.int .i64 (headN part : Nat)) ∧ Below w.heap.size w w' := by
  apply F_ref18_Head_ok
  unfold F_ref18_Head headN
  have H := St.nil w
  refine bsplit_dec (fun c1 => ?_) (fun c1 => ?_) --  (decide (part = (0 : Int)))
  · exact ⟨by rw [if_pos (by omega)]; rfl, H.below⟩ --! (.int .i64 (2 : Int))
  · refine bsplit_dec (fun c => ?_) (fun c => ?_) --  (decide (part = (1 : Int)))
    · exact ⟨by rw [if_pos (by omega)]; rfl, H.below⟩ --! (.int .i64 (2 : Int))
    · exact ⟨by rw [if_neg (by omega)]; rfl, H.below⟩ --! (.int .i64 (4 : Int))

section
variable {bits : Int} {p_0 : Int} {p_1 : Int} {p_2 : Int} {p_3 : Int} {p_4_a : Option Addr} {p_4_l : Nat} {p_4_c : Nat} {w : World}
theorem segment_Valid_ct (hl : p_4_l ≤ 140737488355328) :
    Calls Try.prog N_segment_Valid #[(.int .i64 bits), (.agg #[.int .i64 p_0, .int .i64 p_1, .int .i64 p_2, .int .i64 p_3, .slice p_4_a p_4_l p_4_c])] w fun e w' => e = .returned (.bool (decide (pOk bits p_0 p_1 p_2 p_3 p_4_l))) ∧ Below w.heap.size w w' := by
  apply F_segment_Valid_ok
  unfold F_segment_Valid

  have H := St.nil w
  refine H.alloc ?_; clear H; intro b w1 H1
  refine ⟨fun x7 w4 => St (fun _ => False) [] w w4 [.blk b Ty_api_Piece [(.int .i64 p_0), (.int .i64 p_1), (.int .i64 p_2), (.int .i64 p_3), (.slice p_4_a p_4_l p_4_c)]] (fun _ => True) ∧ (x7 = true → ¬ pOk bits p_0 p_1 p_2 p_3 p_4_l) ∧ (x7 = false → bitsOk bits ∧ (0 ≤ p_0 ∧ p_0 < 2 ^ bits.toNat) ∧ (0 ≤ p_1 ∧ p_1 ≤ 3) ∧ (0 ≤ p_2 ∧ p_2 ≤ 1)), ?_, ?_⟩ --!
  · rintro _ x7 w4 ⟨H4, hj, hj'⟩
    refine bsplit_intro (fun c10 => ?_) (fun c10 => ?_) --  x7
    · exact ⟨retF (hj c10), H4.below⟩ --! (.bool false)
    · obtain ⟨h1, h2, h3, h4⟩ := hj' c10
      have hiff : (decide (pOk bits p_0 p_1 p_2 p_3 p_4_l)) = decide (((p_1 = 0 ∨ p_1 = 1) ↔ p_3 = 0) ∧ (0 ≤ p_3 ∧ p_3 ≤ 2054) ∧ 1 ≤ p_4_l ∧ p_3 + p_4_l ≤ 2054) := by
        unfold pOk; simp [h1, h2, h3, h4]
      rw [hiff]
      refine ⟨fun  w7 => St (fun _ => False) [] w w7 [.blk b Ty_api_Piece [(.int .i64 p_0), (.int .i64 p_1), (.int .i64 p_2), (.int .i64 p_3), (.slice p_4_a p_4_l p_4_c)]] (fun _ => True) ∧ ((p_1 = 0 ∨ p_1 = 1) ↔ p_3 = 0) ∧ (0 ≤ p_3 ∧ p_3 ≤ 2054), ?_, ?_⟩ --!
      · rintro _  w7 ⟨H7, hj1, hj2⟩
        refine H7.ldS (i := 0) rfl rfl ?_
        refine bsplit_dec (fun c9 => ?_) (fun c9 => ?_) --  (decide ((p_4_l : Int) ≥ (1 : Int)))
        · refine H7.ldS (i := 0) rfl rfl ?_
          refine H7.ld (i := 0) rfl rfl ?_
          refine kW_i64 (by omega) ?_ -- (2054 : Int) - p_3
          refine kLet_in ?_
          exact ⟨retD (by omega), H7.below⟩ --! (.bool (decide ((p_4_l : Int) ≤ ((2054 : Int) - p_3))))
        · exact ⟨retF (by omega), H7.below⟩ --! (.bool false)
      · refine H4.drew ?_; clear H4; intro w5 H5
        refine ⟨(· < w5.heap.size), ?_⟩
        refine H5.ld (i := 0) rfl rfl ?_
        refine ⟨H5.lt (i := 0) rfl rfl, ?_⟩
        refine H5.ld (i := 0) rfl rfl ?_
        refine segment_begins_ct.mono ?_ -- (.int .i64 p_1)
        rintro _ w6 ⟨rfl, hb6⟩; have H6 := H5.pass hb6
        refine ⟨_, rfl, ?_⟩
        refine ⟨hb6.keeps, ?_⟩
        refine bsplit_n (fun c8 => ?_) (fun c8 => ?_) --  (!(r1 == (decide (p_3 = (0 : Int)))))
        · refine ⟨retF (fun h => ?_), H6.below⟩ --! (.bool false)
          unfold begins at c8
          simp only [beq_eq_false_iff_ne, ne_eq, decide_eq_decide] at c8
          exact c8 h.1
        · have c8 : ((p_1 = 0 ∨ p_1 = 1) ↔ p_3 = 0) := by
            unfold begins at c8
            simpa only [beq_iff_eq, decide_eq_decide] using c8
          refine ⟨H5.lt (i := 0) rfl rfl, ?_⟩
          refine H5.ld (i := 0) rfl rfl ?_
          refine bsplit_dec (fun c7 => ?_) (fun c7 => ?_) --  (decide (p_3 < (0 : Int)))
          · exact ⟨retF (by omega), H6.below⟩ --! (.bool false)
          · refine ⟨H5.lt (i := 0) rfl rfl, ?_⟩
            refine H5.ld (i := 0) rfl rfl ?_
            refine bsplit_dec (fun c6 => ?_) (fun c6 => ?_) --  (decide (p_3 > (2054 : Int)))
            · exact ⟨retF (by omega), H6.below⟩ --! (.bool false)
            · exact ⟨H6, c8, by omega⟩ --! J1 
  · refine H1.drew ?_; clear H1; intro w2 H2
    refine ⟨(· < w2.heap.size), ?_⟩
    refine counter_Bits_ct.mono ?_ -- (.int .i64 bits)
    rintro _ w3 ⟨rfl, hb3⟩; have H3 := H2.pass hb3
    refine ⟨_, rfl, ?_⟩
    refine ⟨hb3.keeps, ?_⟩
    refine bsplit_nd (fun c5 => ?_) (fun c5 => ?_) --  (!r)
    · exact ⟨H3, fun _ h => c5 h.1, fun h => by cases h⟩ --! J true
    · have hbn : bits.toNat ≤ 62 ∧ 0 ≤ bits := by unfold bitsOk at c5; omega
      refine ⟨H2.lt (i := 0) rfl rfl, ?_⟩
      refine H2.ld (i := 0) rfl rfl ?_
      refine bsplit_dec (fun c4 => ?_) (fun c4 => ?_) --  (decide (p_0 < (0 : Int)))
      · exact ⟨H3, fun _ h => by have := h.2.1; omega, fun h => by cases h⟩ --! J true
      · refine ⟨H2.lt (i := 0) rfl rfl, ?_⟩
        refine H2.ld (i := 0) rfl rfl ?_
        refine ⟨by omega, ?_⟩
        refine kShl1 (by omega) ?_
        refine bsplit_dec (fun c3 => ?_) (fun c3 => ?_) --  (decide (p_0 ≥ ((1 : Int) * 2 ^ (min bits.toNat (IntKind.bits .i64)))))
        · exact ⟨H3, fun _ h => by have := h.2.1; omega, fun h => by cases h⟩ --! J true
        · refine ⟨H2.lt (i := 0) rfl rfl, ?_⟩
          refine H2.ld (i := 0) rfl rfl ?_
          refine bsplit_dec (fun c2 => ?_) (fun c2 => ?_) --  (decide (p_1 < (0 : Int)))
          · exact ⟨H3, fun _ h => by have := h.2.2.1; omega, fun h => by cases h⟩ --! J true
          · refine ⟨H2.lt (i := 0) rfl rfl, ?_⟩
            refine H2.ld (i := 0) rfl rfl ?_
            refine bsplit_dec (fun c1 => ?_) (fun c1 => ?_) --  (decide (p_1 > (3 : Int)))
            · exact ⟨H3, fun _ h => by have := h.2.2.1; omega, fun h => by cases h⟩ --! J true
            · refine ⟨H2.lt (i := 0) rfl rfl, ?_⟩
              refine H2.ld (i := 0) rfl rfl ?_
              refine bsplit_dec (fun c => ?_) (fun c => ?_) --  (decide (p_2 < (0 : Int)))
              · exact ⟨H3, fun _ h => by have := h.2.2.2.1; omega, fun h => by cases h⟩ --! J true
              · refine ⟨H2.lt (i := 0) rfl rfl, ?_⟩
                refine H2.ld (i := 0) rfl rfl ?_
                refine ⟨H3, fun h h' => by have := h'.2.2.2.1; simp at h; omega, fun h => ⟨c5, by omega, by omega, by simp at h; omega⟩⟩ --! J (decide (p_2 > (1 : Int)))
theorem ref18_Valid_ct (hl : p_4_l ≤ 140737488355328) :
    Calls Try.prog N_ref18_Valid #[(.int .i64 bits), (.agg #[.int .i64 p_0, .int .i64 p_1, .int .i64 p_2, .int .i64 p_3, .slice p_4_a p_4_l p_4_c])] w fun e w' => e = .returned (.bool (decide (pOk bits p_0 p_1 p_2 p_3 p_4_l))) ∧ Below w.heap.size w w' := by
  apply F_ref18_Valid_ok
  unfold F_ref18_Valid

  have H := St.nil w
  refine H.alloc ?_; clear H; intro b w1 H1
  refine ⟨fun x12 w3 => St (fun _ => False) [] w w3 [.blk b Ty_api_Piece [(.int .i64 p_0), (.int .i64 p_1), (.int .i64 p_2), (.int .i64 p_3), (.slice p_4_a p_4_l p_4_c)]] (fun _ => True) ∧ (x12 = true → ¬ pOk bits p_0 p_1 p_2 p_3 p_4_l) ∧ (x12 = false → bitsOk bits ∧ (0 ≤ p_0 ∧ p_0 < 2 ^ bits.toNat) ∧ (0 ≤ p_1 ∧ p_1 ≤ 3) ∧ (0 ≤ p_2 ∧ p_2 ≤ 1) ∧ (0 ≤ p_3 ∧ p_3 ≤ 2054) ∧ 1 ≤ p_4_l ∧ p_3 + p_4_l ≤ 2054), ?_, ?_⟩ --!
  · rintro _ x12 w3 ⟨H3, hj, hj'⟩
    refine bsplit_intro (fun c12 => ?_) (fun c12 => ?_) --  x12
    · exact ⟨retF (hj c12), H3.below⟩ --! (.bool false)
    · obtain ⟨h1, h2, h3, h4, h5, h6⟩ := hj' c12
      have hiff : (decide (pOk bits p_0 p_1 p_2 p_3 p_4_l)) = decide (((p_1 = 0 ∨ p_1 = 1) ↔ p_3 = 0)) := by
        unfold pOk; simp [h1, h2, h3, h4, h5, h6]
      rw [hiff]
      refine H3.ld (i := 0) rfl rfl ?_
      refine bsplit_dec (fun c11 => ?_) (fun c11 => ?_) --  (decide (p_1 = (0 : Int)))
      · refine H3.ld (i := 0) rfl rfl ?_
        refine kLet_in ?_
        exact ⟨retD (by omega), H3.below⟩ --! (.bool (decide (p_3 = (0 : Int))))
      · refine H3.ld (i := 0) rfl rfl ?_
        refine bsplit_dec (fun c10 => ?_) (fun c10 => ?_) --  (decide (p_1 = (1 : Int)))
        · refine H3.ld (i := 0) rfl rfl ?_
          refine kLet_in ?_
          exact ⟨retD (by omega), H3.below⟩ --! (.bool (decide (p_3 = (0 : Int))))
        · refine H3.ld (i := 0) rfl rfl ?_
          refine kLet_in ?_
          exact ⟨retD (by omega), H3.below⟩ --! (.bool (decide (p_3 > (0 : Int))))
  · refine ref15_Bits_ct.mono ?_ -- (.int .i64 bits)
    rintro _ w2 ⟨rfl, hb2⟩; have H2 := H1.pass hb2; clear H1
    refine ⟨_, rfl, ?_⟩
    refine bsplit_nd (fun c9 => ?_) (fun c9 => ?_) --  (!r)
    · exact ⟨H2, fun _ h => c9 h.1, fun h => by cases h⟩ --! J true
    · have hbn : bits.toNat ≤ 62 ∧ 0 ≤ bits := by unfold bitsOk at c9; omega
      refine H2.ld (i := 0) rfl rfl ?_
      refine bsplit_dec (fun c8 => ?_) (fun c8 => ?_) --  (decide (p_0 < (0 : Int)))
      · exact ⟨H2, fun _ h => by have := h.2.1; omega, fun h => by cases h⟩ --! J true
      · refine H2.ld (i := 0) rfl rfl ?_
        refine kW_u64 (by omega) ?_ -- bits
        refine ⟨by omega, ?_⟩
        refine kShl1 (by omega) ?_
        refine bsplit_dec (fun c7 => ?_) (fun c7 => ?_) --  (decide (p_0 ≥ ((1 : Int) * 2 ^ (min bits.toNat (IntKind.bits .i64)))))
        · exact ⟨H2, fun _ h => by have := h.2.1; omega, fun h => by cases h⟩ --! J true
        · refine H2.ld (i := 0) rfl rfl ?_
          refine bsplit_dec (fun c6 => ?_) (fun c6 => ?_) --  (decide (p_1 < (0 : Int)))
          · exact ⟨H2, fun _ h => by have := h.2.2.1; omega, fun h => by cases h⟩ --! J true
          · refine H2.ld (i := 0) rfl rfl ?_
            refine bsplit_dec (fun c5 => ?_) (fun c5 => ?_) --  (decide (p_1 > (3 : Int)))
            · exact ⟨H2, fun _ h => by have := h.2.2.1; omega, fun h => by cases h⟩ --! J true
            · refine H2.ld (i := 0) rfl rfl ?_
              refine bsplit_dec (fun c4 => ?_) (fun c4 => ?_) --  (decide (p_2 < (0 : Int)))
              · exact ⟨H2, fun _ h => by have := h.2.2.2.1; omega, fun h => by cases h⟩ --! J true
              · refine H2.ld (i := 0) rfl rfl ?_
                refine bsplit_dec (fun c3 => ?_) (fun c3 => ?_) --  (decide (p_2 > (1 : Int)))
                · exact ⟨H2, fun _ h => by have := h.2.2.2.1; omega, fun h => by cases h⟩ --! J true
                · refine H2.ldS (i := 0) rfl rfl ?_
                  refine bsplit_dec (fun c2 => ?_) (fun c2 => ?_) --  (decide ((p_4_l : Int) < (1 : Int)))
                  · exact ⟨H2, fun _ h => by have := h.2.2.2.2.2.2; omega, fun h => by cases h⟩ --! J true
                  · refine H2.ld (i := 0) rfl rfl ?_
                    refine bsplit_dec (fun c1 => ?_) (fun c1 => ?_) --  (decide (p_3 < (0 : Int)))
                    · exact ⟨H2, fun _ h => by have := h.2.2.2.2.2.1; omega, fun h => by cases h⟩ --! J true
                    · refine H2.ld (i := 0) rfl rfl ?_
                      refine bsplit_dec (fun c => ?_) (fun c => ?_) --  (decide (p_3 > (2054 : Int)))
                      · exact ⟨H2, fun _ h => by have := h.2.2.2.2.2.1; omega, fun h => by cases h⟩ --! J true
                      · refine H2.ld (i := 0) rfl rfl ?_
                        refine H2.ldS (i := 0) rfl rfl ?_
                        refine kW_i64 (by omega) ?_ -- p_3 + (p_4_l : Int)
                        exact ⟨H2, fun h h' => by have := h'.2.2.2.2.2; simp at h; omega, fun h => ⟨c9, by omega, by omega, by omega, by omega, by omega, by simp at h; omega⟩⟩ --! J (decide ((p_3 + (p_4_l : Int)) > (2054 : Int)))
end
end Go.Proofs.Ytelkdacpehdllaa
