import Derived.Test.YtelkdacpehdllaaW18b
import Derived.Test.YtelkdacpehdllaaBt
namespace Go.Proofs.Ytelkdacpehdllaa
open Go.Sx Go.RowKit

/-- what a function returns that makes bytes, or an error -/
def RetB (w : World) (bs : List Int) (er : Int) : Ending → World → Prop := fun e w' => ∃ a c, bs.length ≤ c ∧ e = .returned (.tuple #[.slice a bs.length c, .int .i64 er]) ∧ Fresh w w' fun w => SlR (IntC .u8) 1 w a bs
theorem RetB.nil {w w' : World} (b : Below w.heap.size w w') (er : Int) : RetB w [] er (.returned (.tuple #[.slice none 0 0, .int .i64 er])) w' :=
  ⟨none, 0, Nat.le_refl _, rfl, ((St.nil w).pass b).imp fun _ _ => .nil⟩

theorem putB2 (v : Int) : putB 2 v = [v / 256 % 256, v % 256] := by simp [putB]
section
variable {bits : Int} {p_0 : Int} {p_1 : Int} {p_2 : Int} {p_3 : Int} {p_4_a : Option Addr} {d : List Int} {p_4_c : Nat} {w : World}
theorem segment_Encode_ct (hs : SlR (IntC .u8) 1 w p_4_a d) (hl : d.length ≤ 140737488355000) :
    Calls Try.prog N_segment_Encode #[(.int .i64 bits), (.agg #[.int .i64 p_0, .int .i64 p_1, .int .i64 p_2, .int .i64 p_3, .slice p_4_a d.length p_4_c])] w
      (RetB w (encP bits ⟨p_0, p_1, p_2, p_3, d⟩).1 (encP bits ⟨p_0, p_1, p_2, p_3, d⟩).2) := by
  apply F_segment_Encode_ok
  unfold F_segment_Encode
  have H := St.nil w
  refine H.alloc ?_; clear H; intro b w1 H1
  refine ⟨_, _, _, _, _, _, _, H1.cells (i := 0) rfl, ?_⟩
  refine (segment_Valid_ct (by omega)).mono ?_ -- (.int .i64 bits), (.agg #[.int .i64 p_0, .int .i64 p_1, .int .i64 p_2, .int .i64 p_3, .slice p_4_a p_4_l p_4_c])
  rintro _ w2 ⟨rfl, hb2⟩; have H2 := H1.pass hb2; clear H1
  refine ⟨_, rfl, ?_⟩
  refine bsplit_nd (fun c1 => ?_) (fun c1 => ?_) --  (!r)
  · have e0 : encP bits ⟨p_0, p_1, p_2, p_3, d⟩ = ([], 1) := if_neg c1
    rw [e0]
    exact .nil H2.below _ --! (.tuple #[(.slice none 0 0), (.int .i64 (1 : Int))])
  · have e0 : encP bits ⟨p_0, p_1, p_2, p_3, d⟩ = (Pc.bytes ⟨p_0, p_1, p_2, p_3, d⟩, 0) := if_pos c1
    rw [e0]
    clear e0
    obtain ⟨hb, h0, h1, h2, h3, h4, h5, h6⟩ := c1
    have hp := pow_bits hb
    refine H2.ld (i := 0) rfl rfl ?_
    refine kW_i64 (by omega) ?_ -- p_2 * 2 ^ 14
    refine kLet_to (bOr_i64 15 1 (by decide) (by omega) (by omega) (by omega)) ?_ --! bOr .i64 (32768 : Int) (p_2 * 2 ^ 14)
    refine H2.ld (i := 0) rfl rfl ?_
    refine kW_i64 (by omega) ?_ -- p_1 * 2 ^ 12
    refine kLet_to (bOr_i64 14 (2 + p_2) (by omega) (by omega) (by omega) (by omega)) ?_ --! bOr .i64 x2 (p_1 * 2 ^ 12)
    refine H2.ld (i := 0) rfl rfl ?_
    refine kLet_to (bOr_i64 12 (8 + 4 * p_2 + p_1) (by omega) (by omega) (by omega) (by omega)) ?_ --! bOr .i64 x5 p_0
    refine kFdiv ?_
    refine kWu8 ?_
    refine kWu8 ?_
    have e1 : (32768 + p_2 * 2 ^ 14 + p_1 * 2 ^ 12 + p_0) / 2 ^ 8 % 256 = (Pc.first ⟨p_0, p_1, p_2, p_3, d⟩) / 256 := by simp only [Pc.first]; omega
    have e2 : (32768 + p_2 * 2 ^ 14 + p_1 * 2 ^ 12 + p_0) % 256 = (Pc.first ⟨p_0, p_1, p_2, p_3, d⟩) % 256 := by simp only [Pc.first]; omega
    rw [e1, e2]
    refine H2.alloc ?_; clear H2; intro b1 w3 H3
    refine H3.ld (i := 0) rfl rfl ?_
    refine segment_begins_ct.mono ?_ -- (.int .i64 p_1)
    rintro _ w4 ⟨rfl, hb4⟩; have H4 := H3.pass hb4; clear H3
    refine ⟨_, rfl, ?_⟩
    have H4 := H4.litI (i := 1) (k := .u8) [(Pc.first ⟨p_0, p_1, p_2, p_3, d⟩) / 256, (Pc.first ⟨p_0, p_1, p_2, p_3, d⟩) % 256] rfl (by simp [maxLen])
    unfold begins Pc.bytes
    refine bsplit_nd (fun c => ?_) (fun c => ?_) --  (!r1)
    · simp only [if_neg c]
      refine H4.ld (i := 0) rfl rfl ?_
      refine kFdiv ?_
      refine kWu8 ?_
      refine H4.ld (i := 0) rfl rfl ?_
      refine kWu8 ?_
      rw [show p_3 / 2 ^ 8 % 256 = p_3 / 256 by omega]
      refine H4.alloc ?_; clear H4; intro b2 w5 H5
      refine H5.appIB (i := 1) (j := 2) rfl [p_3 / 256, p_3 % 256] rfl sl_Ty_S_uint8 rfl (by simp) (by simp) ?_; intro x_a x_c w6 H6 --! append (.slice (some ⟨b1, 0, none⟩) 2 2) (.slice (some ⟨b2, 0, none⟩) 2 2)
      refine H6.ldS (i := 0) rfl rfl ?_
      refine H6.appI (i := 1) rfl sl_Ty_S_uint8 (hs.below H6.below) (by simp; omega) (by simp; omega) ?_; intro x_a2 x_c2 w7 H7 --! append (.slice x_a x_l x_c) (.slice p_4_a p_4_l p_4_c)
      exact ⟨x_a2, x_c2, H7.capI (i := 1) rfl, rfl, ((H7.shareI (i := 1) rfl).fin).imp fun _ h => h.1⟩ --! (.tuple #[(.slice x_a2 x_l2 x_c2), (.int .i64 (0 : Int))])
    · simp only [if_pos c]
      refine H4.ldS (i := 0) rfl rfl ?_
      refine H4.appI (i := 1) rfl sl_Ty_S_uint8 (hs.below H4.below) (by simp; omega) (by simp; omega) ?_; intro x_a4 x_c4 w8 H8 --! append (.slice (some ⟨b1, 0, none⟩) 2 2) (.slice p_4_a p_4_l p_4_c)
      exact ⟨x_a4, x_c4, H8.capI (i := 1) rfl, rfl, ((H8.shareI (i := 1) rfl).fin).imp fun _ h => h.1⟩ --! (.tuple #[(.slice x_a4 x_l4 x_c4), (.int .i64 (0 : Int))])

theorem ref18_Encode_ct (hs : SlR (IntC .u8) 1 w p_4_a d) (hl : d.length ≤ 140737488355000) :
    Calls Try.prog N_ref18_Encode #[(.int .i64 bits), (.agg #[.int .i64 p_0, .int .i64 p_1, .int .i64 p_2, .int .i64 p_3, .slice p_4_a d.length p_4_c])] w
      (RetB w (encP bits ⟨p_0, p_1, p_2, p_3, d⟩).1 (encP bits ⟨p_0, p_1, p_2, p_3, d⟩).2) := by
  apply F_ref18_Encode_ok
  unfold F_ref18_Encode
  have H := St.nil w
  refine H.alloc ?_; clear H; intro b w1 H1
  refine ⟨_, _, _, _, _, _, _, H1.cells (i := 0) rfl, ?_⟩
  refine (ref18_Valid_ct (by omega)).mono ?_ -- (.int .i64 bits), (.agg #[.int .i64 p_0, .int .i64 p_1, .int .i64 p_2, .int .i64 p_3, .slice p_4_a p_4_l p_4_c])
  rintro _ w2 ⟨rfl, hb2⟩; have H2 := H1.pass hb2; clear H1
  refine ⟨_, rfl, ?_⟩
  refine bsplit_nd (fun c1 => ?_) (fun c1 => ?_) --  (!r)
  · have e0 : encP bits ⟨p_0, p_1, p_2, p_3, d⟩ = ([], 1) := if_neg c1
    rw [e0]
    exact .nil H2.below _ --! (.tuple #[(.slice none 0 0), (.int .i64 (1 : Int))])
  · have e0 : encP bits ⟨p_0, p_1, p_2, p_3, d⟩ = (Pc.bytes ⟨p_0, p_1, p_2, p_3, d⟩, 0) := if_pos c1
    rw [e0]
    clear e0
    obtain ⟨hb, h0, h1, h2, h3, h4, h5, h6⟩ := c1
    have hp := pow_bits hb
    refine H2.ld (i := 0) rfl rfl ?_
    refine kW_i64 (by omega) ?_ -- (16384 : Int) * p_2
    refine kW_i64 (by omega) ?_ -- (32768 : Int) + ((16384 : Int) * p_2)
    refine H2.ld (i := 0) rfl rfl ?_
    refine kW_i64 (by omega) ?_ -- (4096 : Int) * p_1
    refine kW_i64 (by omega) ?_ -- ((32768 : Int) + ((16384 : Int) * p_2)) + ((4096 : Int) * p_1)
    refine H2.ld (i := 0) rfl rfl ?_
    refine kW_i64 (by omega) ?_ -- (((32768 : Int) + ((16384 : Int) * p_2)) + ((4096 : Int) * p_1)) + p_0
    have H2 := H2.nilI Ty_uint8 .u8
    obtain ⟨A, hA, hn, hr, hc⟩ := H2.callM (i := 1) rfl
    refine (put_ok (bytes := 2) (ys := []) hA hr hn (by omega) (by simp)).mono ?_ -- (.slice none 0 0), (.int .i64 (2 : Int)), (.int .i64 ((((32768 : Int) + ((16384 : Int) * p_2)) + ((4096 : Int) * p_1)) + p_0))
    rintro _ w3 ⟨r_a, r_c, rfl, K⟩; have H3 := (hc K).imp fun _ h => h.2
    clear K hc hr hn hA A H2
    refine ⟨_, _, _, rfl, ?_⟩
    have e1 : ([] ++ putB 2 (32768 + 16384 * p_2 + 4096 * p_1 + p_0)) = [(Pc.first ⟨p_0, p_1, p_2, p_3, d⟩) / 256, (Pc.first ⟨p_0, p_1, p_2, p_3, d⟩) % 256] := by
      rw [putB2]; simp only [Pc.first, List.nil_append, List.cons.injEq, and_true]; omega
    rw [e1] at H3 ⊢
    refine H3.ld (i := 0) rfl rfl ?_
    refine ref18_Head_ct.mono ?_ -- (.int .i64 p_1)
    rintro _ w4 ⟨rfl, hb4⟩; have H4 := H3.pass hb4; clear H3
    refine ⟨_, rfl, ?_⟩
    unfold headN Pc.bytes
    refine bsplit_dec (fun c => ?_) (fun c => ?_) --  (decide (r1 = (4 : Int)))
    · have c : ¬ (p_1 = 0 ∨ p_1 = 1) := fun h => by rw [if_pos h] at c; omega
      simp only [if_neg c]
      refine H4.ld (i := 0) rfl rfl ?_
      obtain ⟨A, hA, hn, hr, hc⟩ := H4.callM (i := 1) rfl
      refine (put_ok (bytes := 2) hA hr hn (by omega) (by simp)).mono ?_ -- (.slice r_a r_l r_c), (.int .i64 (2 : Int)), (.int .i64 p_3)
      rintro _ w5 ⟨r_a1, r_c1, rfl, K⟩; have H5 := (hc K).imp fun _ h => h.2
      clear K hc hr hn hA A H4
      refine ⟨_, _, _, rfl, ?_⟩
      have e2 : putB 2 p_3 = [p_3 / 256, p_3 % 256] := by rw [putB2]; simp only [List.cons.injEq, and_true]; omega
      rw [e2] at H5 ⊢
      refine H5.ldS (i := 0) rfl rfl ?_
      refine H5.appI (i := 1) rfl sl_Ty_S_uint8 (hs.below H5.below) (by simp; omega) (by simp; omega) ?_; intro x_a1 x_c1 w6 H6 --! append (.slice r_a1 r_l1 r_c1) (.slice p_4_a p_4_l p_4_c)
      exact ⟨x_a1, x_c1, H6.capI (i := 1) rfl, rfl, ((H6.shareI (i := 1) rfl).fin).imp fun _ h => h.1⟩ --! (.tuple #[(.slice x_a1 x_l1 x_c1), (.int .i64 (0 : Int))])
    · have c : p_1 = 0 ∨ p_1 = 1 := Decidable.byContradiction fun h => by rw [if_neg h] at c; omega
      simp only [if_pos c]
      refine H4.ldS (i := 0) rfl rfl ?_
      refine H4.appI (i := 1) rfl sl_Ty_S_uint8 (hs.below H4.below) (by simp; omega) (by simp; omega) ?_; intro x_a3 x_c3 w7 H7 --! append (.slice r_a r_l r_c) (.slice p_4_a p_4_l p_4_c)
      exact ⟨x_a3, x_c3, H7.capI (i := 1) rfl, rfl, ((H7.shareI (i := 1) rfl).fin).imp fun _ h => h.1⟩ --! (.tuple #[(.slice x_a3 x_l3 x_c3), (.int .i64 (0 : Int))])

theorem ref18_Same_ct {a_0 : Int} {a_1 : Int} {a_2 : Int} {a_3 : Int} {a_4_a : Option Addr} {xs : List Int} {a_4_c : Nat} {b_0 : Int} {b_1 : Int} {b_2 : Int} {b_3 : Int} {b_4_a : Option Addr} {ys : List Int} {b_4_c : Nat} {w : World}
    (hx : SlR (IntC .u8) 1 w a_4_a xs) (hy : SlR (IntC .u8) 1 w b_4_a ys) (bx : Bytes xs) (by_ : Bytes ys) :
    Calls Try.prog N_ref18_Same #[(.agg #[.int .i64 a_0, .int .i64 a_1, .int .i64 a_2, .int .i64 a_3, .slice a_4_a xs.length a_4_c]), (.agg #[.int .i64 b_0, .int .i64 b_1, .int .i64 b_2, .int .i64 b_3, .slice b_4_a ys.length b_4_c])] w fun e w' =>
      e = .returned (.bool (decide (a_0 = b_0 ∧ a_1 = b_1 ∧ a_2 = b_2 ∧ a_3 = b_3 ∧ xs = ys))) ∧ Below w.heap.size w w' := by
  apply F_ref18_Same_ok
  unfold F_ref18_Same
  have H := St.nil w
  refine H.alloc ?_; clear H; intro b w1 H1
  refine H1.alloc ?_; clear H1; intro b1 w2 H2
  refine H2.ld (i := 0) rfl rfl ?_
  refine H2.ld (i := 1) rfl rfl ?_
  refine bsplit_dec (fun c3 => ?_) (fun c3 => ?_) --  (decide (a_0 = b_0))
  · refine H2.ld (i := 0) rfl rfl ?_
    refine H2.ld (i := 1) rfl rfl ?_
    refine bsplit_dec (fun c2 => ?_) (fun c2 => ?_) --  (decide (a_1 = b_1))
    · refine H2.ld (i := 0) rfl rfl ?_
      refine H2.ld (i := 1) rfl rfl ?_
      refine bsplit_dec (fun c1 => ?_) (fun c1 => ?_) --  (decide (a_2 = b_2))
      · refine H2.ld (i := 0) rfl rfl ?_
        refine H2.ld (i := 1) rfl rfl ?_
        refine bsplit_dec (fun c => ?_) (fun c => ?_) --  (decide (a_3 = b_3))
        · refine H2.ldS (i := 0) rfl rfl ?_
          refine H2.ldS (i := 1) rfl rfl ?_
          refine (same_bytes (hx.below H2.below) (hy.below H2.below) bx by_).mono ?_ -- (.slice a_4_a a_4_l a_4_c), (.slice b_4_a b_4_l b_4_c)
          rintro _ w3 ⟨rfl, hb3⟩; have H3 := H2.pass hb3; clear H2
          refine ⟨_, rfl, ?_⟩
          exact ⟨retD (by simp [c, c1, c2, c3]), H3.below⟩ --! (.bool r)
        · exact ⟨retF (by simp [c]), H2.below⟩ --! (.bool false)
      · exact ⟨retF (by simp [c1]), H2.below⟩ --! (.bool false)
    · exact ⟨retF (by simp [c2]), H2.below⟩ --! (.bool false)
  · exact ⟨retF (by simp [c3]), H2.below⟩ --! (.bool false)
end
end Go.Proofs.Ytelkdacpehdllaa
