import Derived.Test.YtelkdacpehdllaaW18d
namespace Go.Proofs.Ytelkdacpehdllaa
open Go.Sx Go.RowKit

/-- what a function returns that makes two pieces, or an error -/
def RetPP (w : World) (p q : Pc) (er : Int) : Ending → World → Prop := fun e w' => ∃ a c a' c', p.data.length ≤ c ∧ q.data.length ≤ c' ∧
  e = .returned (.tuple #[.agg #[.int .i64 p.sn, .int .i64 p.part, .int .i64 p.poll, .int .i64 p.off, .slice a p.data.length c], .agg #[.int .i64 q.sn, .int .i64 q.part, .int .i64 q.poll, .int .i64 q.off, .slice a' q.data.length c'], .int .i64 er]) ∧
  Fresh w w' fun w => SlR (IntC .u8) 1 w a p.data ∧ SlR (IntC .u8) 1 w a' q.data
theorem RetPP.zero {w w' : World} (b : Below w.heap.size w w') (er : Int) :
    RetPP w .zero .zero er (.returned (.tuple #[.agg #[.int .i64 0, .int .i64 0, .int .i64 0, .int .i64 0, .slice none 0 0], .agg #[.int .i64 0, .int .i64 0, .int .i64 0, .int .i64 0, .slice none 0 0], .int .i64 er])) w' :=
  ⟨none, 0, none, 0, Nat.le_refl _, Nat.le_refl _, rfl, ((St.nil w).pass b).imp fun _ _ => ⟨.nil, .nil⟩⟩

section
variable {bits : Int} {p_0 : Int} {p_1 : Int} {p_2 : Int} {p_3 : Int} {p_4_a : Option Addr} {d : List Int} {p_4_c : Nat} {size : Int} {w : World}
theorem segment_Cut_ct (hs : SlR (IntC .u8) 1 w p_4_a d) (hl : d.length ≤ 140737488355000) (hcap : d.length ≤ p_4_c) (hsz : -9223372036854775808 ≤ size ∧ size ≤ 9223372036854775807) :
    Calls Try.prog N_segment_Cut #[(.int .i64 bits), (.agg #[.int .i64 p_0, .int .i64 p_1, .int .i64 p_2, .int .i64 p_3, .slice p_4_a d.length p_4_c]), (.int .i64 size)] w
      (RetPP w (cutP bits ⟨p_0, p_1, p_2, p_3, d⟩ size).1 (cutP bits ⟨p_0, p_1, p_2, p_3, d⟩ size).2.1 (cutP bits ⟨p_0, p_1, p_2, p_3, d⟩ size).2.2) := by
  apply F_segment_Cut_ok
  unfold F_segment_Cut
  have H := St.nil w
  have hh := headN_cases p_1
  refine H.alloc ?_; clear H; intro b w1 H1
  refine H1.alloc ?_; clear H1; intro b1 w2 H2
  refine H2.alloc ?_; clear H2; intro b2 w3 H3
  refine H3.ld (i := 0) rfl rfl ?_
  refine segment_head_ct.mono ?_ -- (.int .i64 p_1)
  rintro _ w4 ⟨rfl, hb4⟩; have H4 := H3.pass hb4; clear H3
  refine ⟨_, rfl, ?_⟩
  refine ⟨_, _, _, _, _, _, _, H4.cells (i := 0) rfl, ?_⟩
  refine (segment_Valid_ct (by omega)).mono ?_ -- (.int .i64 bits), (.agg #[.int .i64 p_0, .int .i64 p_1, .int .i64 p_2, .int .i64 p_3, .slice p_4_a p_4_l p_4_c])
  rintro _ w5 ⟨rfl, hb5⟩; have H5 := H4.pass hb5; clear H4
  refine ⟨_, rfl, ?_⟩
  refine bsplit_nd (fun c2 => ?_) (fun c2 => ?_) --  (!r1)
  · refine H5.store (i := 1) rfl (by rfl) (by rfl) ?_; clear H5; intro w6 H6
    refine H6.store (i := 2) rfl (by rfl) (by rfl) ?_; clear H6; intro w7 H7
    refine ⟨_, _, _, _, _, _, _, H7.cells (i := 1) rfl, ?_⟩
    refine ⟨_, _, _, _, _, _, _, H7.cells (i := 2) rfl, ?_⟩
    have e0 : cutP bits ⟨p_0, p_1, p_2, p_3, d⟩ size = (.zero, .zero, 1) := if_pos c2
    rw [e0]
    exact .zero H7.below _
  · refine kW_i64 (by omega) ?_ -- r + (1 : Int)
    refine kLet_in ?_
    refine bsplit_dec (fun c1 => ?_) (fun c1 => ?_) --  (decide (size < (r + (1 : Int))))
    · refine H5.store (i := 1) rfl (by rfl) (by rfl) ?_; clear H5; intro w8 H8
      refine H8.store (i := 2) rfl (by rfl) (by rfl) ?_; clear H8; intro w9 H9
      refine ⟨_, _, _, _, _, _, _, H9.cells (i := 1) rfl, ?_⟩
      refine ⟨_, _, _, _, _, _, _, H9.cells (i := 2) rfl, ?_⟩
      have e0 : cutP bits ⟨p_0, p_1, p_2, p_3, d⟩ size = (.zero, .zero, 15) := (if_neg (not_not_intro c2)).trans (if_pos c1)
      rw [e0]
      exact .zero H9.below _
    · refine ⟨_, _, _, _, _, _, _, H5.cells (i := 0) rfl, ?_⟩
      refine H5.store (i := 1) rfl (by rfl) (by rfl) ?_; clear H5; intro w10 H10
      refine H10.ldS (i := 0) rfl rfl ?_
      refine (clone_bytes (hs.below H10.below) (by omega)).mono ?_ -- (.slice p_4_a p_4_l p_4_c)
      rintro _ w11 ⟨r_a, r_c, rfl, K⟩; have H11 := H10.callR K; clear H10 K
      refine ⟨_, _, _, rfl, ?_⟩
      refine H11.set (i := 1) rfl (by simp) ?_; clear H11; intro w12 H12
      refine H12.ldS (i := 0) rfl rfl ?_
      refine kW_i64 (by omega) ?_ -- r + (p_4_l : Int)
      refine bsplit_dec (fun c => ?_) (fun c => ?_) --  (decide ((r + (p_4_l : Int)) ≤ size))
      · refine ⟨_, _, _, _, _, _, _, H12.cells (i := 1) rfl, ?_⟩
        refine H12.store (i := 1) rfl (by rfl) (by rfl) ?_; clear H12; intro w13 H13
        refine H13.store (i := 2) rfl (by rfl) (by rfl) ?_; clear H13; intro w14 H14
        refine ⟨_, _, _, _, _, _, _, H14.cells (i := 1) rfl, ?_⟩
        refine ⟨_, _, _, _, _, _, _, H14.cells (i := 2) rfl, ?_⟩
        have e0 : cutP bits ⟨p_0, p_1, p_2, p_3, d⟩ size = (⟨p_0, p_1, p_2, p_3, d⟩, .zero, 0) := (if_neg (not_not_intro c2)).trans ((if_neg c1).trans (if_pos c))
        rw [e0]
        exact ⟨r_a, r_c, none, 0, H14.capI (i := 3) rfl, Nat.le_refl _, rfl, ((H14.shareI (i := 3) rfl).fin).imp fun _ h => ⟨h.1, .nil⟩⟩
      · obtain ⟨k, hk⟩ : ∃ k, k = (size - (headN p_1 : Nat)).toNat := ⟨_, rfl⟩
        have e0 : cutP bits ⟨p_0, p_1, p_2, p_3, d⟩ size = (⟨p_0, partOf (begins p_1) false, p_2, p_3, d.take k⟩, ⟨p_0, partOf false (ends p_1), p_2, p_3 + (size - headN p_1), d.drop k⟩, 0) := by
          rw [hk]; exact (if_neg (not_not_intro c2)).trans ((if_neg c1).trans (if_neg c))
        rw [e0]
        have hoff := c2.2.2.2.2.2
        refine kW_i64 (by omega) ?_ -- size - r
        refine ⟨_, _, _, _, _, _, _, H12.cells (i := 0) rfl, ?_⟩
        refine H12.store (i := 2) rfl (by rfl) (by rfl) ?_; clear H12; intro w15 H15
        refine H15.drew ?_; clear H15; intro w16 H16
        refine ⟨fun x => x < w16.heap.size ∧ x ∉ [b2], ?_⟩
        have f16 := Fr.refl [b2] w16
        refine ⟨⟨H16.lt (i := 0) rfl rfl, nin1 (H16.ne (i := 0) (j := 2) rfl rfl (by decide) rfl rfl)⟩, ?_⟩
        refine H16.ld (i := 0) rfl rfl ?_
        refine kW_i64 (by omega) ?_ -- p_3 + (size - r)
        refine H16.ldS (i := 0) rfl rfl ?_
        refine ⟨⟨by omega, by omega⟩, ?_⟩ -- lo
        have hx : (d.drop k).length = d.length - (size - (headN p_1 : Nat)).toNat := by simp; omega
        rw [← hx, ← hk]
        refine (clone_bytes ((hs.below H16.below).tail hcap) (by omega)).mono ?_ -- (.slice (slAddr p_4_c ((size - r).toNat) 1 p_4_a) (p_4_l - (size - r).toNat) (p_4_c - (size - r).toNat))
        rintro _ w17 ⟨r_a1, r_c1, rfl, K⟩; have hb17 := K.below; have H17 := H16.callR K; clear K
        refine ⟨_, _, _, rfl, ?_⟩
        have f17 := f16.tr (hb17.fr []) (by simp)
        refine ⟨f17.keeps, ?_⟩
        refine H17.setF (i := 2) rfl (by simp) ?_; intro w18 g18 H18
        have f18 := f17.tr g18 (by simp)
        refine ⟨f18.keeps, ?_⟩
        refine H18.set (i := 2) rfl (by simp) ?_; intro w19 H19
        refine H19.ldS (i := 1) rfl rfl ?_
        have hrc := H19.capI (i := 3) rfl
        refine ⟨⟨by omega, by omega⟩, ?_⟩ -- max
        refine ⟨⟨by omega, by omega⟩, ?_⟩ -- hi
        refine H19.set (i := 1) rfl (by simp) ?_; clear H19; intro w20 H20
        refine H20.drew ?_; clear H20; intro w21 H21
        refine ⟨fun x => x < w21.heap.size ∧ x ∉ [b1], ?_⟩
        have f21 := Fr.refl [b1] w21
        refine H21.ld (i := 0) rfl rfl ?_
        refine ⟨⟨H21.lt (i := 0) rfl rfl, nin1 (H21.ne (i := 0) (j := 1) rfl rfl (by decide) rfl rfl)⟩, ?_⟩
        refine H21.ld (i := 0) rfl rfl ?_
        refine segment_begins_ct.mono ?_ -- (.int .i64 p_1)
        rintro _ w22 ⟨rfl, hb22⟩; have H22 := H21.pass hb22
        refine ⟨_, rfl, ?_⟩
        have f22 := f21.tr (hb22.fr []) (by simp)
        refine ⟨f22.keeps, ?_⟩
        refine segment_Part_ct.mono ?_ -- (.bool r2), (.bool false)
        rintro _ w23 ⟨rfl, hb23⟩; have H23 := H22.pass hb23
        refine ⟨_, rfl, ?_⟩
        have f23 := f22.tr (hb23.fr []) (by simp)
        refine ⟨f23.keeps, ?_⟩
        refine segment_Ends_ct.mono ?_ -- (.int .i64 p_1)
        rintro _ w24 ⟨rfl, hb24⟩; have H24 := H23.pass hb24
        refine ⟨_, rfl, ?_⟩
        have f24 := f23.tr (hb24.fr []) (by simp)
        refine ⟨f24.keeps, ?_⟩
        refine segment_Part_ct.mono ?_ -- (.bool false), (.bool r4)
        rintro _ w25 ⟨rfl, hb25⟩; have H25 := H24.pass hb25
        refine ⟨_, rfl, ?_⟩
        have f25 := f24.tr (hb25.fr []) (by simp)
        refine ⟨f25.keeps, ?_⟩
        refine H25.setF (i := 1) rfl (by simp) ?_; intro w26 g26 H26
        have f26 := f25.tr g26 (by simp)
        refine ⟨f26.keeps, ?_⟩
        refine H26.set (i := 2) rfl (by simp) ?_; intro w27 H27
        simp only [List.cons_append, List.nil_append, List.set_cons_zero, List.set_cons_succ] at H27
        refine H27.drew ?_; clear H27; intro w28 H28
        refine ⟨fun _ => True, ?_⟩
        have k28 := KeepsB.refl (fun _ => True) w28
        refine ⟨_, _, _, _, _, _, _, H28.cells (i := 1) rfl, ?_⟩
        refine ⟨trivial, ?_⟩
        refine ⟨_, _, _, _, _, _, _, H28.cells (i := 2) rfl, ?_⟩
        refine H28.storeK (i := 1) rfl rfl ?_; intro w29 k29 H29
        replace k29 := keepT k28 k29
        refine ⟨k29, ?_⟩
        refine H29.storeK (i := 2) rfl rfl ?_; intro w30 k30 H30
        replace k30 := keepT k29 k30
        refine ⟨k30, ?_⟩
        refine ⟨_, _, _, _, _, _, _, H30.cells (i := 1) rfl, ?_⟩
        refine ⟨_, _, _, _, _, _, _, H30.cells (i := 2) rfl, ?_⟩
        have hc1 := H30.capI (i := 4) rfl
        have H30 := H30.shareI (i := 3) rfl
        have H30 := H30.shareI (i := 4) rfl
        have el : k - 0 = (d.take k).length := by simp; omega
        refine ⟨slAddr k 0 1 r_a, k - 0, r_a1, r_c1, by rw [el]; exact Nat.le_refl _, hc1, ?_, H30.fin.imp fun _ h => ⟨h.2.1.pre _ _, h.1⟩⟩
        rw [← el]
theorem ref18_Cut_ct (hs : SlR (IntC .u8) 1 w p_4_a d) (hl : d.length ≤ 140737488355000) (hcap : d.length ≤ p_4_c) (hsz : -9223372036854775808 ≤ size ∧ size ≤ 9223372036854775807) :
    Calls Try.prog N_ref18_Cut #[(.int .i64 bits), (.agg #[.int .i64 p_0, .int .i64 p_1, .int .i64 p_2, .int .i64 p_3, .slice p_4_a d.length p_4_c]), (.int .i64 size)] w
      (RetPP w (cutP bits ⟨p_0, p_1, p_2, p_3, d⟩ size).1 (cutP bits ⟨p_0, p_1, p_2, p_3, d⟩ size).2.1 (cutP bits ⟨p_0, p_1, p_2, p_3, d⟩ size).2.2) := by
  apply F_ref18_Cut_ok
  unfold F_ref18_Cut
  have H := St.nil w
  have hh := headN_cases p_1
  refine H.alloc ?_; clear H; intro b w1 H1
  refine H1.alloc ?_; clear H1; intro b1 w2 H2
  refine H2.alloc ?_; clear H2; intro b2 w3 H3
  refine ⟨_, _, _, _, _, _, _, H3.cells (i := 0) rfl, ?_⟩
  refine (ref18_Valid_ct (by omega)).mono ?_ -- (.int .i64 bits), (.agg #[.int .i64 p_0, .int .i64 p_1, .int .i64 p_2, .int .i64 p_3, .slice p_4_a p_4_l p_4_c])
  rintro _ w4 ⟨rfl, hb4⟩; have H4 := H3.pass hb4; clear H3
  refine ⟨_, rfl, ?_⟩
  refine bsplit_nd (fun c5 => ?_) (fun c5 => ?_) --  (!r)
  · refine H4.store (i := 1) rfl (by rfl) (by rfl) ?_; clear H4; intro w5 H5
    refine H5.store (i := 2) rfl (by rfl) (by rfl) ?_; clear H5; intro w6 H6
    refine ⟨_, _, _, _, _, _, _, H6.cells (i := 1) rfl, ?_⟩
    refine ⟨_, _, _, _, _, _, _, H6.cells (i := 2) rfl, ?_⟩
    have e0 : cutP bits ⟨p_0, p_1, p_2, p_3, d⟩ size = (.zero, .zero, 1) := if_pos c5
    rw [e0]
    exact .zero H6.below _
  · refine H4.ld (i := 0) rfl rfl ?_
    refine ref18_Head_ct.mono ?_ -- (.int .i64 p_1)
    rintro _ w7 ⟨rfl, hb7⟩; have H7 := H4.pass hb7; clear H4
    refine ⟨_, rfl, ?_⟩
    refine kW_i64 (by omega) ?_ -- r1 + (1 : Int)
    refine bsplit_dec (fun c4 => ?_) (fun c4 => ?_) --  (decide (size < (r1 + (1 : Int))))
    · refine H7.store (i := 1) rfl (by rfl) (by rfl) ?_; clear H7; intro w8 H8
      refine H8.store (i := 2) rfl (by rfl) (by rfl) ?_; clear H8; intro w9 H9
      refine ⟨_, _, _, _, _, _, _, H9.cells (i := 1) rfl, ?_⟩
      refine ⟨_, _, _, _, _, _, _, H9.cells (i := 2) rfl, ?_⟩
      have e0 : cutP bits ⟨p_0, p_1, p_2, p_3, d⟩ size = (.zero, .zero, 15) := (if_neg (not_not_intro c5)).trans (if_pos c4)
      rw [e0]
      exact .zero H9.below _
    · refine H7.ldS (i := 0) rfl rfl ?_
      refine kW_i64 (by omega) ?_ -- r1 + (p_4_l : Int)
      refine bsplit_dec (fun c3 => ?_) (fun c3 => ?_) --  (decide (size ≥ (r1 + (p_4_l : Int))))
      · refine H7.ldS (i := 0) rfl rfl ?_
        have H7 := H7.nilI Ty_uint8 .u8
        refine H7.appI (i := 3) rfl sl_Ty_S_uint8 (hs.below H7.below) (by simp; omega) (by simp; omega) ?_; intro x_a2 x_c2 w10 H10 --! append (.slice none 0 0) (.slice p_4_a p_4_l p_4_c)
        rw [List.nil_append] at H10 ⊢
        refine H10.set (i := 0) rfl (by simp) ?_; clear H10; intro w11 H11
        refine ⟨_, _, _, _, _, _, _, H11.cells (i := 0) rfl, ?_⟩
        refine H11.store (i := 1) rfl (by rfl) (by rfl) ?_; clear H11; intro w12 H12
        refine H12.store (i := 2) rfl (by rfl) (by rfl) ?_; clear H12; intro w13 H13
        refine ⟨_, _, _, _, _, _, _, H13.cells (i := 1) rfl, ?_⟩
        refine ⟨_, _, _, _, _, _, _, H13.cells (i := 2) rfl, ?_⟩
        have e0 : cutP bits ⟨p_0, p_1, p_2, p_3, d⟩ size = (⟨p_0, p_1, p_2, p_3, d⟩, .zero, 0) := (if_neg (not_not_intro c5)).trans ((if_neg c4).trans (if_pos c3))
        rw [e0]
        exact ⟨x_a2, x_c2, none, 0, H13.capI (i := 3) rfl, Nat.le_refl _, rfl, ((H13.shareI (i := 3) rfl).fin).imp fun _ h => ⟨h.1, .nil⟩⟩
      · obtain ⟨k, hk⟩ : ∃ k, k = (size - (headN p_1 : Nat)).toNat := ⟨_, rfl⟩
        have e0 : cutP bits ⟨p_0, p_1, p_2, p_3, d⟩ size = (⟨p_0, partOf (begins p_1) false, p_2, p_3, d.take k⟩, ⟨p_0, partOf false (ends p_1), p_2, p_3 + (size - headN p_1), d.drop k⟩, 0) := by
          rw [hk]; exact (if_neg (not_not_intro c5)).trans ((if_neg c4).trans (if_neg c3))
        rw [e0]
        have hoff := c5.2.2.2.2.2
        refine kW_i64 (by omega) ?_ -- size - r1
        refine ⟨fun first rest w23 => ∃ b3 b4, first = ⟨b3, 0, none⟩ ∧ rest = ⟨b4, 0, none⟩ ∧ St (fun _ => False) [] w w23 [.blk b Ty_api_Piece [(.int .i64 p_0), (.int .i64 p_1), (.int .i64 p_2), (.int .i64 p_3), (.slice p_4_a d.length p_4_c)], .blk b1 Ty_api_Piece [(.int .i64 (0 : Int)), (.int .i64 (0 : Int)), (.int .i64 (0 : Int)), (.int .i64 (0 : Int)), (.slice none 0 0)], .blk b2 Ty_api_Piece [(.int .i64 (0 : Int)), (.int .i64 (0 : Int)), (.int .i64 (0 : Int)), (.int .i64 (0 : Int)), (.slice none 0 0)],
            .blk b3 Ty_api_Piece [(.int .i64 p_0), (.int .i64 p_1), (.int .i64 p_2), (.int .i64 p_3), (.slice p_4_a d.length p_4_c)], .blk b4 Ty_api_Piece [(.int .i64 p_0), (.int .i64 p_1), (.int .i64 p_2), (.int .i64 p_3), (.slice p_4_a d.length p_4_c)]] (fun _ => True), ?_, ?_⟩
        · rintro _ _ _ w23 ⟨b3, b4, rfl, rfl, H23⟩
          refine H23.ldS (i := 0) rfl rfl ?_
          refine ⟨⟨by omega, by omega⟩, ?_⟩ -- hi
          have hx1 : (d.take k).length = (size - (headN p_1 : Nat)).toNat - 0 := by simp; omega
          rw [← hx1]
          have H23 := H23.nilI Ty_uint8 .u8
          refine H23.appI (i := 5) rfl sl_Ty_S_uint8 ((hs.below H23.below).pre _ _) (by simp; omega) (by simp; omega) ?_; intro x_a4 x_c4 w24 H24 --! append (.slice none 0 0) (.slice (slAddr p_4_c 0 1 p_4_a) ((size - r1).toNat - 0) (p_4_c - 0))
          rw [List.nil_append] at H24 ⊢
          refine H24.set (i := 3) rfl (by simp) ?_; clear H24; intro w25 H25
          refine H25.ldS (i := 0) rfl rfl ?_
          refine ⟨⟨by omega, by omega⟩, ?_⟩ -- lo
          have hx2 : (d.drop k).length = d.length - (size - (headN p_1 : Nat)).toNat := by simp; omega
          rw [← hx2, ← hk]
          have H25 := H25.nilI Ty_uint8 .u8
          refine H25.appI (i := 6) rfl sl_Ty_S_uint8 ((hs.below H25.below).tail hcap) (by simp; omega) (by simp; omega) ?_; intro x_a6 x_c6 w26 H26 --! append (.slice none 0 0) (.slice (slAddr p_4_c ((size - r1).toNat) 1 p_4_a) (p_4_l - (size - r1).toNat) (p_4_c - (size - r1).toNat))
          rw [List.nil_append] at H26 ⊢
          refine H26.set (i := 4) rfl (by simp) ?_; clear H26; intro w27 H27
          refine H27.ld (i := 0) rfl rfl ?_
          refine kW_i64 (by omega) ?_ -- p_3 + (size - r1)
          refine H27.set (i := 4) rfl (by simp) ?_; clear H27; intro w28 H28
          refine ⟨fun  w33 => St (fun _ => False) [] w w33 [.blk b Ty_api_Piece [(.int .i64 p_0), (.int .i64 p_1), (.int .i64 p_2), (.int .i64 p_3), (.slice p_4_a d.length p_4_c)], .blk b1 Ty_api_Piece [(.int .i64 (0 : Int)), (.int .i64 (0 : Int)), (.int .i64 (0 : Int)), (.int .i64 (0 : Int)), (.slice none 0 0)], .blk b2 Ty_api_Piece [(.int .i64 (0 : Int)), (.int .i64 (0 : Int)), (.int .i64 (0 : Int)), (.int .i64 (0 : Int)), (.slice none 0 0)],
            .blk b3 Ty_api_Piece [(.int .i64 p_0), (.int .i64 (partOf (begins p_1) false)), (.int .i64 p_2), (.int .i64 p_3), (.slice x_a4 (d.take k).length x_c4)], .blk b4 Ty_api_Piece [(.int .i64 p_0), (.int .i64 (partOf false (ends p_1))), (.int .i64 p_2), (.int .i64 (p_3 + (size - (headN p_1 : Nat)))), (.slice x_a6 (d.drop k).length x_c6)], .ints Ty_uint8 .u8 x_a4 x_c4 (d.take k), .ints Ty_uint8 .u8 x_a6 x_c6 (d.drop k)] (fun _ => True), ?_, ?_⟩
          · rintro _  w33 H33
            refine H33.drew ?_; clear H33; intro w34 H34
            refine ⟨fun x => x < w34.heap.size ∧ x ∉ [b1, b2], ?_⟩
            have f34 := Fr.refl [b1, b2] w34
            refine ⟨_, _, _, _, _, _, _, H34.cells (i := 3) rfl, ?_⟩ --! load first : ('agg', [('int', 'i64'), ('int', 'i64'), ('int', 'i64'), ('int', 'i64'), ('slice',)]) as [('x_04', 'Int'), ('x_14', 'Int'), ('x_24', 'Int'), ('x_34', 'Int'), ('x_4_a4', 'Option Addr'), ('x_4_l4', 'Nat'), ('x_4_c4', 'Nat')]
            refine ⟨⟨H34.lt (i := 4) rfl rfl, nin2 (H34.ne (i := 4) (j := 1) rfl rfl (by decide) rfl rfl) (H34.ne (i := 4) (j := 2) rfl rfl (by decide) rfl rfl)⟩, ?_⟩ --!
            refine ⟨_, _, _, _, _, _, _, H34.cells (i := 4) rfl, ?_⟩ --! load rest : ('agg', [('int', 'i64'), ('int', 'i64'), ('int', 'i64'), ('int', 'i64'), ('slice',)]) as [('x_05', 'Int'), ('x_15', 'Int'), ('x_25', 'Int'), ('x_35', 'Int'), ('x_4_a5', 'Option Addr'), ('x_4_l5', 'Nat'), ('x_4_c5', 'Nat')]
            refine H34.storeF (i := 1) rfl (by rfl) (by rfl) ?_; intro w35 g35 H35
            have f35 := f34.tr g35 (by simp)
            refine ⟨f35.keeps, ?_⟩
            refine H35.storeF (i := 2) rfl (by rfl) (by rfl) ?_; intro w36 g36 H36
            have f36 := f35.tr g36 (by simp)
            refine ⟨f36.keeps, ?_⟩
            refine ⟨_, _, _, _, _, _, _, H36.cells (i := 1) rfl, ?_⟩
            refine ⟨_, _, _, _, _, _, _, H36.cells (i := 2) rfl, ?_⟩
            have k1 := H36.capI (i := 5) rfl
            have k2 := H36.capI (i := 6) rfl
            have H36 := H36.shareI (i := 5) rfl
            have H36 := H36.shareI (i := 6) rfl
            exact ⟨x_a4, x_c4, x_a6, x_c6, k1, k2, rfl, H36.fin.imp fun _ h => ⟨h.2.1, h.1⟩⟩
          · refine H28.ld (i := 0) rfl rfl ?_
            refine kLet_in ?_
            refine bsplit_dec (fun c2 => ?_) (fun c2 => ?_) --  (decide (p_1 = (0 : Int)))
            · refine H28.set (i := 3) rfl (by simp) ?_; clear H28; intro w29 H29
              refine H29.set (i := 4) rfl (by simp) ?_; clear H29; intro w30 H30
              subst c2; exact H30 --! J1 
            · refine kLet_in ?_
              refine bsplit_dec (fun c1 => ?_) (fun c1 => ?_) --  (decide (p_1 = (1 : Int)))
              · refine H28.set (i := 4) rfl (by simp) ?_; clear H28; intro w31 H31
                subst c1; exact H31 --! J1 
              · refine kLet_in ?_
                refine bsplit_dec (fun c => ?_) (fun c => ?_) --  (decide (p_1 = (2 : Int)))
                · refine H28.set (i := 3) rfl (by simp) ?_; clear H28; intro w32 H32
                  subst c; exact H32 --! J1 
                · have c3 : p_1 = 3 := by have := c5.2.2.1; omega
                  subst c3; exact H28 --! J1 
        · refine H7.drew ?_; clear H7; intro w14 H14
          refine ⟨(· < w14.heap.size), ?_⟩
          refine ⟨H14.lt (i := 0) rfl rfl, ?_⟩
          refine ⟨_, _, _, _, _, _, _, H14.cells (i := 0) rfl, ?_⟩
          refine ⟨H14.lt (i := 0) rfl rfl, ?_⟩
          refine ⟨_, _, _, _, _, _, _, H14.cells (i := 0) rfl, ?_⟩
          refine ⟨?_, ?_, trivial⟩ --! fork
          · refine H14.allocN ?_; intro b3 w15 hN3 hb15 H15
            refine ⟨hb15.keeps, ?_⟩
            refine H15.allocN ?_; intro b4 w16 hN4 hb16 H16
            have hb16 := below_step hb15 (Nat.le_refl _) hb16
            refine ⟨hb16.keeps, ?_⟩
            refine H16.storeF (i := 3) rfl (by rfl) (by rfl) ?_; intro w17 g17 H17
            have hb17 := hb16.frs g17 (by simp [hN3]) hb16.size
            refine ⟨hb17.keeps, ?_⟩
            refine H17.store (i := 4) rfl (by rfl) (by rfl) ?_; intro w18 H18
            exact ⟨b3, b4, rfl, rfl, H18⟩ --! J ⟨b3, 0, none⟩ ⟨b4, 0, none⟩
          · refine H14.allocN ?_; intro b5 w19 hN5 hb19 H19
            refine ⟨hb19.keeps, ?_⟩
            refine H19.allocN ?_; intro b6 w20 hN6 hb20 H20
            have hb20' := below_step hb19 (Nat.le_refl _) hb20
            refine ⟨hb20'.keeps, ?_⟩
            refine H20.storeF (i := 4) rfl (by rfl) (by rfl) ?_; intro w21 g21 H21
            have hb21 := hb20'.frs g21 (by have := hb19.size; simp [hN6]; omega) hb20'.size
            refine ⟨hb21.keeps, ?_⟩
            refine H21.store (i := 3) rfl (by rfl) (by rfl) ?_; intro w22 H22
            refine ⟨b6, b5, rfl, rfl, ?_⟩ --! J ⟨b6, 0, none⟩ ⟨b5, 0, none⟩
            refine H22.sub (fun i => [0, 1, 2, 4, 3].getD i 0) ?_ (by intro i j hi hj; simp only [List.length_cons, List.length_nil] at hi hj; rcases i with _ | _ | _ | _ | _ | i <;> rcases j with _ | _ | _ | _ | _ | j <;> simp <;> omega)
            rintro (_ | _ | _ | _ | _ | _) r h <;> first | exact h | cases h
end
end Go.Proofs.Ytelkdacpehdllaa
