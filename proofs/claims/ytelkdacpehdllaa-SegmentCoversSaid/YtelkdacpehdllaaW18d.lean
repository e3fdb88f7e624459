import Derived.Test.YtelkdacpehdllaaW18c
namespace Go.Proofs.Ytelkdacpehdllaa
open Go.Sx Go.RowKit

/-- what a function returns that makes a piece, or an error -/
def RetP (w : World) (p : Pc) (er : Int) : Ending → World → Prop := fun e w' => ∃ a c, p.data.length ≤ c ∧
  e = .returned (.tuple #[.agg #[.int .i64 p.sn, .int .i64 p.part, .int .i64 p.poll, .int .i64 p.off, .slice a p.data.length c], .int .i64 er]) ∧ Fresh w w' fun w => SlR (IntC .u8) 1 w a p.data
theorem RetP.zero {w w' : World} (b : Below w.heap.size w w') (er : Int) :
    RetP w .zero er (.returned (.tuple #[.agg #[.int .i64 0, .int .i64 0, .int .i64 0, .int .i64 0, .slice none 0 0], .int .i64 er])) w' :=
  ⟨none, 0, Nat.le_refl _, rfl, ((St.nil w).pass b).imp fun _ _ => .nil⟩
theorem headN_cases (part : Int) : ((part = 0 ∨ part = 1) ∧ headN part = 2) ∨ (¬ (part = 0 ∨ part = 1) ∧ headN part = 4) := by
  unfold headN
  by_cases h : part = 0 ∨ part = 1
  · exact .inl ⟨h, if_pos h⟩
  · exact .inr ⟨h, if_neg h⟩

section
variable {bits : Int} {b_a : Option Addr} {bs : List Int} {b_c : Nat} {w : World}
theorem segment_Decode_ct (hs : SlR (IntC .u8) 1 w b_a bs) (hB : Bytes bs) (hl : bs.length ≤ 140737488355328) (hcap : bs.length ≤ b_c) :
    Calls Try.prog N_segment_Decode #[(.int .i64 bits), (.slice b_a bs.length b_c)] w (RetP w (decP bits bs).1 (decP bits bs).2) := by
  apply F_segment_Decode_ok
  unfold F_segment_Decode
  have H := St.nil w
  refine H.alloc ?_; clear H; intro b w1 H1
  refine counter_Bits_ct.mono ?_ -- (.int .i64 bits)
  rintro _ w2 ⟨rfl, hb2⟩; have H2 := H1.pass hb2; clear H1
  refine ⟨_, rfl, ?_⟩
  refine bsplit_nd (fun c5 => ?_) (fun c5 => ?_) --  (!r)
  · refine H2.store (i := 0) rfl (by rfl) (by rfl) ?_; clear H2; intro w3 H3
    refine ⟨_, _, _, _, _, _, _, H3.cells (i := 0) rfl, ?_⟩
    have e0 : decP bits bs = (.zero, 3) := by unfold decP; rw [if_pos c5]
    rw [e0]
    exact .zero H3.below _
  · refine kLet_in ?_
    refine bsplit_dec (fun c4 => ?_) (fun c4 => ?_) --  (decide ((b_l : Int) < (2 : Int)))
    · refine H2.store (i := 0) rfl (by rfl) (by rfl) ?_; clear H2; intro w4 H4
      refine ⟨_, _, _, _, _, _, _, H4.cells (i := 0) rfl, ?_⟩
      have e0 : decP bits bs = (.zero, 5) := by unfold decP; rw [if_neg (by simpa using c5), if_pos (by omega)]
      rw [e0]
      exact .zero H4.below _
    · refine H2.drew ?_; clear H2; intro w5 H5
      have b0 := bytes_getD hB 0
      have b1 := bytes_getD hB 1
      refine ix_u8 (hs.below H5.below) 0 rfl (by omega) fun p0 hp0 => ?_
      refine hp0 _ ?_
      refine kW_i64 (by omega) ?_ -- x1
      refine kW_i64 (by omega) ?_ -- x1 * 2 ^ 8
      refine ix_u8 (hs.below H5.below) 1 rfl (by omega) fun p1 hp1 => ?_
      refine hp1 _ ?_
      refine kW_i64 (by omega) ?_ -- x4
      obtain ⟨f, hf⟩ : ∃ f, f = 256 * bs.getD 0 0 + bs.getD 1 0 := ⟨_, rfl⟩
      refine kLet_to (y := f) (by rw [bOr_i64 8 (bs.getD 0 0) (by omega) (by omega) (by omega) (by omega)]; omega) ?_ --! bOr .i64 (x1 * 2 ^ 8) x4
      refine kFdiv ?_
      refine kLet_to (y := f / 16384 % 2) (by rw [bAnd_i64 (m := 1) 1 (by omega) (by decide) (by decide)]; omega) ?_
      refine kFdiv ?_
      refine kLet_to (y := f / 4096 % 4) (by rw [bAnd_i64 (m := 3) 2 (by omega) (by decide) (by decide)]; omega) ?_
      refine kLet_to (y := f % 4096) (by rw [bAnd_i64 (m := 4095) 12 (by omega) (by decide) (by decide)]; omega) ?_
      have hraw : rawP bs = ⟨f % 4096, f / 4096 % 4, f / 16384 % 2, if f / 4096 % 4 = 0 ∨ f / 4096 % 4 = 1 then 0 else 256 * bs.getD 2 0 + bs.getD 3 0, bs.drop (headN (f / 4096 % 4))⟩ := by rw [hf]; rfl
      have hpart : (rawP bs).part = f / 4096 % 4 := by rw [hraw]
      refine H5.alloc ?_; clear H5; intro b3 w6 H6
      refine H6.store (i := 1) rfl (by rfl) (by rfl) ?_; clear H6; intro w7 H7
      refine H7.ld (i := 1) rfl rfl ?_
      refine segment_head_ct.mono ?_ -- (.int .i64 x10)
      rintro _ w8 ⟨rfl, hb8⟩; have H8 := H7.pass hb8; clear H7
      refine ⟨_, rfl, ?_⟩
      refine bsplit_dec (fun c3 => ?_) (fun c3 => ?_) --  (decide ((b_l : Int) ≤ r1))
      · refine H8.store (i := 0) rfl (by rfl) (by rfl) ?_; clear H8; intro w9 H9
        refine ⟨_, _, _, _, _, _, _, H9.cells (i := 0) rfl, ?_⟩
        have e0 : decP bits bs = (.zero, 5) := by unfold decP; rw [if_neg (by simpa using c5), if_neg (by omega), if_pos (by rw [hpart]; omega)]
        rw [e0]
        exact .zero H9.below _
      · have hh := headN_cases (f / 4096 % 4)
        have dec : decP bits bs = if bs.getD 0 0 < 128 ∨ ¬ (rawP bs).ok bits then (.zero, 4) else (rawP bs, 0) := by
          unfold decP; rw [if_neg (by simpa using c5), if_neg (by omega), if_neg (by rw [hpart]; omega)]
        refine ⟨fun w12 => St (fun _ => False) [] w w12 [.blk b Ty_api_Piece [(.int .i64 (0 : Int)), (.int .i64 (0 : Int)), (.int .i64 (0 : Int)), (.int .i64 (0 : Int)), (.slice none 0 0)], .blk b3 Ty_api_Piece [(.int .i64 (f % 4096)), (.int .i64 (f / 4096 % 4)), (.int .i64 (f / 16384 % 2)), .int .i64 (rawP bs).off, .slice none 0 0]] (fun _ => True), ?_, ?_⟩ --!
        · rintro _  w12 H12
          refine ⟨⟨by omega, by omega⟩, ?_⟩ -- lo
          have hx : ((rawP bs).data).length = bs.length - ((headN (f / 4096 % 4) : Nat) : Int).toNat := by rw [hraw]; simp
          have hs12 : SlR (IntC .u8) 1 w12 (slAddr b_c ((headN (f / 4096 % 4) : Nat) : Int).toNat 1 b_a) (rawP bs).data := by
            rw [hraw]
            exact (hs.below H12.below).tail hcap
          rw [← hx]
          refine (clone_bytes hs12 (by omega)).mono ?_ -- (.slice (slAddr b_c (r1.toNat) 1 b_a) (b_l - r1.toNat) (b_c - r1.toNat))
          rintro _ w13 ⟨r_a, r_c, rfl, K⟩; have H13 := H12.callR K; clear H12 K
          refine ⟨_, _, _, rfl, ?_⟩
          refine H13.set (i := 1) rfl (by simp) ?_; clear H13; intro w14 H14
          refine kFdiv ?_
          refine bsplit_dec (fun c2 => ?_) (fun c2 => ?_) --  (decide ((x6 / 2 ^ 15) = (0 : Int)))
          · refine H14.store (i := 0) rfl (by rfl) (by rfl) ?_; clear H14; intro w15 H15
            refine ⟨_, _, _, _, _, _, _, H15.cells (i := 0) rfl, ?_⟩
            rw [dec, if_pos (.inl (by omega))]
            exact .zero H15.below _
          · refine ⟨_, _, _, _, _, _, _, H14.cells (i := 1) rfl, ?_⟩
            refine (segment_Valid_ct (by omega)).mono ?_ -- (.int .i64 bits), (.agg #[.int .i64 x11, .int .i64 x10, .int .i64 x8, .int .i64 (0 : Int), .slice r_a r_l r_c])
            rintro _ w16 ⟨rfl, hb16⟩; have H16 := H14.pass hb16; clear H14
            refine ⟨_, rfl, ?_⟩
            have hok : (rawP bs).ok bits ↔ pOk bits (f % 4096) (f / 4096 % 4) (f / 16384 % 2) (rawP bs).off (rawP bs).data.length := by
              unfold Pc.ok; rw [show (rawP bs).sn = f % 4096 by rw [hraw], hpart, show (rawP bs).poll = f / 16384 % 2 by rw [hraw]]
            refine bsplit_nd (fun c1 => ?_) (fun c1 => ?_) --  (!r2)
            · refine H16.store (i := 0) rfl (by rfl) (by rfl) ?_; clear H16; intro w17 H17
              refine ⟨_, _, _, _, _, _, _, H17.cells (i := 0) rfl, ?_⟩
              rw [dec, if_pos (.inr (by rw [hok]; exact c1))]
              exact .zero H17.below _
            · refine ⟨_, _, _, _, _, _, _, H16.cells (i := 1) rfl, ?_⟩
              refine H16.store (i := 0) rfl (by rfl) (by rfl) ?_; clear H16; intro w18 H18
              refine ⟨_, _, _, _, _, _, _, H18.cells (i := 0) rfl, ?_⟩
              rw [dec, if_neg (by rw [hok]; simp only [not_or, Decidable.not_not]; exact ⟨by omega, c1⟩)]
              refine ⟨r_a, r_c, H18.capI (i := 2) rfl, ?_, ((H18.shareI (i := 2) rfl).fin).imp fun _ h => h.1⟩
              rw [show (rawP bs).sn = f % 4096 by rw [hraw], hpart, show (rawP bs).poll = f / 16384 % 2 by rw [hraw]]
        · refine bsplit_dec (fun c => ?_) (fun c => ?_) --  (decide (r1 = (4 : Int)))
          · refine H8.drew ?_; clear H8; intro w10 H10
            have b2 := bytes_getD hB 2
            have b3 := bytes_getD hB 3
            refine ix_u8 (hs.below H10.below) 2 rfl (by omega) fun p2 hp2 => ?_
            refine hp2 _ ?_
            refine kW_i64 (by omega) ?_ -- x13
            refine kW_i64 (by omega) ?_ -- x13 * 2 ^ 8
            refine ix_u8 (hs.below H10.below) 3 rfl (by omega) fun p3 hp3 => ?_
            refine hp3 _ ?_
            refine kW_i64 (by omega) ?_ -- x16
            refine kLet_to (y := (rawP bs).off) (by rw [bOr_i64 8 (bs.getD 2 0) (by omega) (by omega) (by omega) (by omega), hraw]; simp only; rw [if_neg (by omega)]; omega) ?_
            refine H10.set (i := 1) rfl (by simp) ?_; intro w11 H11
            exact H11 --! J 
          · have e : (rawP bs).off = 0 := by rw [hraw]; simp only; rw [if_pos (by omega)]
            rw [e]; exact H8 --! J 
theorem ref18_Decode_ct (hs : SlR (IntC .u8) 1 w b_a bs) (hB : Bytes bs) (hl : bs.length ≤ 140737488355328) (hcap : bs.length ≤ b_c) :
    Calls Try.prog N_ref18_Decode #[(.int .i64 bits), (.slice b_a bs.length b_c)] w (RetP w (decP bits bs).1 (decP bits bs).2) := by
  apply F_ref18_Decode_ok
  unfold F_ref18_Decode
  have H := St.nil w
  refine H.alloc ?_; clear H; intro b w1 H1
  refine ref15_Bits_ct.mono ?_ -- (.int .i64 bits)
  rintro _ w2 ⟨rfl, hb2⟩; have H2 := H1.pass hb2; clear H1
  refine ⟨_, rfl, ?_⟩
  refine bsplit_nd (fun c5 => ?_) (fun c5 => ?_) --  (!r)
  · refine H2.store (i := 0) rfl (by rfl) (by rfl) ?_; clear H2; intro w3 H3
    refine ⟨_, _, _, _, _, _, _, H3.cells (i := 0) rfl, ?_⟩
    have e0 : decP bits bs = (.zero, 3) := by unfold decP; rw [if_pos c5]
    rw [e0]
    exact .zero H3.below _
  · refine bsplit_dec (fun c4 => ?_) (fun c4 => ?_) --  (decide ((b_l : Int) < (2 : Int)))
    · refine H2.store (i := 0) rfl (by rfl) (by rfl) ?_; clear H2; intro w4 H4
      refine ⟨_, _, _, _, _, _, _, H4.cells (i := 0) rfl, ?_⟩
      have e0 : decP bits bs = (.zero, 5) := by unfold decP; rw [if_neg (by simpa using c5), if_pos (by omega)]
      rw [e0]
      exact .zero H4.below _
    · refine (get_ok (at1 := 0) (bytes := 2) (hs.below H2.below) hB (by omega) (by omega) (by omega)).mono ?_ -- (.slice b_a b_l b_c), (.int .i64 (0 : Int)), (.int .i64 (2 : Int))
      rintro _ w5 ⟨rfl, hb5⟩; have H5 := H2.pass hb5; clear H2
      refine ⟨_, rfl, ?_⟩
      have b0 := bytes_getD hB 0
      have b1 := bytes_getD hB 1
      obtain ⟨f, hf⟩ : ∃ f, f = 256 * bs.getD 0 0 + bs.getD 1 0 := ⟨_, rfl⟩
      have eg : getN bs 0 2 = f := by rw [hf]; simp [getN]
      rw [eg]
      refine kFdiv ?_
      refine kLet_to (y := f / 16384 % 2) (by rw [bAnd_i64 (m := 1) 1 (by omega) (by decide) (by decide)]; omega) ?_
      refine kFdiv ?_
      refine kLet_to (y := f / 4096 % 4) (by rw [bAnd_i64 (m := 3) 2 (by omega) (by decide) (by decide)]; omega) ?_
      refine kLet_to (y := f % 4096) (by rw [bAnd_i64 (m := 4095) 12 (by omega) (by decide) (by decide)]; omega) ?_
      have hraw : rawP bs = ⟨f % 4096, f / 4096 % 4, f / 16384 % 2, if f / 4096 % 4 = 0 ∨ f / 4096 % 4 = 1 then 0 else 256 * bs.getD 2 0 + bs.getD 3 0, bs.drop (headN (f / 4096 % 4))⟩ := by rw [hf]; rfl
      have hpart : (rawP bs).part = f / 4096 % 4 := by rw [hraw]
      refine H5.alloc ?_; clear H5; intro b1 w6 H6
      refine H6.store (i := 1) rfl (by rfl) (by rfl) ?_; clear H6; intro w7 H7
      refine H7.ld (i := 1) rfl rfl ?_
      refine ref18_Head_ct.mono ?_ -- (.int .i64 x3)
      rintro _ w8 ⟨rfl, hb8⟩; have H8 := H7.pass hb8; clear H7
      refine ⟨_, rfl, ?_⟩
      refine bsplit_dec (fun c3 => ?_) (fun c3 => ?_) --  (decide ((b_l : Int) ≤ r2))
      · refine H8.store (i := 0) rfl (by rfl) (by rfl) ?_; clear H8; intro w9 H9
        refine ⟨_, _, _, _, _, _, _, H9.cells (i := 0) rfl, ?_⟩
        have e0 : decP bits bs = (.zero, 5) := by unfold decP; rw [if_neg (by simpa using c5), if_neg (by omega), if_pos (by rw [hpart]; omega)]
        rw [e0]
        exact .zero H9.below _
      · have hh := headN_cases (f / 4096 % 4)
        have dec : decP bits bs = if bs.getD 0 0 < 128 ∨ ¬ (rawP bs).ok bits then (.zero, 4) else (rawP bs, 0) := by
          unfold decP; rw [if_neg (by simpa using c5), if_neg (by omega), if_neg (by rw [hpart]; omega)]
        refine ⟨fun w12 => St (fun _ => False) [] w w12 [.blk b Ty_api_Piece [(.int .i64 (0 : Int)), (.int .i64 (0 : Int)), (.int .i64 (0 : Int)), (.int .i64 (0 : Int)), (.slice none 0 0)], .blk b1 Ty_api_Piece [(.int .i64 (f % 4096)), (.int .i64 (f / 4096 % 4)), (.int .i64 (f / 16384 % 2)), .int .i64 (rawP bs).off, .slice none 0 0]] (fun _ => True), ?_, ?_⟩ --!
        · rintro _  w12 H12
          refine ⟨⟨by omega, by omega⟩, ?_⟩ -- lo
          have hx : ((rawP bs).data).length = bs.length - ((headN (f / 4096 % 4) : Nat) : Int).toNat := by rw [hraw]; simp
          have hs12 : SlR (IntC .u8) 1 w12 (slAddr b_c ((headN (f / 4096 % 4) : Nat) : Int).toNat 1 b_a) (rawP bs).data := by
            rw [hraw]
            exact (hs.below H12.below).tail hcap
          rw [← hx]
          have H12 := H12.nilI Ty_uint8 .u8
          refine H12.appI (i := 2) rfl sl_Ty_S_uint8 hs12 (by simp; omega) (by simp; omega) ?_; intro x_a x_c w13 H13 --! append (.slice none 0 0) (.slice (slAddr b_c (r2.toNat) 1 b_a) (b_l - r2.toNat) (b_c - r2.toNat))
          rw [List.nil_append] at H13 ⊢
          refine H13.set (i := 1) rfl (by simp) ?_; clear H13; intro w14 H14
          refine bsplit_dec (fun c2 => ?_) (fun c2 => ?_) --  (decide (r1 < (32768 : Int)))
          · refine H14.store (i := 0) rfl (by rfl) (by rfl) ?_; clear H14; intro w15 H15
            refine ⟨_, _, _, _, _, _, _, H15.cells (i := 0) rfl, ?_⟩
            rw [dec, if_pos (.inl (by omega))]
            exact .zero H15.below _
          · refine ⟨_, _, _, _, _, _, _, H14.cells (i := 1) rfl, ?_⟩
            refine (ref18_Valid_ct (by omega)).mono ?_ -- (.int .i64 bits), (.agg #[.int .i64 x4, .int .i64 x3, .int .i64 x1, .int .i64 (0 : Int), .slice x_a x_l x_c])
            rintro _ w16 ⟨rfl, hb16⟩; have H16 := H14.pass hb16; clear H14
            refine ⟨_, rfl, ?_⟩
            have hok : (rawP bs).ok bits ↔ pOk bits (f % 4096) (f / 4096 % 4) (f / 16384 % 2) (rawP bs).off (rawP bs).data.length := by
              unfold Pc.ok; rw [show (rawP bs).sn = f % 4096 by rw [hraw], hpart, show (rawP bs).poll = f / 16384 % 2 by rw [hraw]]
            refine bsplit_nd (fun c1 => ?_) (fun c1 => ?_) --  (!r4)
            · refine H16.store (i := 0) rfl (by rfl) (by rfl) ?_; clear H16; intro w17 H17
              refine ⟨_, _, _, _, _, _, _, H17.cells (i := 0) rfl, ?_⟩
              rw [dec, if_pos (.inr (by rw [hok]; exact c1))]
              exact .zero H17.below _
            · refine ⟨_, _, _, _, _, _, _, H16.cells (i := 1) rfl, ?_⟩
              refine H16.store (i := 0) rfl (by rfl) (by rfl) ?_; clear H16; intro w18 H18
              refine ⟨_, _, _, _, _, _, _, H18.cells (i := 0) rfl, ?_⟩
              rw [dec, if_neg (by rw [hok]; simp only [not_or, Decidable.not_not]; exact ⟨by omega, c1⟩)]
              refine ⟨x_a, x_c, H18.capI (i := 2) rfl, ?_, ((H18.shareI (i := 2) rfl).fin).imp fun _ h => h.1⟩
              rw [show (rawP bs).sn = f % 4096 by rw [hraw], hpart, show (rawP bs).poll = f / 16384 % 2 by rw [hraw]]
        · refine bsplit_dec (fun c => ?_) (fun c => ?_) --  (decide (r2 = (4 : Int)))
          · refine (get_ok (at1 := 2) (bytes := 2) (hs.below H8.below) hB (by omega) (by omega) (by omega)).mono ?_ -- (.slice b_a b_l b_c), (.int .i64 (2 : Int)), (.int .i64 (2 : Int))
            rintro _ w10 ⟨rfl, hb10⟩; have H10 := H8.pass hb10; clear H8
            refine ⟨_, rfl, ?_⟩
            have e2 : getN bs 2 2 = (rawP bs).off := by rw [hraw]; simp only; rw [if_neg (by omega)]; simp [getN]
            rw [e2]
            refine H10.set (i := 1) rfl (by simp) ?_; clear H10; intro w11 H11
            exact H11 --! J 
          · have e : (rawP bs).off = 0 := by rw [hraw]; simp only; rw [if_pos (by omega)]
            rw [e]; exact H8 --! J 
end
end Go.Proofs.Ytelkdacpehdllaa
