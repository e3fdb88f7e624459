import Derived.Test.YtelkdacpehdllaaW18g
import Derived.Test.YtelkdacpehdllaaDice
namespace Go.Proofs.Ytelkdacpehdllaa
open Go.Sx Go.RowKit

section
variable {g : Nat} {a : Option Addr} {c : Nat} {ts : List Int} {p : Nat} {w : World} {A : Nat → Prop} {P : World → Prop}
theorem made_Piece_ct (hP : Held A w P) (hts : Rolls a ts P) (hB : (dice g a c ts p).ok w) (hn : ∀ b, (dice g a c ts p).at = some b → ¬ A b) (hp : p ≤ ts.length) {bits : Int} (hb : bitsOk bits) :
    Calls Try.prog N_made_Dice_Piece #[(.pointer (some ⟨g, 0, none⟩)), (.int .i64 bits)] w fun e w' => ∃ sn part poll off ra rc d p', e = .returned (.agg #[.int .i64 sn, .int .i64 part, .int .i64 poll, .int .i64 off, .slice ra d.length rc]) ∧
      pOk bits sn part poll off d.length ∧ Bytes d ∧ d.length ≤ 20 ∧ off ≤ 30 ∧ p' ≤ ts.length ∧ St A [g] w w' [dice g a c ts p', .ints Ty_uint8 .u8 ra rc d] P := by
  apply F_made_Dice_Piece_ok
  unfold F_made_Dice_Piece
  have hbn := hb
  unfold bitsOk at hbn
  have hpw := pow_bits hb
  have H : St A [g] w w [dice g a c ts p] P := St.startM hP hB hn
  refine H.alloc ?_; clear H; intro b w1 H1
  refine kW_u64 (by omega) ?_ -- bits
  refine ⟨by omega, ?_⟩
  refine kShl1 (by omega) ?_
  refine dNext H1 (i := 0) rfl hts hp (by omega) fun sn p1 w2 _ hsn hp1 H2 => ?_
  have hsn := hsn (by omega)
  clear H1
  refine dNext H2 (i := 0) rfl hts hp1 (by omega) fun part p2 w3 _ hpart hp2 H3 => ?_
  have hpart := hpart (by omega)
  clear H2
  refine dNext H3 (i := 0) rfl hts hp2 (by omega) fun poll p3 w4 _ hpoll hp3 H4 => ?_
  have hpoll := hpoll (by omega)
  clear H3
  obtain ⟨A', hA', hn', hr', hc⟩ := H4.callM (i := 0) rfl
  refine (made_Some_ct hA' hts hr' hn' hp3 (by omega)).mono ?_ -- (.pointer (some ⟨d_b, d_o, none⟩)), (.int .i64 (20 : Int))
  rintro _ w5 ⟨ra, rc, d, p4, rfl, hd, hd1, hd2, hp4, K⟩; have H5 := (hc K).imp fun _ h => h.2
  clear hc K hA' hn' hr' H4
  simp only [List.cons_append, List.nil_append, List.set_cons_zero, List.set_cons_succ] at H5
  refine ⟨_, _, _, rfl, ?_⟩
  refine H5.alloc ?_; clear H5; intro b1 w6 H6
  refine H6.store (i := 3) rfl (by rfl) (by rfl) ?_; clear H6; intro w7 H7
  refine H7.ld (i := 3) rfl rfl ?_
  have fin : ∀ {w14 : World} {x y : List Value} {p' : Nat} (_ : St A [g] w w14 [dice g a c ts p', .blk b Ty_api_Piece x, .ints Ty_uint8 .u8 ra rc d, .blk b1 Ty_api_Piece y] P), St A [g] w w14 [dice g a c ts p', .ints Ty_uint8 .u8 ra rc d] P := fun H => by
    refine H.sub (fun i => [0, 2].getD i 0) ?_ ?_
    · rintro (_ | _ | _) r h <;> first | exact h | cases h
    · intro i j hi hj; simp only [List.length_cons, List.length_nil] at hi hj; rcases i with _ | _ | i <;> rcases j with _ | _ | j <;> simp <;> omega
  have one : ∀ (hpt : part = 2 ∨ part = 3) (off : Int), 1 ≤ off → off ≤ 30 → pOk bits sn part poll off d.length := fun hpt off h1 h2 => ⟨hb, by omega, by omega, by omega, by omega, by omega, by omega, by omega⟩
  refine bsplit_dec (fun c1 => ?_) (fun c1 => ?_) --  (decide (r1 = (2 : Int)))
  · refine dNext H7 (i := 0) rfl hts hp4 (by omega) fun off p5 w8 _ hoff hp5 H8 => ?_
    have hoff := hoff (by omega)
    clear H7
    refine kW_i64 (by omega) ?_ -- (1 : Int) + r3
    refine H8.set (i := 3) rfl (by simp) ?_; clear H8; intro w9 H9
    refine ⟨_, _, _, _, _, _, _, H9.cells (i := 3) rfl, ?_⟩
    refine H9.store (i := 1) rfl (by rfl) (by rfl) ?_; clear H9; intro w10 H10
    refine ⟨_, _, _, _, _, _, _, H10.cells (i := 1) rfl, ?_⟩
    exact ⟨_, _, _, _, _, _, d, p5, rfl, one (by omega) _ (by omega) (by omega), hd, by omega, by omega, hp5, fin H10⟩
  · refine H7.ld (i := 3) rfl rfl ?_
    refine bsplit_dec (fun c => ?_) (fun c => ?_) --  (decide (r1 = (3 : Int)))
    · refine dNext H7 (i := 0) rfl hts hp4 (by omega) fun off p5 w8 _ hoff hp5 H8 => ?_
      have hoff := hoff (by omega)
      clear H7
      refine kW_i64 (by omega) ?_ -- (1 : Int) + r4
      refine H8.set (i := 3) rfl (by simp) ?_; clear H8; intro w9 H9
      refine ⟨_, _, _, _, _, _, _, H9.cells (i := 3) rfl, ?_⟩
      refine H9.store (i := 1) rfl (by rfl) (by rfl) ?_; clear H9; intro w10 H10
      refine ⟨_, _, _, _, _, _, _, H10.cells (i := 1) rfl, ?_⟩
      exact ⟨_, _, _, _, _, _, d, p5, rfl, one (by omega) _ (by omega) (by omega), hd, by omega, by omega, hp5, fin H10⟩
    · refine ⟨_, _, _, _, _, _, _, H7.cells (i := 3) rfl, ?_⟩
      refine H7.store (i := 1) rfl (by rfl) (by rfl) ?_; clear H7; intro w14 H14
      refine ⟨_, _, _, _, _, _, _, H14.cells (i := 1) rfl, ?_⟩
      exact ⟨_, _, _, _, _, _, d, p4, rfl, ⟨hb, by omega, by omega, by omega, by omega, by omega, by omega, by omega⟩, hd, by omega, by omega, hp4, fin H14⟩
end
section
variable {A0 : Nat → Prop} {M : List Nat} {w0 w : World} {R : List Res} {P : World → Prop} {i g : Nat} {a : Option Addr} {c : Nat} {ts : List Int} {p : Nat}
theorem dPiece (H : St A0 M w0 w R P) (hi : R[i]? = some (dice g a c ts p)) (hts : Rolls a ts P) (hp : p ≤ ts.length) {bits : Int} (hb : bitsOk bits) {K : Int → Int → Int → Int → Option Addr → Nat → Nat → World → Prop}
    (h : ∀ sn part poll off ra rc d p' w', pOk bits sn part poll off d.length → Bytes d → d.length ≤ 20 → off ≤ 30 → p' ≤ ts.length → St A0 M w0 w' (R.set i (dice g a c ts p') ++ [.ints Ty_uint8 .u8 ra rc d]) P → K sn part poll off ra d.length rc w') :
    Calls Try.prog N_made_Dice_Piece #[(.pointer (some ⟨g, 0, none⟩)), (.int .i64 bits)] w fun e w' => ∃ (x0 x1 x2 x3 : Int) (ra : Option Addr) (rl rc : Nat), e = .returned (.agg #[.int .i64 x0, .int .i64 x1, .int .i64 x2, .int .i64 x3, .slice ra rl rc]) ∧ K x0 x1 x2 x3 ra rl rc w' := by
  obtain ⟨A, hA, hn', hr, hc⟩ := H.callM hi
  refine (made_Piece_ct hA hts hr hn' hp hb).mono ?_
  rintro _ w2 ⟨sn, part, poll, off, ra, rc, d, p', rfl, h1, h2, h3, h4, hp', S⟩
  exact ⟨_, _, _, _, _, _, _, rfl, h _ _ _ _ _ _ d p' w2 h1 h2 h3 h4 hp' ((hc S).imp fun _ h => h.2)⟩
theorem dSpoil (H : St A0 M w0 w R P) (hi : R[i]? = some (dice g a c ts p)) (hts : Rolls a ts P) (hp : p ≤ ts.length) {b_a : Option Addr} {b_c : Nat} {bs : List Int} (hs : ∀ w, P w → SlR (IntC .u8) 1 w b_a bs) (hb : Bytes bs) (hl : bs.length ≤ 1000000) {K : Option Addr → Nat → Nat → World → Prop}
    (h : ∀ ra rc zs p' w', Bytes zs → zs.length ≤ bs.length + 1 → p' ≤ ts.length → St A0 M w0 w' (R.set i (dice g a c ts p') ++ [.ints Ty_uint8 .u8 ra rc zs]) P → K ra zs.length rc w') :
    Calls Try.prog N_made_Dice_Spoil #[(.pointer (some ⟨g, 0, none⟩)), (.slice b_a bs.length b_c)] w fun e w' => ∃ (ra : Option Addr) (rl rc : Nat), e = .returned (.slice ra rl rc) ∧ K ra rl rc w' := by
  obtain ⟨A, hA, hn', hr, hc⟩ := H.callM hi
  refine (made_Spoil_ct hA hts hr hn' hp (hs _ hA.get) hb hl).mono ?_
  rintro _ w2 ⟨ra, rc, zs, p', rfl, h1, h2, hp', S⟩
  exact ⟨_, _, _, rfl, h _ _ zs p' w2 h1 h2 hp' ((hc S).imp fun _ h => h.2)⟩
end

theorem dec_enc {b : Int} {p : Pc} (h : p.ok b) : decP b p.bytes = (p, 0) := by
  obtain ⟨sn, part, poll, off, d⟩ := p
  have hf := Pc.first_range h
  obtain ⟨hb, h0, h1, h2, h3, h4, h5, h6⟩ := h
  simp only at h0 h1 h2 h3 h4 h5 h6
  have hp := pow_bits hb
  obtain ⟨f, hfe⟩ : ∃ f, f = Pc.first ⟨sn, part, poll, off, d⟩ := ⟨_, rfl⟩
  have hfe2 := hfe
  simp only [Pc.first] at hfe2
  rw [← hfe] at hf
  have g0 : (Pc.bytes ⟨sn, part, poll, off, d⟩).getD 0 0 = f / 256 := by rw [hfe]; rfl
  have g1 : (Pc.bytes ⟨sn, part, poll, off, d⟩).getD 1 0 = f % 256 := by rw [hfe]; rfl
  have ef : 256 * (Pc.bytes ⟨sn, part, poll, off, d⟩).getD 0 0 + (Pc.bytes ⟨sn, part, poll, off, d⟩).getD 1 0 = f := by rw [g0, g1]; omega
  have hraw : rawP (Pc.bytes ⟨sn, part, poll, off, d⟩) = ⟨sn, part, poll, off, d⟩ := by
    unfold rawP
    simp only [ef]
    have e1 : f % 4096 = sn := by omega
    have e2 : f / 4096 % 4 = part := by omega
    have e3 : f / 16384 % 2 = poll := by omega
    rw [e1, e2, e3]
    rcases headN_cases part with ⟨hc, hh⟩ | ⟨hc, hh⟩
    · rw [if_pos hc, hh]
      simp only [Pc.bytes, if_pos hc, List.append_nil]
      have : off = 0 := by omega
      rw [this]; rfl
    · rw [if_neg hc, hh]
      simp only [Pc.bytes, if_neg hc]
      have : 256 * (off / 256) + off % 256 = off := by omega
      simp [this]
  have hlen : (Pc.bytes ⟨sn, part, poll, off, d⟩).length = headN part + d.length := by
    unfold Pc.bytes headN
    split <;> simp <;> omega
  unfold decP
  rw [if_neg (by simpa using hb), if_neg (by have := headN_cases part; omega), hraw, if_neg (by simp only; omega), if_neg (by
    rw [g0]; simp only [not_or, Decidable.not_not]
    exact ⟨by omega, hb, h0, h1, h2, h3, h4, h5, h6⟩)]

section
variable {t_a : Option Addr} {t_c : Nat} {ts : List Int} {w : World}
theorem law18_SegmentReturns_ct (hs : SlR (IntC .i64) 1 w t_a ts) (hm : ts.length ≤ maxLen) :
    Calls Try.prog N_law18_SegmentReturns #[(.slice t_a ts.length t_c)] w fun e w' => e = .returned (.bool true) ∧ Below w.heap.size w w' := by
  apply F_law18_SegmentReturns_ok
  unfold F_law18_SegmentReturns
  have H := St.start (A0 := All w) (P := fun w => SlR (IntC .i64) 1 w t_a ts) (slr_held hs)
  refine made_Light_ct.mono ?_ -- (.slice t_a t_l t_c)
  rintro _ w1 ⟨rfl, hb1⟩; have H1 := H.pass hb1; clear H
  refine ⟨_, rfl, ?_⟩
  refine bsplit_nd (fun c8 => ?_) (fun c8 => ?_) --  (!r)
  · refine law18_awake_ct.mono ?_ -- 
    rintro _ w2 ⟨rfl, hb2⟩; have H2 := H1.pass hb2; clear H1
    refine ⟨_, rfl, ?_⟩
    exact ⟨rfl, H2.below⟩ --! (.bool r1)
  · have hts : Rolls t_a ts fun w => SlR (IntC .i64) 1 w t_a ts := ⟨fun _ h => h, by omega⟩
    refine (made_Roll_ct (ts := ts)).mono ?_ -- (.slice t_a t_l t_c)
    rintro _ w3 ⟨g, rfl, K⟩; have H3 := H1.callR K; clear H1 K
    refine ⟨_, rfl, ?_⟩
    refine dBits H3 (i := 0) rfl hts (by omega) fun bits p1 w4 hbits hp1 H4 => ?_
    clear H3
    have hbo : bitsOk bits := hbits
    refine dPiece H4 (i := 0) rfl hts hp1 hbo fun sn part poll off ra rc d p2 w5 hok hd hdl _ hp2 H5 => ?_
    clear H4
    refine H5.alloc ?_; clear H5; intro b w6 H6
    refine H6.store (i := 2) rfl (by rfl) (by rfl) ?_; clear H6; intro w7 H7
    have hrc := H7.capI (i := 1) rfl
    have H7 := H7.shareI (i := 1) rfl
    refine ⟨_, _, _, _, _, _, _, H7.cells (i := 2) rfl, ?_⟩
    refine (segment_Encode_ct H7.get.1 (by omega)).mono ?_ -- (.int .i64 r3), (.agg #[.int .i64 r_0, .int .i64 r_1, .int .i64 r_2, .int .i64 r_3, .slice r_4_a r_4_l r_4_c])
    have e0 : encP bits ⟨sn, part, poll, off, d⟩ = (Pc.bytes ⟨sn, part, poll, off, d⟩, 0) := if_pos hok
    rw [e0]
    rintro _ w8 ⟨ea, ec, hec, rfl, K⟩; have H8 := H7.callF K; clear H7 K
    refine ⟨_, _, _, _, rfl, ?_⟩
    have hlen : (Pc.bytes ⟨sn, part, poll, off, d⟩).length ≤ 100 := by
      unfold Pc.bytes
      split <;> simp <;> omega
    refine (segment_Decode_ct H8.get.1 (bytesP (p := ⟨sn, part, poll, off, d⟩) hok hd) (Nat.le_trans hlen (by decide)) hec).mono ?_ -- (.int .i64 r3), (.slice r_a r_l r_c)
    rw [dec_enc (p := ⟨sn, part, poll, off, d⟩) hok]
    rintro _ w9 ⟨da, dc, hdc, rfl, K⟩; have H9 := H8.callF K; clear H8 K
    refine ⟨_, _, _, _, _, _, _, _, rfl, ?_⟩
    refine H9.alloc ?_; clear H9; intro b1 w10 H10
    refine H10.store (i := 3) rfl (by rfl) (by rfl) ?_; clear H10; intro w11 H11
    refine law18_awake_ct.mono ?_ -- 
    rintro _ w12 ⟨rfl, hb12⟩; have H12 := H11.pass hb12; clear H11
    refine ⟨_, rfl, ?_⟩
    refine bsplit_intro (fun c3 => ?_) (fun c3 => by simp at c3) --  r6
    refine ⟨_, _, _, _, _, _, _, H12.cells (i := 2) rfl, ?_⟩
    refine (segment_Valid_ct (by omega)).mono ?_
    rintro _ w13 ⟨rfl, hb13⟩; have H13 := H12.pass hb13; clear H12
    refine ⟨_, rfl, ?_⟩
    refine bsplit_dec (fun c2 => ?_) (fun c2 => absurd hok c2) --  r7
    refine bsplit_dec (fun c1 => ?_) (fun c1 => absurd rfl c1) --  (decide (r4 = (0 : Int)))
    refine bsplit_dec (fun c => ?_) (fun c => absurd rfl c) --  (decide (r5 = (0 : Int)))
    refine ⟨_, _, _, _, _, _, _, H13.cells (i := 2) rfl, ?_⟩
    refine ⟨_, _, _, _, _, _, _, H13.cells (i := 3) rfl, ?_⟩
    obtain ⟨hx, _, hy, _⟩ := H13.get
    refine (ref18_Same_ct hy hx hd hd).mono ?_
    rintro _ w14 ⟨rfl, hb14⟩; have H14 := H13.pass hb14; clear H13
    refine ⟨_, rfl, ?_⟩
    exact ⟨by simp, H14.below⟩ --! (.bool r8)
end
end Go.Proofs.Ytelkdacpehdllaa
