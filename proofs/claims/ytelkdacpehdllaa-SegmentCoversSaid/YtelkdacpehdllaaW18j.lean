import Derived.Test.YtelkdacpehdllaaW18i
namespace Go.Proofs.Ytelkdacpehdllaa
open Go.Sx Go.RowKit

theorem cut_case {b : Int} {q : Pc} {size : Int} (h : q.ok b) (hs : (headN q.part : Int) + 1 ≤ size) :
    ((headN q.part : Int) + q.data.length ≤ size ∧ cutP b q size = (q, .zero, 0)) ∨
    ∃ f r : Pc, ∃ k : Nat, size = headN q.part + k ∧ 1 ≤ k ∧ k < q.data.length ∧ cutP b q size = (f, r, 0) ∧ f.ok b ∧ r.ok b ∧ f.sn = q.sn ∧ f.poll = q.poll ∧ f.off = q.off ∧ f.data = q.data.take k ∧ begins f.part = begins q.part ∧ ends f.part = false ∧ headN f.part = headN q.part ∧
      r.sn = q.sn ∧ r.poll = q.poll ∧ r.off = q.off + k ∧ r.data = q.data.drop k ∧ begins r.part = false ∧ ends r.part = ends q.part := by
  by_cases hfit : (headN q.part : Int) + q.data.length ≤ size
  · left; exact ⟨hfit, (if_neg (not_not_intro h)).trans ((if_neg (by omega)).trans (if_pos hfit))⟩
  · right
    obtain ⟨k, hk⟩ : ∃ k : Nat, k = (size - headN q.part).toNat := ⟨_, rfl⟩
    have e : cutP b q size = (⟨q.sn, partOf (begins q.part) false, q.poll, q.off, q.data.take k⟩, ⟨q.sn, partOf false (ends q.part), q.poll, q.off + k, q.data.drop k⟩, 0) := by
      refine (if_neg (not_not_intro h)).trans ((if_neg (by omega)).trans ((if_neg hfit).trans ?_))
      rw [hk, show q.off + ((size - (headN q.part : Nat)).toNat : Int) = q.off + (size - (headN q.part : Nat)) by omega]
    have hh := headN_cases q.part
    obtain ⟨hb, h0, h1, h2, h3, h4, h5, h6⟩ := h
    have hb1 : (begins q.part = true ∧ (q.part = 0 ∨ q.part = 1)) ∨ (begins q.part = false ∧ ¬ (q.part = 0 ∨ q.part = 1)) := by
      unfold begins
      by_cases h : q.part = 0 ∨ q.part = 1
      · exact .inl ⟨by simpa using h, h⟩
      · exact .inr ⟨by simpa using h, h⟩
    refine ⟨_, _, k, by omega, by omega, by omega, e, ?_, ?_, rfl, rfl, rfl, rfl, ?_, ?_, ?_, rfl, rfl, rfl, rfl, ?_, ?_⟩
    · refine ⟨hb, h0, ?_, h2, ?_, h4, by simp; omega, by simp; omega⟩
      · show 0 ≤ partOf (begins q.part) false ∧ partOf (begins q.part) false ≤ 3
        rcases hb1 with ⟨e1, _⟩ | ⟨e1, _⟩ <;> rw [e1] <;> decide
      · show (partOf (begins q.part) false = 0 ∨ partOf (begins q.part) false = 1) ↔ q.off = 0
        rcases hb1 with ⟨e1, e2⟩ | ⟨e1, e2⟩ <;> rw [e1] <;> simp [partOf] <;> omega
    · refine ⟨hb, h0, ?_, h2, ?_, by simp only; omega, by simp; omega, by simp; omega⟩
      · show 0 ≤ partOf false (ends q.part) ∧ partOf false (ends q.part) ≤ 3
        cases ends q.part <;> decide
      · show (partOf false (ends q.part) = 0 ∨ partOf false (ends q.part) = 1) ↔ q.off + k = 0
        cases ends q.part <;> simp [partOf] <;> omega
    · show begins (partOf (begins q.part) false) = begins q.part
      cases begins q.part <;> decide
    · show ends (partOf (begins q.part) false) = false
      cases begins q.part <;> decide
    · show headN (partOf (begins q.part) false) = headN q.part
      rcases hb1 with ⟨e1, e2⟩ | ⟨e1, e2⟩ <;> rw [e1]
      · rw [show headN q.part = 2 by omega]; decide
      · rw [show headN q.part = 4 by omega]; decide
    · show begins (partOf false (ends q.part)) = false
      cases ends q.part <;> decide
    · show ends (partOf false (ends q.part)) = ends q.part
      cases ends q.part <;> decide
theorem bytes_len (p : Pc) : p.bytes.length = headN p.part + p.data.length := by
  unfold Pc.bytes headN
  split <;> simp <;> omega
theorem begins_iff (x : Int) : begins x = true ↔ (x = 0 ∨ x = 1) := by unfold begins; simp
theorem ends_iff (x : Int) : ends x = true ↔ (x = 0 ∨ x = 2) := by unfold ends; simp
theorem begins_dec {x : Int} (h : x ≠ 0) : decide (x = 1) = begins x := by unfold begins; simp [h]
theorem ends_dec {x : Int} (h : x ≠ 0) : decide (x = 2) = ends x := by unfold ends; simp [h]

section
variable {t_a : Option Addr} {t_c : Nat} {ts : List Int} {w : World}
theorem law18_SegmentCuts_ct (hs : SlR (IntC .i64) 1 w t_a ts) :
    Calls Try.prog N_law18_SegmentCuts #[(.slice t_a ts.length t_c)] w fun e w' => e = .returned (.bool true) ∧ Below w.heap.size w w' := by
  apply F_law18_SegmentCuts_ok
  unfold F_law18_SegmentCuts
  have H := St.start (A0 := All w) (P := fun w => SlR (IntC .i64) 1 w t_a ts) (slr_held hs)
  refine made_Light_ct.mono ?_ -- (.slice t_a t_l t_c)
  rintro _ w1 ⟨rfl, hb1⟩; have H1 := H.pass hb1; clear H
  refine ⟨_, rfl, ?_⟩
  refine bsplit_nd (fun c8 => ?_) (fun c8 => ?_) --  (!r)
  · refine law18_awake_ct.mono ?_ -- 
    rintro _ w2 ⟨rfl, hb2⟩; have H2 := H1.pass hb2; clear H1
    refine ⟨_, rfl, ?_⟩
    exact ⟨rfl, H2.below⟩ --! (.bool r1)
  have hts : Rolls t_a ts fun w => SlR (IntC .i64) 1 w t_a ts := ⟨fun _ h => h, by omega⟩
  refine (made_Roll_ct (ts := ts)).mono ?_ -- (.slice t_a t_l t_c)
  rintro _ w3 ⟨g, rfl, K⟩; have H3 := H1.callR K; clear H1 K
  refine ⟨_, rfl, ?_⟩
  refine dBits H3 (i := 0) rfl hts (by omega) fun bits p1 w4 hbits hp1 H4 => ?_
  clear H3
  have hbo : bitsOk bits := hbits
  refine dPiece H4 (i := 0) rfl hts hp1 hbo fun sn part poll off ra rc d p2 w5 hok hd hdl hoff hp2 H5 => ?_
  clear H4
  refine H5.alloc ?_; clear H5; intro b w6 H6
  refine H6.store (i := 2) rfl (by rfl) (by rfl) ?_; clear H6; intro w7 H7
  have hrc := H7.capI (i := 1) rfl
  have H7 := H7.shareI (i := 1) rfl
  clear hts
  refine H7.drew ?_; clear H7; intro w8 H8
  refine ⟨(· < w8.heap.size), ?_⟩
  refine ⟨H8.lt (i := 2) rfl rfl, ?_⟩
  refine H8.ld (i := 2) rfl rfl ?_
  refine ⟨H8.lt (i := 2) rfl rfl, ?_⟩
  refine ⟨_, _, _, _, _, _, _, H8.cells (i := 2) rfl, ?_⟩
  refine H8.allocB ?_; intro b1 w9 hb9 H9
  refine ⟨hb9.keeps, ?_⟩
  refine H9.store (i := 3) rfl (by rfl) (by rfl) ?_; intro w10 H10
  have H10 := H10.nilI Ty_uint8 .u8
  simp only [List.cons_append, List.nil_append, List.set_cons_zero, List.set_cons_succ] at H10
  refine ⟨fun all_a all_l all_c at1 n => ((60 - n).toNat, fun w11 => ∃ (k : Nat) (q : Pc) (zs : List Int) (p3 : Nat) (qa : Option Addr) (qc : Nat), n = k ∧ at1 = q.off ∧ all_l = zs.length ∧ q.ok bits ∧ q.sn = sn ∧ q.poll = poll ∧ zs ++ q.data = d ∧ q.data.length + k ≤ 20 ∧
      (k = 0 → q.part = part) ∧ (0 < k → begins q.part = false) ∧ ends q.part = ends part ∧ q.data.length ≤ qc ∧ p3 ≤ ts.length ∧
      St (All w) [] w w11 [dice g t_a t_c ts p3, .gone, .blk b Ty_api_Piece [.int .i64 sn, .int .i64 part, .int .i64 poll, .int .i64 off, .slice ra d.length rc], .blk b1 Ty_api_Piece [.int .i64 q.sn, .int .i64 q.part, .int .i64 q.poll, .int .i64 q.off, .slice qa q.data.length qc], .ints Ty_uint8 .u8 all_a all_c zs]
        (fun w => SlR (IntC .u8) 1 w qa q.data ∧ SlR (IntC .u8) 1 w ra d ∧ SlR (IntC .i64) 1 w t_a ts)),
    ⟨0, ⟨sn, part, poll, off, d⟩, [], p2, ra, rc, rfl, rfl, rfl, hok, rfl, rfl, rfl, by omega, fun _ => rfl, fun h => by omega, rfl, hrc, hp2, H10.imp fun _ h => ⟨h.1, h⟩⟩, ?_⟩
  clear H10 H9 H8
  rintro _ all_a all_l all_c at1 n w11 ⟨k, q, zs, p3, qa, qc, rfl, rfl, rfl, hqok, hqsn, hqpoll, hqd, hqk, hq0, hq1, hqe, hqc, hp3, H11⟩
  have hts : Rolls t_a ts (fun w => SlR (IntC .u8) 1 w qa q.data ∧ SlR (IntC .u8) 1 w ra d ∧ SlR (IntC .i64) 1 w t_a ts) := ⟨fun _ h => h.2.2, by omega⟩
  have hq1n : 1 ≤ q.data.length := hqok.2.2.2.2.2.2.1
  have hqoff := hqok.2.2.2.2.2.1
  have hhead := headN_cases q.part
  have hqb : Bytes q.data := fun i hi => by
    have := hd (zs.length + i) (by rw [← hqd]; simp; omega)
    have e : d[zs.length + i]'(by rw [← hqd]; simp; omega) = q.data[i] := by
      simp only [← hqd]; rw [List.getElem_append_right (by omega)]; simp
    rwa [e] at this
  refine bsplit_dec (fun c19 => ?_) (fun c19 => by omega) --  (decide (n < (60 : Int)))
  refine dNext H11 (i := 0) rfl hts hp3 (by omega) fun r4 p4 w12 _ hr4 hp4 H12 => ?_
  clear H11
  have hr4 := hr4 (by omega)
  refine kW_i64 (by omega) ?_ -- (5 : Int) + r4
  refine ⟨_, _, _, _, _, _, _, H12.cells (i := 3) rfl, ?_⟩
  refine (segment_Cut_ct H12.get.1 (by omega) hqc (by omega)).mono ?_ -- (.int .i64 r3), (.agg #[.int .i64 r_0, .int .i64 r_1, .int .i64 r_2, .int .i64 r_3, .slice r_4_a r_4_l r_4_c]), (.int .i64 ((5 : Int) + r4))
  -- what the two ways of a cut share
  have main : ∀ (f r : Pc), cutP bits q (5 + r4) = (f, r, 0) → f.ok bits → f.off = q.off → f.sn = q.sn → f.poll = q.poll → headN f.part + f.data.length ≤ 5 + r4 → begins f.part = begins q.part → f.data ++ r.data = q.data →
      ((r.data = [] ∧ ends f.part = ends q.part) ∨ (r.data ≠ [] ∧ r.ok bits ∧ ends f.part = false ∧ r.sn = q.sn ∧ r.poll = q.poll ∧ r.off = q.off + f.data.length ∧ begins r.part = false ∧ ends r.part = ends q.part)) → True := fun _ _ _ _ _ _ _ _ _ _ _ => trivial
  obtain ⟨f, r, hcut, hfok, hfoff, hfsn, hfpoll, hflen, hfb, hfr, hrest⟩ : ∃ f r : Pc, cutP bits q (5 + r4) = (f, r, 0) ∧ f.ok bits ∧ f.off = q.off ∧ f.sn = q.sn ∧ f.poll = q.poll ∧ (headN f.part : Int) + f.data.length ≤ 5 + r4 ∧ begins f.part = begins q.part ∧ f.data ++ r.data = q.data ∧
      ((r.data = [] ∧ ends f.part = ends q.part) ∨ (r.data ≠ [] ∧ r.ok bits ∧ ends f.part = false ∧ r.sn = q.sn ∧ r.poll = q.poll ∧ r.off = q.off + f.data.length ∧ begins r.part = false ∧ ends r.part = ends q.part)) := by
    rcases cut_case (size := 5 + r4) hqok (by omega) with ⟨h1, h2⟩ | ⟨f, r, j, h1, h2, h3, h4, h5, h6, h7, h8, h9, h10, h11, h12, h13, h14, h15, h16, h17, h18, h19⟩
    · exact ⟨q, .zero, h2, hqok, rfl, rfl, rfl, h1, rfl, by simp [Pc.zero], .inl ⟨rfl, rfl⟩⟩
    · have hl : f.data.length = j := by rw [h10]; simp; omega
      refine ⟨f, r, h4, h5, h9, h7, h8, by omega, h11, by rw [h10, h17]; exact List.take_append_drop _ _, .inr ⟨?_, h6, h12, h14, h15, by rw [h16, hl], h18, h19⟩⟩
      intro e; have := congrArg List.length h17; rw [e] at this; simp at this; omega
  clear main
  have hqe2 : (⟨q.sn, q.part, q.poll, q.off, q.data⟩ : Pc) = q := rfl
  rw [hqe2, hcut]
  dsimp only
  have hfbytes : Bytes f.data := fun i hi => by
    have := hqb i (by rw [← hfr]; simp; omega)
    have e : q.data[i]'(by rw [← hfr]; simp; omega) = f.data[i] := by
      simp only [← hfr]; rw [List.getElem_append_left hi]
    rwa [e] at this
  have hfl : f.data.length + r.data.length = q.data.length := by rw [← hfr]; simp
  have hf1 : 1 ≤ f.data.length := hfok.2.2.2.2.2.2.1
  rintro _ w13 ⟨fa, fc, ra2, rc2, hfc, hrc2, rfl, K⟩; have H13 := H12.callF K; clear H12 K
  refine ⟨_, _, _, _, _, _, _, _, _, _, _, _, _, _, _, rfl, ?_⟩
  refine H13.alloc ?_; clear H13; intro b2 w14 H14
  refine H14.alloc ?_; clear H14; intro b3 w15 H15
  refine H15.store (i := 5) rfl (by rfl) (by rfl) ?_; clear H15; intro w16 H16
  refine H16.store (i := 6) rfl (by rfl) (by rfl) ?_; clear H16; intro w17 H17
  refine ⟨_, _, _, _, _, _, _, H17.cells (i := 5) rfl, ?_⟩
  have e0 : encP bits ⟨f.sn, f.part, f.poll, f.off, f.data⟩ = (f.bytes, 0) := if_pos hfok
  refine (segment_Encode_ct H17.get.1.1 (by omega)).mono ?_ -- (.int .i64 r3), (.agg #[.int .i64 r_01, .int .i64 r_11, .int .i64 r_21, .int .i64 r_31, .slice r_4_a1 r_4_l1 r_4_c1])
  rw [e0]
  dsimp only
  rintro _ w18 ⟨ea, ec, hec, rfl, K⟩; have H18 := H17.callF K; clear H17 K
  simp only [List.cons_append, List.nil_append, List.append_nil, List.set_cons_zero, List.set_cons_succ] at H18
  refine ⟨_, _, _, _, rfl, ?_⟩
  have hbl := bytes_len f
  refine ⟨fun x7 w19 => x7 = false ∧ w19 = w18, ?_, ?_⟩ --!
  · rintro _ x7 w19 ⟨rfl, rfl⟩
    refine bsplit_intro (fun c18 => by cases c18) (fun c18 => ?_) --  x7
    refine ⟨fun begin1 w20 => begin1 = begins f.part ∧ w20 = w19, ?_, ?_⟩ --!
    · rintro _ begin1 w20 ⟨rfl, rfl⟩
      refine ⟨fun w21 => w21 = w20, ?_, ?_⟩ --!
      · rintro _ w21 rfl
        refine H18.ldS (i := 5) rfl rfl ?_
        refine H18.appI (i := 4) rfl sl_Ty_S_uint8 H18.get.2.1.1 (by have := congrArg List.length hqd; simp at this; omega) (by have := congrArg List.length hqd; simp at this; omega) ?_; clear H18; intro x_a1 x_c1 w22 H22 --! append (.slice all_a all_l all_c) (.slice r_4_a1 r_4_l1 r_4_c1)
        refine H22.ldS (i := 5) rfl rfl ?_
        refine kW_i64 (by omega) ?_ -- at1 + (r_4_l1 : Int)
        refine H22.ldS (i := 6) rfl rfl ?_
        refine bsplit_dec (fun c17 => ?_) (fun c17 => ?_) --  (decide ((r_4_l2 : Int) = (0 : Int)))
        · have hr0 : r.data = [] := List.eq_nil_of_length_eq_zero (by omega)
          have hfe : ends f.part = ends part := by
            rcases hrest with h | h
            · rw [h.2, hqe]
            · exact absurd hr0 h.1
          have hall : zs ++ f.data = d := by rw [← hqd, ← hfr, hr0, List.append_nil]
          refine ⟨fun end2 w23 => end2 = ends f.part ∧ w23 = w22, ?_, ?_⟩ --!
          · rintro _ end2 w23 ⟨rfl, rfl⟩
            refine law18_awake_ct.mono ?_ -- 
            rintro _ w24 ⟨rfl, hb24⟩; have H24 := H22.pass hb24; clear H22
            refine ⟨_, rfl, ?_⟩
            refine bsplit_intro (fun c14 => ?_) (fun c14 => by cases c14) --  r7
            refine H24.ldS (i := 2) rfl rfl ?_
            refine (same_bytes (H24.slI (i := 4) rfl) H24.get.2.2.2.1 (by rw [hall]; exact hd) hd).mono ?_ -- (.slice x_a1 x_l1 x_c1), (.slice r_4_a r_4_l r_4_c)
            rintro _ w25 ⟨rfl, hb25⟩; have H25 := H24.pass hb25; clear H24
            refine ⟨_, rfl, ?_⟩
            refine bsplit_dec (fun c13 => ?_) (fun c13 => absurd hall c13) --  r8
            refine H25.ld (i := 2) rfl rfl ?_
            refine bsplit_dec (fun c12 => ?_) (fun c12 => ?_) --  (decide (r_1 = (0 : Int)))
            · exact ⟨by rw [hfe, c12]; rfl, H25.below⟩ --! (.bool (end2 == true))
            · refine H25.ld (i := 2) rfl rfl ?_
              refine kLet_in ?_
              exact ⟨by rw [hfe, ends_dec c12]; simp, H25.below⟩ --! (.bool (end2 == (decide (r_1 = (2 : Int)))))
          · refine H22.ld (i := 5) rfl rfl ?_
            refine bsplit_dec (fun c11 => ?_) (fun c11 => ?_) --  (decide (r_11 = (0 : Int)))
            · exact ⟨by rw [c11]; rfl, rfl⟩ --! J3 true
            · refine H22.ld (i := 5) rfl rfl ?_
              refine kLet_in ?_
              exact ⟨ends_dec c11, rfl⟩ --! J3 (decide (r_11 = (2 : Int)))
        · rcases hrest with h | ⟨hr1, hrok, hfe, hrsn, hrpoll, hroff, hrb, hre⟩
          · exact absurd (by rw [h.1]; rfl) c17
          have hne : ¬ (f.part = 0 ∨ f.part = 2) := fun h => by have := (ends_iff f.part).2 h; rw [hfe] at this; cases this
          refine H22.ld (i := 5) rfl rfl ?_
          refine bsplit_dec (fun c16 => absurd (.inl c16) hne) (fun c16 => ?_) --  (decide (r_11 = (0 : Int)))
          refine H22.ld (i := 5) rfl rfl ?_
          refine bsplit_dec (fun c15 => absurd (.inr c15) hne) (fun c15 => ?_) --  (decide (r_11 = (2 : Int)))
          refine ⟨_, _, _, _, _, _, _, H22.cells (i := 6) rfl, ?_⟩
          refine H22.store (i := 3) rfl (by rfl) (by rfl) ?_; clear H22; intro w26 H26
          refine kW_i64 (by omega) ?_ -- n + (1 : Int)
          refine ⟨⟨k + 1, r, zs ++ f.data, p4, ra2, rc2, by omega, by omega, rfl, hrok, by rw [hrsn, hqsn], by rw [hrpoll, hqpoll], by rw [List.append_assoc, hfr, hqd], by omega, fun h => by omega, fun _ => hrb, by rw [hre, hqe], hrc2, hp4, ?_⟩, by show Int.toNat _ < Int.toNat _; omega⟩ --! I x_a1 x_l1 x_c1 (at1 + (r_4_l1 : Int)) (n + (1 : Int))
          refine (H26.sub (fun i => i) ?_ (fun _ _ _ _ h => h)).imp fun _ h => ⟨h.2.1.2, h.2.2.2⟩
          rintro (_ | _ | _ | _ | _ | _) r h <;> first | exact h | cases h
      · refine bsplit_dec (fun c10 => ?_) (fun c10 => ?_) --  (decide (n = (0 : Int)))
        · have hpart := hq0 (by omega)
          refine H18.ld (i := 2) rfl rfl ?_
          refine bsplit_dec (fun c8 => ?_) (fun c8 => ?_) --  (decide (r_1 = (0 : Int)))
          · refine bsplit_n (fun c6 => ?_) (fun c6 => rfl) --  (!(begin1 == true))
            rw [hfb, hpart, c8] at c6; exact absurd c6 (by decide)
          · refine H18.ld (i := 2) rfl rfl ?_
            refine bsplit_n (fun c7 => ?_) (fun c7 => rfl) --  (!(begin1 == (decide (r_1 = (1 : Int)))))
            rw [hfb, hpart, begins_dec c8] at c7; simp at c7
        · refine bsplit_n (fun c9 => ?_) (fun c9 => rfl) --  (!(begin1 == false))
          rw [hfb, hq1 (by omega)] at c9; exact absurd c9 (by decide)
    · refine H18.ld (i := 5) rfl rfl ?_
      refine bsplit_dec (fun c5 => ?_) (fun c5 => ?_) --  (decide (r_11 = (0 : Int)))
      · exact ⟨by rw [c5]; rfl, rfl⟩ --! J1 true
      · refine H18.ld (i := 5) rfl rfl ?_
        refine kLet_in ?_
        exact ⟨begins_dec c5, rfl⟩ --! J1 (decide (r_11 = (1 : Int)))
  · refine bsplit_nd (fun c4 => absurd rfl c4) (fun c4 => ?_) --  (!decide (r5 = (0 : Int)))
    refine bsplit_nd (fun c3 => absurd rfl c3) (fun c3 => ?_) --  (!decide (r6 = (0 : Int)))
    refine bsplit_dec (fun c2 => by omega) (fun c2 => ?_) --  (decide ((r_l : Int) > ((5 : Int) + r4)))
    refine H18.ld (i := 5) rfl rfl ?_
    refine bsplit_nd (fun c1 => absurd hfoff c1) (fun c1 => ?_) --  (!decide (r_31 = at1))
    refine H18.ld (i := 5) rfl rfl ?_
    refine H18.ld (i := 2) rfl rfl ?_
    refine bsplit_nd (fun c => absurd (hfsn.trans hqsn) c) (fun c => ?_) --  (!decide (r_01 = r_0))
    refine H18.ld (i := 5) rfl rfl ?_
    refine H18.ld (i := 2) rfl rfl ?_
    exact ⟨by simp [hfpoll, hqpoll], rfl⟩ --! J (!decide (r_21 = r_2))
end
end Go.Proofs.Ytelkdacpehdllaa
