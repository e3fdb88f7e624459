import Derived.Test.YtelkdacpehdllaaW18e
namespace Go.Proofs.Ytelkdacpehdllaa
open Go.Sx Go.RowKit

theorem slI_lit {w0 w : World} {A0 : Nat → Prop} {M : List Nat} {R : List Res} {P : World → Prop} (H : St A0 M w0 w R P) {i b : Nat} {t : TypeId} {k : IntKind} (zs : List Int) (hi : R[i]? = some (.blk b t (zs.map (Value.int k)))) : SlR (IntC k) 1 w (some ⟨b, 0, none⟩) zs := by
  refine .inr ⟨_, rfl, fun j hj => ?_⟩
  rw [add_mk, Nat.zero_add, Nat.mul_one]
  exact H.cell hi (by simp [hj])
theorem law18_awake_ct  {w : World} :
    Calls Try.prog N_law18_awake #[] w fun e w' => e = .returned (.bool true) ∧ Below w.heap.size w w' := by
  apply F_law18_awake_ok
  unfold F_law18_awake
  have H := St.nil w
  refine H.alloc ?_; clear H; intro b w1 H1
  have e0 : cutP 5 ⟨3, 0, 0, 0, [1, 2, 3]⟩ 4 = (⟨3, 1, 0, 0, [1, 2]⟩, ⟨3, 2, 0, 2, [3]⟩, 0) := by
    have : (if ¬ Pc.ok 5 ⟨3, 0, 0, 0, [1, 2, 3]⟩ then (Pc.zero, Pc.zero, (1 : Int)) else (⟨3, 1, 0, 0, [1, 2]⟩, ⟨3, 2, 0, 2, [3]⟩, 0)) = (⟨3, 1, 0, 0, [1, 2]⟩, ⟨3, 2, 0, 2, [3]⟩, 0) := if_neg (by decide)
    rw [← this]; rfl
  refine (segment_Cut_ct (d := [1, 2, 3]) (slI_lit H1 (i := 0) [1, 2, 3] rfl) (by simp) (by simp) (by omega)).mono ?_ -- (.int .i64 (5 : Int)), (.agg #[.int .i64 (3 : Int), .int .i64 (0 : Int), .int .i64 (0 : Int), .int .i64 (0 : Int), .slice (some ⟨b, 0, none⟩) 3 3]), (.int .i64 (4 : Int))
  rw [e0]
  rintro _ w2 ⟨x1, x2, x3, x4, l1, l2, rfl, K⟩; have H2 := (H1.callF K).imp fun _ h => h.1; clear H1 K
  refine ⟨_, _, _, _, _, _, _, _, _, _, _, _, _, _, _, rfl, ?_⟩
  refine H2.alloc ?_; clear H2; intro b1 w3 H3
  refine H3.alloc ?_; clear H3; intro b2 w4 H4
  refine H4.store (i := 1) rfl (by rfl) (by rfl) ?_; clear H4; intro w5 H5
  refine H5.store (i := 2) rfl (by rfl) (by rfl) ?_; clear H5; intro w6 H6
  refine ⟨_, _, _, _, _, _, _, H6.cells (i := 2) rfl, ?_⟩
  have e1 : encP 5 ⟨3, 2, 0, 2, [3]⟩ = ([160, 3, 0, 2, 3], 0) := by
    have : (if Pc.ok 5 ⟨3, 2, 0, 2, [3]⟩ then (([160, 3, 0, 2, 3] : List Int), (0 : Int)) else ([], 1)) = ([160, 3, 0, 2, 3], 0) := if_pos (by decide)
    rw [← this]; rfl
  refine (segment_Encode_ct (d := [3]) H6.get.2 (by simp)).mono ?_ -- (.int .i64 (5 : Int)), (.agg #[.int .i64 r_01, .int .i64 r_11, .int .i64 r_21, .int .i64 r_31, .slice r_4_a1 r_4_l1 r_4_c1])
  rw [e1]
  rintro _ w7 ⟨y1, y2, l3, rfl, K⟩; have H7 := H6.callF K; clear H6 K
  refine ⟨_, _, _, _, rfl, ?_⟩
  refine bsplit_dec (fun c6 => ?_) (fun c6 => absurd rfl c6) --  (decide (r = (0 : Int)))
  refine bsplit_dec (fun c5 => ?_) (fun c5 => absurd rfl c5) --  (decide (r1 = (0 : Int)))
  refine H7.ld (i := 1) rfl rfl ?_
  refine bsplit_dec (fun c4 => ?_) (fun c4 => absurd rfl c4) --  (decide (r_1 = (1 : Int)))
  refine H7.ldS (i := 1) rfl rfl ?_
  refine bsplit_dec (fun c3 => ?_) (fun c3 => absurd rfl c3) --  (decide ((r_4_l : Int) = (2 : Int)))
  refine H7.ld (i := 2) rfl rfl ?_
  refine bsplit_dec (fun c2 => ?_) (fun c2 => absurd rfl c2) --  (decide (r_11 = (2 : Int)))
  refine H7.ld (i := 2) rfl rfl ?_
  refine bsplit_dec (fun c1 => ?_) (fun c1 => absurd rfl c1) --  (decide (r_31 = (2 : Int)))
  refine bsplit_dec (fun c => ?_) (fun c => absurd rfl c) --  (decide ((r_l : Int) = (5 : Int)))
  refine ix_u8 H7.get.1 0 rfl (by simp) fun p hp => ?_
  refine hp _ ?_
  refine kLet_in ?_
  exact ⟨rfl, H7.below⟩ --! (.bool (decide (x3 = (160 : Int))))

theorem bytes_take {bs : List Int} (h : Bytes bs) (n : Nat) : Bytes (bs.take n) := fun i hi => by simp only [List.getElem_take]; exact h i (by simp at hi; omega)
theorem bytes_drop {bs : List Int} (h : Bytes bs) (n : Nat) : Bytes (bs.drop n) := fun i hi => by simp only [List.getElem_drop]; exact h _ (by simp at hi; omega)
theorem bytes_app {xs bs : List Int} (h : Bytes xs) (k : Bytes bs) : Bytes (xs ++ bs) := fun i hi => by
  by_cases hlt : i < xs.length
  · rw [List.getElem_append_left hlt]; exact h i hlt
  · rw [List.getElem_append_right (by omega)]; exact k _ (by simp at hi; omega)
theorem bytes_nil : Bytes [] := fun i hi => by simp at hi
theorem bytes_cons {x : Int} {bs : List Int} (hx : 0 ≤ x ∧ x < 256) (h : Bytes bs) : Bytes (x :: bs) := fun i hi => by
  cases i with
  | zero => exact hx
  | succ i => simp only [List.getElem_cons_succ]; exact h i (by simpa using hi)
theorem bytesP {b : Int} {p : Pc} (h : p.ok b) (hd : Bytes p.data) : Bytes p.bytes := by
  have hf := Pc.first_range h
  have ho := h.2.2.2.2.2.1
  unfold Pc.bytes
  refine bytes_app (bytes_app (bytes_cons (by omega) (bytes_cons (by omega) bytes_nil)) ?_) hd
  split
  · exact bytes_nil
  · exact bytes_cons (by omega) (bytes_cons (by omega) bytes_nil)
theorem bytes_encP (b : Int) {p : Pc} (hd : Bytes p.data) : Bytes (encP b p).1 := by
  unfold encP; split
  · rename_i h; exact bytesP h hd
  · exact bytes_nil
theorem bytes_decP (b : Int) {bs : List Int} (h : Bytes bs) : Bytes (decP b bs).1.data := by
  unfold decP
  split; exact bytes_nil
  split; exact bytes_nil
  split; exact bytes_nil
  split; exact bytes_nil
  exact bytes_drop h _
theorem bytes_cutP (b : Int) {p : Pc} (s : Int) (h : Bytes p.data) : Bytes (cutP b p s).1.data ∧ Bytes (cutP b p s).2.1.data := by
  unfold cutP
  split; exact ⟨bytes_nil, bytes_nil⟩
  split; exact ⟨bytes_nil, bytes_nil⟩
  split; exact ⟨h, bytes_nil⟩
  exact ⟨bytes_take h _, bytes_drop h _⟩

section
variable {p_0 : Int} {p_1 : Int} {p_2 : Int} {p_3 : Int} {p_4_a : Option Addr} {d : List Int} {p_4_c : Nat} {b_a : Option Addr} {bs : List Int} {b_c : Nat} {n_0 : Int} {n_1 : Int} {w : World}
theorem law18_SegmentPieces_ct (hs : SlR (IntC .u8) 1 w p_4_a d) (hd : Bytes d) (hc : d.length ≤ p_4_c) (hb : SlR (IntC .u8) 1 w b_a bs) (hB : Bytes bs) (hbc : bs.length ≤ b_c) (hn : -9223372036854775808 ≤ n_1 ∧ n_1 ≤ 9223372036854775807) :
    Calls Try.prog N_law18_SegmentPieces #[(.agg #[.int .i64 p_0, .int .i64 p_1, .int .i64 p_2, .int .i64 p_3, .slice p_4_a d.length p_4_c]), (.slice b_a bs.length b_c), (.agg #[.int .i64 n_0, .int .i64 n_1])] w fun e w' => e = .returned (.bool true) ∧ Below w.heap.size w w' := by
  apply F_law18_SegmentPieces_ok
  unfold F_law18_SegmentPieces
  have H := St.nil w
  refine H.alloc ?_; clear H; intro b w1 H1
  refine H1.alloc ?_; clear H1; intro b1 w2 H2
  refine ⟨fun w5 => St (fun _ => False) [] w w5 [.blk b Ty_api_Piece [(.int .i64 p_0), (.int .i64 p_1), (.int .i64 p_2), (.int .i64 p_3), (.slice p_4_a d.length p_4_c)], .blk b1 Ty_2_int [(.int .i64 n_0), (.int .i64 n_1)]] (fun _ => True) ∧ bs.length ≤ 3000 ∧ d.length ≤ 3000, ?_, ?_⟩ --!
  · rintro _  w5 ⟨H5, hj1, hj2⟩
    refine H5.ld (i := 1) rfl rfl ?_
    refine ⟨_, _, _, _, _, _, _, H5.cells (i := 0) rfl, ?_⟩
    have be := bytes_encP n_0 (p := ⟨p_0, p_1, p_2, p_3, d⟩) hd
    have bd := bytes_decP n_0 hB
    have bc := bytes_cutP n_0 (p := ⟨p_0, p_1, p_2, p_3, d⟩) n_1 hd
    refine (segment_Encode_ct (hs.below H5.below) (by omega)).mono ?_
    rintro _ w6 ⟨ea, ec, el, rfl, K⟩; have H6 := (H5.callF K).imp fun _ h => h.1; clear H5 K
    refine ⟨_, _, _, _, rfl, ?_⟩
    refine H6.ld (i := 1) rfl rfl ?_
    refine ⟨_, _, _, _, _, _, _, H6.cells (i := 0) rfl, ?_⟩
    refine (ref18_Encode_ct (hs.below H6.below) (by omega)).mono ?_
    rintro _ w7 ⟨fa, fc, fl, rfl, K⟩; have H7 := H6.callF K; clear H6 K
    refine ⟨_, _, _, _, rfl, ?_⟩
    refine H7.ld (i := 1) rfl rfl ?_
    refine (segment_Decode_ct (hb.below H7.below) hB (by omega) hbc).mono ?_ -- (.int .i64 n_0), (.slice b_a b_l b_c)
    rintro _ w8 ⟨ga, gc, gl, rfl, K⟩; have H8 := H7.callF K; clear H7 K
    refine ⟨_, _, _, _, _, _, _, _, rfl, ?_⟩
    refine H8.alloc ?_; clear H8; intro b2 w9 H9
    refine H9.store (i := 2) rfl (by rfl) (by rfl) ?_; clear H9; intro w10 H10
    refine H10.ld (i := 1) rfl rfl ?_
    refine (ref18_Decode_ct (hb.below H10.below) hB (by omega) hbc).mono ?_ -- (.int .i64 n_0), (.slice b_a b_l b_c)
    rintro _ w11 ⟨ka, kc, kl, rfl, K⟩; have H11 := H10.callF K; clear H10 K
    refine ⟨_, _, _, _, _, _, _, _, rfl, ?_⟩
    refine H11.alloc ?_; clear H11; intro b3 w12 H12
    refine H12.store (i := 3) rfl (by rfl) (by rfl) ?_; clear H12; intro w13 H13
    refine H13.ld (i := 1) rfl rfl ?_
    refine ⟨_, _, _, _, _, _, _, H13.cells (i := 0) rfl, ?_⟩
    refine H13.ld (i := 1) rfl rfl ?_
    refine (segment_Cut_ct (hs.below H13.below) (by omega) hc hn).mono ?_
    rintro _ w14 ⟨ua, uc, va, vc, ul, vl, rfl, K⟩; have H14 := H13.callF K; clear H13 K
    refine ⟨_, _, _, _, _, _, _, _, _, _, _, _, _, _, _, rfl, ?_⟩
    refine H14.alloc ?_; clear H14; intro b4 w15 H15
    refine H15.alloc ?_; clear H15; intro b5 w16 H16
    simp only [List.cons_append, List.nil_append, List.set_cons_zero, List.set_cons_succ] at H16
    refine H16.store (i := 4) rfl (by rfl) (by rfl) ?_; clear H16; intro w17 H17
    refine H17.store (i := 5) rfl (by rfl) (by rfl) ?_; clear H17; intro w18 H18
    refine H18.ld (i := 1) rfl rfl ?_
    refine ⟨_, _, _, _, _, _, _, H18.cells (i := 0) rfl, ?_⟩
    refine H18.ld (i := 1) rfl rfl ?_
    refine (ref18_Cut_ct (hs.below H18.below) (by omega) hc hn).mono ?_
    rintro _ w19 ⟨xa, xc, ya, yc, xl, yl, rfl, K⟩; have H19 := H18.callF K; clear H18 K
    refine ⟨_, _, _, _, _, _, _, _, _, _, _, _, _, _, _, rfl, ?_⟩
    refine H19.alloc ?_; clear H19; intro b6 w20 H20
    refine H20.alloc ?_; clear H20; intro b7 w21 H21
    simp only [List.cons_append, List.nil_append, List.set_cons_zero, List.set_cons_succ] at H21
    refine H21.store (i := 6) rfl (by rfl) (by rfl) ?_; clear H21; intro w22 H22
    refine H22.store (i := 7) rfl (by rfl) (by rfl) ?_; clear H22; intro w23 H23
    simp only [List.cons_append, List.nil_append, List.set_cons_zero, List.set_cons_succ] at H23
    refine H23.drew ?_; clear H23; intro w24 H24
    refine ⟨(· < w24.heap.size), ?_⟩
    obtain ⟨⟨hx, hy⟩, ⟨hu, hv⟩, hk, hg, hf, he⟩ := H24.get
    refine law18_awake_ct.mono ?_ -- 
    rintro _ w25 ⟨rfl, hb25⟩; have H25 := H24.pass hb25
    refine ⟨_, rfl, ?_⟩
    refine ⟨hb25.keeps, ?_⟩
    refine bsplit_intro (fun c9 => ?_) (fun c9 => by cases c9) --  r8
    refine ⟨H24.lt (i := 1) rfl rfl, ?_⟩
    refine H24.ld (i := 1) rfl rfl ?_
    refine ⟨H24.lt (i := 0) rfl rfl, ?_⟩
    refine ⟨_, _, _, _, _, _, _, H24.cells (i := 0) rfl, ?_⟩
    refine ⟨H24.lt (i := 1) rfl rfl, ?_⟩
    refine H24.ld (i := 1) rfl rfl ?_
    refine ⟨H24.lt (i := 0) rfl rfl, ?_⟩
    refine ⟨_, _, _, _, _, _, _, H24.cells (i := 0) rfl, ?_⟩
    refine (segment_Valid_ct (by omega)).mono ?_
    rintro _ w26 ⟨rfl, hb26⟩; have H26 := H25.pass hb26
    refine ⟨_, rfl, ?_⟩
    replace hb26 := below_step hb25 (Nat.le_refl _) hb26
    refine ⟨hb26.keeps, ?_⟩
    refine (ref18_Valid_ct (by omega)).mono ?_
    rintro _ w27 ⟨rfl, hb27⟩; have H27 := H26.pass hb27
    refine ⟨_, rfl, ?_⟩
    replace hb27 := below_step hb26 (Nat.le_refl _) hb27
    refine ⟨hb27.keeps, ?_⟩
    refine bsplit_intro (fun c8 => ?_) (fun c8 => by simp at c8) --  (r9 == r10)
    refine bsplit_dec (fun c7 => ?_) (fun c7 => absurd rfl c7) --  (decide (r2 = r3))
    refine (same_bytes (he.below hb27) (hf.below hb27) be be).mono ?_ -- (.slice r_a r_l r_c), (.slice r_a1 r_l1 r_c1)
    rintro _ w28 ⟨rfl, hb28⟩; have H28 := H27.pass hb28
    refine ⟨_, rfl, ?_⟩
    replace hb28 := below_step hb27 (Nat.le_refl _) hb28
    refine ⟨hb28.keeps, ?_⟩
    refine bsplit_intro (fun c6 => ?_) (fun c6 => by simp at c6) --  r11
    refine bsplit_dec (fun c5 => ?_) (fun c5 => absurd rfl c5) --  (decide (r4 = r5))
    refine ⟨H24.lt (i := 2) rfl rfl, ?_⟩
    refine ⟨_, _, _, _, _, _, _, H24.cells (i := 2) rfl, ?_⟩
    refine ⟨H24.lt (i := 3) rfl rfl, ?_⟩
    refine ⟨_, _, _, _, _, _, _, H24.cells (i := 3) rfl, ?_⟩
    refine (ref18_Same_ct (hg.below hb28) (hk.below hb28) bd bd).mono ?_
    rintro _ w29 ⟨rfl, hb29⟩; have H29 := H28.pass hb29
    refine ⟨_, rfl, ?_⟩
    replace hb29 := below_step hb28 (Nat.le_refl _) hb29
    refine ⟨hb29.keeps, ?_⟩
    refine bsplit_intro (fun c4 => ?_) (fun c4 => by simp at c4) --  r12
    refine bsplit_dec (fun c3 => ?_) (fun c3 => absurd rfl c3) --  (decide (r6 = r7))
    refine ⟨H24.lt (i := 4) rfl rfl, ?_⟩
    refine ⟨_, _, _, _, _, _, _, H24.cells (i := 4) rfl, ?_⟩
    refine ⟨H24.lt (i := 6) rfl rfl, ?_⟩
    refine ⟨_, _, _, _, _, _, _, H24.cells (i := 6) rfl, ?_⟩
    refine (ref18_Same_ct (hu.below hb29) (hx.below hb29) bc.1 bc.1).mono ?_
    rintro _ w30 ⟨rfl, hb30⟩; have H30 := H29.pass hb30
    refine ⟨_, rfl, ?_⟩
    replace hb30 := below_step hb29 (Nat.le_refl _) hb30
    refine ⟨hb30.keeps, ?_⟩
    refine bsplit_intro (fun c2 => ?_) (fun c2 => by simp at c2) --  r13
    refine ⟨H24.lt (i := 5) rfl rfl, ?_⟩
    refine ⟨_, _, _, _, _, _, _, H24.cells (i := 5) rfl, ?_⟩
    refine ⟨H24.lt (i := 7) rfl rfl, ?_⟩
    refine ⟨_, _, _, _, _, _, _, H24.cells (i := 7) rfl, ?_⟩
    refine (ref18_Same_ct (hv.below hb30) (hy.below hb30) bc.2 bc.2).mono ?_
    rintro _ w31 ⟨rfl, hb31⟩; have H31 := H30.pass hb31
    refine ⟨_, rfl, ?_⟩
    replace hb31 := below_step hb30 (Nat.le_refl _) hb31
    refine ⟨hb31.keeps, ?_⟩
    exact ⟨by simp, H31.below⟩ --! (.bool r14)
  · refine bsplit_dec (fun c1 => ?_) (fun c1 => ?_) --  (decide ((b_l : Int) > (3000 : Int)))
    · refine law18_awake_ct.mono ?_ -- 
      rintro _ w3 ⟨rfl, hb3⟩; have H3 := H2.pass hb3; clear H2
      refine ⟨_, rfl, ?_⟩
      exact ⟨rfl, H3.below⟩ --! (.bool r)
    · refine H2.ldS (i := 0) rfl rfl ?_
      refine bsplit_dec (fun c => ?_) (fun c => ?_) --  (decide ((p_4_l : Int) > (3000 : Int)))
      · refine law18_awake_ct.mono ?_ -- 
        rintro _ w4 ⟨rfl, hb4⟩; have H4 := H2.pass hb4; clear H2
        refine ⟨_, rfl, ?_⟩
        exact ⟨rfl, H4.below⟩ --! (.bool r1)
      · exact ⟨H2, by omega, by omega⟩ --! J 
end
end Go.Proofs.Ytelkdacpehdllaa
