import Derived.Test.YtelkdacpehdllaaW18h
namespace Go.Proofs.Ytelkdacpehdllaa
open Go.Sx Go.RowKit

section
variable {t_a : Option Addr} {t_c : Nat} {ts : List Int} {w : World}
/-- the first things alone -/
theorem _root_.Go.Sx.St.first3 {A0 : Nat → Prop} {M : List Nat} {w0 w : World} {x y z : Res} {R : List Res} {P : World → Prop} (H : St A0 M w0 w (x :: y :: z :: R) P) : St A0 M w0 w [x, y, z] P :=
  H.sub (fun i => i) (by rintro (_ | _ | _ | _) r h <;> first | exact h | cases h) (fun _ _ _ _ h => h)
/-- an element of what is written out -/
theorem ix_lit {A0 : Nat → Prop} {M : List Nat} {w0 w : World} {R : List Res} {P : World → Prop} (H : St A0 M w0 w R P) {i b : Nat} {t : TypeId} (zs : List Int) (hi : R[i]? = some (.blk b t (zs.map (Value.int .i64)))) {n : Nat} (hn : n = zs.length) {j : Int} (hj : 0 ≤ j ∧ j < n) {F : Addr → Prop}
    (h : ∀ q, (∀ G : Int → Prop, (∀ x, x ∈ zs → G x) → kLd w (q.add (j.toNat * 1)) .i64 G) → F q) : kIx (some ⟨b, 0, none⟩) n j F := by
  subst hn
  refine kIx_at hj (h _ fun G hG => ?_)
  rw [add_mk, Nat.zero_add, Nat.mul_one]
  refine H.ld hi (x := zs[j.toNat]'(by omega)) ?_ (hG _ (List.getElem_mem _))
  rw [List.getElem?_map, List.getElem?_eq_getElem (by omega)]; rfl
theorem law18_SegmentPiecesMade_ct (hs : SlR (IntC .i64) 1 w t_a ts) :
    Calls Try.prog N_law18_SegmentPiecesMade #[(.slice t_a ts.length t_c)] w fun e w' => e = .returned (.bool true) ∧ Below w.heap.size w w' := by
  apply F_law18_SegmentPiecesMade_ok
  unfold F_law18_SegmentPiecesMade
  have H := St.start (A0 := All w) (P := fun w => SlR (IntC .i64) 1 w t_a ts) (slr_held hs)
  refine made_Light_ct.mono ?_ -- (.slice t_a t_l t_c)
  rintro _ w1 ⟨rfl, hb1⟩; have H1 := H.pass hb1; clear H
  refine ⟨_, rfl, ?_⟩
  refine bsplit_nd (fun c8 => ?_) (fun c8 => ?_) --  (!r)
  · refine law18_awake_ct.mono ?_ -- 
    rintro _ w2 ⟨rfl, hb2⟩; have H2 := H1.pass hb2; clear H1
    refine ⟨_, rfl, ?_⟩
    exact ⟨rfl, H2.below⟩ --! (.bool r1)
  · have hts : Rolls t_a ts fun w => SlR (IntC .i64) 1 w t_a ts := ⟨fun _ h => h, by omega⟩
    refine (made_Roll_ct (ts := ts)).mono ?_ -- (.slice t_a t_l t_c)
    rintro _ w3 ⟨g, rfl, K⟩; have H3 := H1.callR K; clear H1 K
    refine ⟨_, rfl, ?_⟩
    refine dBits H3 (i := 0) rfl hts (by omega) fun bits p1 w4 hbits hp1 H4 => ?_
    clear H3
    have hbo : bitsOk bits := hbits
    refine dPiece H4 (i := 0) rfl hts hp1 hbo fun sn part poll off ra rc d p2 w5 hok hd hdl hoff hp2 H5 => ?_
    clear H4
    refine H5.alloc ?_; clear H5; intro b w6 H6
    refine H6.store (i := 2) rfl (by rfl) (by rfl) ?_; clear H6; intro w7 H7
    have hrc := H7.capI (i := 1) rfl
    have H7 := H7.shareI (i := 1) rfl
    have hts := hts.and fun w => SlR (IntC .u8) 1 w ra d
    refine ⟨_, _, _, _, _, _, _, H7.cells (i := 2) rfl, ?_⟩
    have e0 : encP bits ⟨sn, part, poll, off, d⟩ = (Pc.bytes ⟨sn, part, poll, off, d⟩, 0) := if_pos hok
    refine (ref18_Encode_ct H7.get.1 (by omega)).mono ?_ -- (.int .i64 r3), (.agg #[.int .i64 r_0, .int .i64 r_1, .int .i64 r_2, .int .i64 r_3, .slice r_4_a r_4_l r_4_c])
    rw [e0]
    have hlen : (Pc.bytes ⟨sn, part, poll, off, d⟩).length ≤ 100 := by
      unfold Pc.bytes
      split <;> simp <;> omega
    have hbb := bytesP (p := ⟨sn, part, poll, off, d⟩) hok hd
    obtain ⟨bs, hbs⟩ : ∃ bs, bs = Pc.bytes ⟨sn, part, poll, off, d⟩ := ⟨_, rfl⟩
    rw [← hbs] at hlen hbb ⊢
    dsimp only
    rintro _ w8 ⟨ea, ec, hec, rfl, K⟩; have H8 := H7.callF K; clear H7 K
    have hec : bs.length ≤ ec := hec
    refine ⟨_, _, _, _, rfl, ?_⟩
    have hts := hts.and fun w => SlR (IntC .u8) 1 w ea bs
    have H8 : St (All w) [] w w8 [dice g t_a t_c ts p2, .gone, .blk b Ty_api_Piece [.int .i64 sn, .int .i64 part, .int .i64 poll, .int .i64 off, .slice ra d.length rc]] (fun w => SlR (IntC .u8) 1 w ea bs ∧ SlR (IntC .u8) 1 w ra d ∧ SlR (IntC .i64) 1 w t_a ts) := H8
    refine ⟨fun b_a b_l b_c w12 => ∃ zs p3, b_l = zs.length ∧ Bytes zs ∧ zs.length ≤ b_c ∧ p3 ≤ ts.length ∧ St (All w) [] w w12 [dice g t_a t_c ts p3, .gone, .blk b Ty_api_Piece [.int .i64 sn, .int .i64 part, .int .i64 poll, .int .i64 off, .slice ra d.length rc]] (fun w => SlR (IntC .u8) 1 w b_a zs ∧ SlR (IntC .u8) 1 w ra d ∧ SlR (IntC .i64) 1 w t_a ts), ?_, ?_⟩ --!
    · clear H8 hts
      rintro _ b_a b_l b_c w12 ⟨zs, p3, rfl, hzb, hzc, hp3, H12⟩
      have hts : Rolls t_a ts (fun w => SlR (IntC .u8) 1 w b_a zs ∧ SlR (IntC .u8) 1 w ra d ∧ SlR (IntC .i64) 1 w t_a ts) := ⟨fun _ h => h.2.2, by omega⟩
      refine ⟨fun bits w27 => ∃ sn part poll off da dd dc p4, Bytes dd ∧ dd.length ≤ dc ∧ p4 ≤ ts.length ∧ (∀ w, SlR (IntC .u8) 1 w ra d → SlR (IntC .u8) 1 w da dd) ∧ St (All w) [] w w27 [dice g t_a t_c ts p4, .gone, .blk b Ty_api_Piece [.int .i64 sn, .int .i64 part, .int .i64 poll, .int .i64 off, .slice da dd.length dc]] (fun w => SlR (IntC .u8) 1 w b_a zs ∧ SlR (IntC .u8) 1 w ra d ∧ SlR (IntC .i64) 1 w t_a ts), ?_, ?_⟩ --!
      · rintro _ bits w27 ⟨sn, part, poll, off, da, dd, dc, p4, hdb, hdc, hp4, hda, H27⟩
        refine H27.drew ?_; clear H27; intro w28 H28
        have hne := H28.ne (i := 2) (j := 0) rfl rfl (by decide) rfl rfl
        refine ⟨fun x => x < w28.heap.size ∧ x ∉ [g], ?_⟩
        refine ⟨⟨H28.lt (i := 2) rfl rfl, nin1 hne⟩, ?_⟩
        refine ⟨_, _, _, _, _, _, _, H28.cells (i := 2) rfl, ?_⟩
        refine dNext H28 (i := 0) rfl hts hp4 (by omega) fun r13 p5 w29 f29 hr hp5 H29 => ?_
        refine ⟨f29.keeps, ?_⟩
        have hr := hr (by omega)
        refine kW_i64 (by omega) ?_ -- r13 - (1 : Int)
        refine ⟨f29.keeps, ?_⟩
        obtain ⟨hx, hy, _⟩ := H29.get
        refine (law18_SegmentPieces_ct (n_1 := r13 - 1) (hda _ hy) hdb hdc hx hzb hzc (by omega)).mono ?_
        rintro _ w30 ⟨rfl, hb30⟩; have H30 := H29.pass hb30
        refine ⟨_, rfl, ?_⟩
        refine ⟨(f29.tr (hb30.fr []) (by simp)).keeps, ?_⟩
        exact ⟨rfl, H30.below⟩ --! (.bool r14)
      · refine dNext H12 (i := 0) rfl hts hp3 (by omega) fun r7 p4 w13 _ hr7 hp4 H13 => ?_
        clear H12
        refine kLet_in ?_
        refine bsplit_dec (fun c7 => ?_) (fun c7 => ?_) --  (decide (r7 = (0 : Int)))
        · refine kW_u64 (by unfold bitsOk at hbo; omega) ?_ -- r3
          refine ⟨by unfold bitsOk at hbo; omega, ?_⟩
          refine kShl1 (by unfold bitsOk at hbo; omega) ?_
          refine H13.alloc ?_; clear H13; intro b1 w14 H14
          refine dNext H14 (i := 0) rfl hts hp4 (by omega) fun r8 p5 w15 _ hr8 hp5 H15 => ?_
          clear H14
          refine ix_lit H15 (i := 3) [-1, 2 ^ bits.toNat] rfl rfl (hr8 (by omega)) fun q hq => ?_
          refine hq _ fun x6 _ => ?_
          refine H15.set (i := 2) rfl (by simp) ?_; clear H15; intro w16 H16
          exact ⟨_, _, _, _, _, d, _, p5, hd, hrc, hp5, fun _ h => h, H16.first3⟩
        · refine kLet_in ?_
          refine bsplit_dec (fun c6 => ?_) (fun c6 => ?_) --  (decide (r7 = (1 : Int)))
          · refine dNext H13 (i := 0) rfl hts hp4 (by omega) fun r8 p5 w17 _ hr8 hp5 H17 => ?_
            have hr8 := hr8 (by omega)
            refine kW_i64 (by omega) ?_ -- r9 - (1 : Int)
            refine H17.set (i := 2) rfl (by simp) ?_; clear H17; intro w18 H18
            exact ⟨_, _, _, _, _, d, _, p5, hd, hrc, hp5, fun _ h => h, H18.first3⟩
          · refine kLet_in ?_
            refine bsplit_dec (fun c5 => ?_) (fun c5 => ?_) --  (decide (r7 = (2 : Int)))
            · refine dNext H13 (i := 0) rfl hts hp4 (by omega) fun r8 p5 w17 _ hr8 hp5 H17 => ?_
              have hr8 := hr8 (by omega)
              refine kW_i64 (by omega) ?_ -- r10 - (1 : Int)
              refine H17.set (i := 2) rfl (by simp) ?_; clear H17; intro w18 H18
              exact ⟨_, _, _, _, _, d, _, p5, hd, hrc, hp5, fun _ h => h, H18.first3⟩
            · refine kLet_in ?_
              refine bsplit_dec (fun c4 => ?_) (fun c4 => ?_) --  (decide (r7 = (3 : Int)))
              · refine H13.alloc ?_; clear H13; intro b3 w21 H21
                refine dNext H21 (i := 0) rfl hts hp4 (by omega) fun r8 p5 w22 _ hr8 hp5 H22 => ?_
                clear H21
                refine ix_lit H22 (i := 3) [-1, 0, 2034, 2053, 2054] rfl rfl (hr8 (by omega)) fun q hq => ?_
                refine hq _ fun x6 _ => ?_
                refine H22.set (i := 2) rfl (by simp) ?_; clear H22; intro w23 H23
                exact ⟨_, _, _, _, _, d, _, p5, hd, hrc, hp5, fun _ h => h, H23.first3⟩
              · refine kLet_in ?_
                refine bsplit_dec (fun c3 => ?_) (fun c3 => ?_) --  (decide (r7 = (4 : Int)))
                · refine H13.set (i := 2) rfl (by simp) ?_; clear H13; intro w24 H24
                  exact ⟨_, _, _, _, _, [], _, p4, bytes_nil, Nat.le_refl _, hp4, fun _ _ => .nil, H24.first3⟩
                · refine kLet_in ?_
                  refine bsplit_dec (fun c2 => ?_) (fun c2 => ?_) --  (decide (r7 = (5 : Int)))
                  · refine H13.alloc ?_; clear H13; intro b5 w25 H25
                    refine dNext H25 (i := 0) rfl hts hp4 (by omega) fun r8 p5 w26 _ hr8 hp5 H26 => ?_
                    clear H25
                    refine ix_lit H26 (i := 3) [4, 10] rfl rfl (hr8 (by omega)) fun q hq => ?_
                    refine hq _ fun x6 _ => ?_
                    exact ⟨_, _, _, _, _, d, _, p5, hd, hrc, hp5, fun _ h => h, H26.first3⟩
                  · exact ⟨_, _, _, _, _, d, _, p4, hd, hrc, hp4, fun _ h => h, H13.first3⟩
    · refine dNext H8 (i := 0) rfl hts hp2 (by omega) fun r5 p3 w9 _ hr5 hp3 H9 => ?_
      clear H8
      refine kLet_in ?_
      refine bsplit_dec (fun c1 => ?_) (fun c1 => ?_) --  (decide (r5 = (0 : Int)))
      · refine dSpoil H9 (i := 0) rfl hts hp3 (fun _ h => h.1) hbb (by omega) fun sa sc zs p4 w10 hz hzl hp4 H10 => ?_
        have hc := H10.capI (i := 3) rfl
        have H10 := H10.shareI (i := 3) rfl
        exact ⟨zs, p4, rfl, hz, hc, hp4, H10.first3.imp fun _ h => ⟨h.1, h.2.2⟩⟩
      · refine kLet_in ?_
        refine bsplit_dec (fun c => ?_) (fun c => ?_) --  (decide (r5 = (1 : Int)))
        · refine kW_i64 (by omega) ?_ -- (r_l : Int) + (1 : Int)
          refine dNext H9 (i := 0) rfl hts hp3 (by omega) fun r6 p4 w11 _ hr6 hp4 H11 => ?_
          have hr6 := hr6 (by omega)
          refine ⟨⟨by omega, by omega⟩, ?_⟩ -- hi
          refine ⟨bs.take r6.toNat, p4, by simp; omega, bytes_take hbb _, by simp; omega, hp4, H11.imp fun _ h => ⟨h.1.pre _ _, h.2⟩⟩
        · exact ⟨bs, p3, rfl, hbb, hec, hp3, H9⟩ --! J r_a r_l r_c
end
end Go.Proofs.Ytelkdacpehdllaa
