import Derived.Test.YtelkdacpehdllaaW18s
import Derived.Test.YtelkdacpehdllaaW18j
namespace Go.Proofs.Ytelkdacpehdllaa
open Go.Sx Go.RowKit

section
variable {A0 : Nat → Prop} {M : List Nat} {w0 w : World} {R : List Res} {P : World → Prop} {i g : Nat} {a : Option Addr} {c : Nat} {ts : List Int} {p : Nat}
theorem dRanges (H : St A0 M w0 w R P) (hi : R[i]? = some (dice g a c ts p)) (hts : Rolls a ts P) (hp : p ≤ ts.length) {sn : Int} {K : Option Addr → Nat → Nat → World → Prop}
    (h : ∀ ra rc L p' w', L.length ≤ 6 → normB (-1) L = true → (∀ x ∈ L, x.t ≤ 62) → p' ≤ ts.length → St A0 M w0 w' (R.set i (dice g a c ts p') ++ [.els encR Ty_api_Range 3 ra rc L]) P → K ra L.length rc w') :
    Calls Try.prog N_made_Dice_Ranges #[(.pointer (some ⟨g, 0, none⟩)), (.int .i64 sn), (.int .i64 6)] w fun e w' => ∃ (ra : Option Addr) (rl rc : Nat), e = .returned (.slice ra rl rc) ∧ K ra rl rc w' := by
  obtain ⟨A, hA, hn', hr, hc⟩ := H.callM hi
  refine (made_Ranges_ct hA hts hr hn' hp).mono ?_
  rintro _ w2 ⟨ra, rc, L, p', rfl, h1, h2, h3, hp', S⟩
  exact ⟨_, _, _, rfl, h _ _ L p' w2 h1 h2 h3 hp' ((hc S).imp fun _ h => h.2)⟩
theorem dOddRange (H : St A0 M w0 w R P) (hi : R[i]? = some (dice g a c ts p)) (hts : Rolls a ts P) (hp : p ≤ ts.length) {l_a : Option Addr} {l_c : Nat} {l : List Rg} (hs : ∀ w, P w → SlR (CE encR) 3 w l_a l) (hl : l.length ≤ 1000000) {K : Option Addr → Nat → Nat → World → Prop}
    (h : ∀ ra rc L p' w', L.length ≤ l.length + 1 → ((∀ x ∈ l, R64 x) → ∀ x ∈ L, R64 x) → p' ≤ ts.length → St A0 M w0 w' (R.set i (dice g a c ts p') ++ [.els encR Ty_api_Range 3 ra rc L]) P → K ra L.length rc w') :
    Calls Try.prog N_made_Dice_OddRange #[(.pointer (some ⟨g, 0, none⟩)), (.slice l_a l.length l_c)] w fun e w' => ∃ (ra : Option Addr) (rl rc : Nat), e = .returned (.slice ra rl rc) ∧ K ra rl rc w' := by
  obtain ⟨A, hA, hn', hr, hc⟩ := H.callM hi
  refine (made_OddRange_ct hA hts hs hl hr hn' hp).mono ?_
  rintro _ w2 ⟨ra, rc, L, p', rfl, h1, h2, hp', S⟩
  exact ⟨_, _, _, rfl, h _ _ L p' w2 h1 h2 hp' ((hc S).imp fun _ h => h.2)⟩
end
theorem unionR_len (l : List Rg) (r : Rg) : (unionR l r).1.length ≤ l.length + 1 := by
  have key : ∀ (l : List Rg) (f t : Int), (unionS r.sn l f t).length ≤ l.length + 1 := by
    intro l
    induction l with
    | nil => intro f t; simp [unionS]
    | cons x l ih =>
      intro f t
      unfold unionS
      split
      · have := ih f t; simp; omega
      · split
        · simp
        · exact Nat.le_trans (ih _ _) (by simp)
  unfold unionR
  split
  · simp
  · exact key l _ _
theorem gapR_len (l : List Rg) (sn len : Int) : (gapR l sn len).1.length ≤ l.length + 1 := by
  have key : ∀ (l : List Rg) (p : Int), (gapsS sn l p len).length ≤ l.length + 1 := by
    intro l
    induction l with
    | nil => intro p; unfold gapsS; split <;> simp
    | cons x l ih =>
      intro p
      unfold gapsS
      split
      · have := ih x.t; simp; omega
      · exact Nat.le_trans (ih _) (by simp)
  unfold gapR
  split
  · simp
  · split
    · simp
    · exact key l _
section
variable {l_a t_a : Option Addr} {l : List Rg} {ts : List Int} {l_c t_c : Nat} {r : Rg} {w : World}
theorem law18_SegmentRanges_ct (hl : SlR (CE encR) 3 w l_a l) (ht : SlR (IntC .i64) 1 w t_a ts) :
    Calls Try.prog N_law18_SegmentRanges #[(.slice l_a l.length l_c), (.agg #[.int .i64 r.sn, .int .i64 r.f, .int .i64 r.t]), (.slice t_a ts.length t_c)] w fun e w' => e = .returned (.bool true) ∧ Below w.heap.size w w' := by
  apply F_law18_SegmentRanges_ok
  unfold F_law18_SegmentRanges
  have H := St.start (A0 := All w) (P := fun w => SlR (IntC .i64) 1 w t_a ts) (slr_held ht)
  have H := H.hold (sle_held hl)
  have awake : ∀ {w' : World} {R : List Res} {P : World → Prop}, St (All w) [] w w' R P → Calls Try.prog N_law18_awake #[] w' fun e w'' => ∃ r : Bool, e = .returned (.bool r) ∧ (Ending.returned (.bool r) = .returned (.bool true) ∧ Below w.heap.size w w'') := fun H' => by
    refine law18_awake_ct.mono ?_
    rintro _ w2 ⟨rfl, hb2⟩
    exact ⟨_, rfl, rfl, (H'.pass hb2).below⟩
  refine H.alloc ?_; clear H; intro b w1 H1
  refine ⟨fun w5 => ts.length ≤ 400 ∧ l.length ≤ 200 ∧ St (All w) [] w w5 [.blk b Ty_api_Range (encR r)] (fun w => SlR (CE encR) 3 w l_a l ∧ SlR (IntC .i64) 1 w t_a ts), ?_, ?_⟩ --!
  · rintro _  w5 ⟨htl, hll, H5⟩
    have hts : Rolls t_a ts fun w => SlR (CE encR) 3 w l_a l ∧ SlR (IntC .i64) 1 w t_a ts := ⟨fun _ h => h.2, by omega⟩
    refine (made_Roll_ct (ts := ts)).mono ?_ -- (.slice t_a t_l t_c)
    rintro _ w6 ⟨g, rfl, K⟩; have H6 := H5.callR K; clear H5 K
    refine ⟨_, rfl, ?_⟩
    refine dRanges H6 (i := 1) rfl hts (by omega) fun ra rc x0 p1 w7 hx0 hx1 hx2 hp1 H7 => ?_
    clear H6
    refine dNext H7 (i := 1) rfl hts hp1 (by omega) fun r4 p2 w8 _ hr4 hp2 H8 => ?_
    have hr4 := hr4 (by omega)
    clear H7
    refine H8.alloc ?_; clear H8; intro b1 w9 H9
    refine H9.store (i := 3) rfl (by rfl) (by rfl) ?_; clear H9; intro w10 H10
    refine H10.drew ?_; clear H10; intro w11 H11
    refine ⟨fun x => x < w11.heap.size ∧ x ∉ [g], ?_⟩
    refine ⟨⟨H11.lt (i := 3) rfl rfl, nin1 (H11.ne (i := 3) (j := 1) rfl rfl (by decide) rfl rfl)⟩, ?_⟩
    refine H11.ld (i := 3) rfl rfl ?_
    refine kW_i64 (by omega) ?_ -- r4 + (1 : Int)
    refine dNext H11 (i := 1) rfl hts hp2 (by omega) fun r5 p3 w12 f12 hr5 hp3 H12 => ?_
    have hr5 := hr5 (by omega)
    clear H11
    refine ⟨f12.keeps, ?_⟩
    refine kW_i64 (by omega) ?_ -- (r4 + (1 : Int)) + r5
    refine H12.set (i := 3) rfl (by simp) ?_; clear H12; intro w13 H13
    have H13 := H13.shareE encR_ok (i := 2) rfl
    have hts := hts.and fun w => SlR (CE encR) 3 w ra x0
    obtain ⟨y, hy⟩ : ∃ y : Rg, y = ⟨3, r4, r4 + 1 + r5⟩ := ⟨_, rfl⟩
    refine ⟨fun x_a x_l x_c w16 => ∃ x : List Rg, x_l = x.length ∧ x.length ≤ 200 ∧ St (All w) [] w w16 [.blk b Ty_api_Range (encR r), .blk b1 Ty_api_Range (encR y)] (fun w => SlR (CE encR) 3 w x_a x ∧ SlR (CE encR) 3 w l_a l), ?_, ?_⟩ --!
    · rintro _ x_a x_l x_c w16 ⟨x, rfl, hxl, H16⟩
      refine H16.alloc ?_; clear H16; intro b2 w17 H17
      refine H17.store (i := 2) rfl (by rfl) (by rfl) ?_; clear H17; intro w18 H18
      refine ⟨_, _, _, H18.cells (i := 0) rfl, ?_⟩
      refine ⟨_, _, _, H18.cells (i := 1) rfl, ?_⟩
      refine H18.alloc ?_; clear H18; intro b3 w19 H19
      refine H19.store (i := 3) rfl (by rfl) (by rfl) ?_; clear H19; intro w20 H20
      refine ⟨fun i => ((2 - i).toNat, fun w21 => ∃ k : Nat, i = k ∧ k ≤ 2 ∧ St (All w) [] w w21 [.blk b Ty_api_Range (encR r), .blk b1 Ty_api_Range (encR y), .blk b2 Ty_2_S_api_Range [.slice l_a l.length l_c, .slice x_a x.length x_c], .blk b3 Ty_2_api_Range (encR r ++ encR y)] (fun w => SlR (CE encR) 3 w x_a x ∧ SlR (CE encR) 3 w l_a l)), ⟨0, rfl, by omega, H20⟩, ?_⟩ --! I (0 : Int)
      clear H20
      rintro _ i w21 ⟨k, rfl, hk, H21⟩
      refine bsplit_dec (fun c7 => ?_) (fun c7 => awake H21) --  (decide (i < (2 : Int)))
      rw [Int.toNat_natCast, add_mk, add_mk, Nat.zero_add, Nat.zero_add, Nat.mul_one]
      have hr2 : 0 ≤ (k : Int) ∧ (k : Int) < 2 := by omega
      obtain ⟨ma, m, mc, q, hm, hq, hml, hms⟩ : ∃ (ma : Option Addr) (m : List Rg) (mc : Nat) (q : Rg), ([Value.slice l_a l.length l_c, .slice x_a x.length x_c] : List Value)[k]? = some (.slice ma m.length mc) ∧ ((encR r ++ encR y).drop (k * 3)).take 3 = encR q ∧ m.length ≤ 200 ∧
          ∀ w, (SlR (CE encR) 3 w x_a x ∧ SlR (CE encR) 3 w l_a l) → SlR (CE encR) 3 w ma m := by
        rcases (show k = 0 ∨ k = 1 by omega) with rfl | rfl
        · exact ⟨l_a, l, l_c, r, rfl, rfl, hll, fun _ h => h.2⟩
        · exact ⟨x_a, x, x_c, y, rfl, rfl, hxl, fun _ h => h.1⟩
      have q0 : (encR r ++ encR y)[k * 3]? = some (.int .i64 q.sn) := by
        have := congrArg (fun l : List Value => l[0]?) hq
        simpa [encR, List.getElem?_take] using this
      have q2 : (encR r ++ encR y)[k * 3 + 2]? = some (.int .i64 q.t) := by
        have := congrArg (fun l : List Value => l[2]?) hq
        simpa [encR, List.getElem?_take] using this
      clear c7
      refine H21.drew ?_; clear H21; intro w22 H22
      refine ⟨(· < w22.heap.size), ?_⟩
      refine ⟨hr2, ?_⟩
      refine H22.ldS (i := 2) rfl hm ?_
      refine ⟨hr2, ?_⟩
      refine ⟨_, _, _, H22.cellsAt (i := 3) rfl (vs := encR q) hq, ?_⟩
      refine (segment_Union_ct (r := q) (hms _ H22.get) (by omega)).mono ?_
      rintro _ w23 ⟨ua, uc, huc, rfl, K⟩; have hb23 := K.below; have H23 := H22.callF K; clear K
      refine ⟨_, _, _, _, rfl, ?_⟩
      refine ⟨hb23.keeps, ?_⟩
      refine H23.drew ?_; clear H23 H22; intro w24 H24
      refine ⟨(· < w24.heap.size), ?_⟩
      refine ⟨hr2, ?_⟩
      refine H24.ldS (i := 2) rfl hm ?_
      refine ⟨hr2, ?_⟩
      refine ⟨_, _, _, H24.cellsAt (i := 3) rfl (vs := encR q) hq, ?_⟩
      refine (ref18_Union_ct (r := q) (hms _ H24.get.2) (by omega)).mono ?_
      rintro _ w25 ⟨ua1, uc1, huc1, rfl, K⟩; have hb25 := K.below; have H25 := H24.callF K; clear K
      refine ⟨_, _, _, _, rfl, ?_⟩
      refine ⟨hb25.keeps, ?_⟩
      refine H25.drew ?_; clear H25 H24; intro w26 H26
      refine ⟨(· < w26.heap.size), ?_⟩
      refine ⟨hr2, ?_⟩
      refine H26.ldS (i := 2) rfl hm ?_
      refine ⟨hr2, ?_⟩
      refine H26.ld (i := 3) rfl q0 ?_
      refine ⟨hr2, ?_⟩
      rw [add_mk]
      refine H26.ld (i := 3) rfl q2 ?_
      refine (segment_Gaps_ct (hms _ H26.get.2.2) (by omega)).mono ?_
      rintro _ w27 ⟨ga, gc, hgc, rfl, K⟩; have hb27 := K.below; have H27 := H26.callF K; clear K
      refine ⟨_, _, _, _, rfl, ?_⟩
      refine ⟨hb27.keeps, ?_⟩
      refine H27.drew ?_; clear H27 H26; intro w28 H28
      refine ⟨(· < w28.heap.size), ?_⟩
      refine ⟨hr2, ?_⟩
      refine H28.ldS (i := 2) rfl hm ?_
      refine ⟨hr2, ?_⟩
      refine H28.ld (i := 3) rfl q0 ?_
      refine ⟨hr2, ?_⟩
      refine H28.ld (i := 3) rfl q2 ?_
      refine (ref18_Gaps_ct (hms _ H28.get.2.2.2) (by omega)).mono ?_
      rintro _ w29 ⟨ga1, gc1, hgc1, rfl, K⟩; have hb29 := K.below; have H29 := H28.callF K; clear K
      refine ⟨_, _, _, _, rfl, ?_⟩
      refine ⟨hb29.keeps, ?_⟩
      have hul := unionR_len m q
      have hgl := gapR_len m q.sn q.t
      refine bsplit_nd (fun c6 => absurd rfl c6) (fun c6 => ?_) --  (!decide (r7 = r8))
      refine (ref18_SameRanges_ct (l := (unionR m q).1) (m := (unionR m q).1) H29.get.2.2.2.1 H29.get.2.2.1 (by omega)).mono ?_
      rintro _ w30 ⟨rfl, hb30⟩; have H30 := H29.pass hb30; clear H29
      refine ⟨_, rfl, ?_⟩
      refine bsplit_nd (fun c5 => absurd rfl c5) (fun c5 => ?_) --  (!r11)
      refine bsplit_nd (fun c4 => absurd rfl c4) (fun c4 => ?_) --  (!decide (r9 = r10))
      refine (ref18_SameRanges_ct (l := (gapR m q.sn q.t).1) (m := (gapR m q.sn q.t).1) H30.get.2.1 H30.get.1 (by omega)).mono ?_
      rintro _ w31 ⟨rfl, hb31⟩; have H31 := H30.pass hb31; clear H30
      refine ⟨_, rfl, ?_⟩
      refine bsplit_nd (fun c3 => absurd rfl c3) (fun c3 => ?_) --  (!r12)
      refine kW_i64 (by omega) ?_ -- i + (1 : Int)
      exact ⟨⟨k + 1, by omega, by omega, H31.imp fun _ h => h.2.2.2.2⟩, by dsimp only; omega⟩ --! I (i + (1 : Int))
    · refine made_One_ct H13 (i := 1) rfl hts hp3 (by omega) fun v p4 w14 _ hp4 H14 => ?_
      clear H13
      refine bsplit_intro (fun c2 => ?_) (fun c2 => ?_) --  r6
      · refine dOddRange H14 (i := 1) rfl hts hp4 (fun _ h => h.1) (by omega) fun oa oc x p5 w15 hx _ hp5 H15 => ?_
        have H15 := H15.shareE encR_ok (i := 4) rfl
        refine ⟨x, rfl, by omega, (H15.sub (fun i => 3 * i) ?_ (fun _ _ _ _ h => by omega)).imp fun _ h => ⟨h.1, h.2.2.1⟩⟩
        subst hy
        rintro (_ | _ | _) r h <;> first | exact h | cases h
      · refine ⟨x0, rfl, by omega, (H14.sub (fun i => 3 * i) ?_ (fun _ _ _ _ h => by omega)).imp fun _ h => ⟨h.1, h.2.1⟩⟩
        subst hy
        rintro (_ | _ | _) r h <;> first | exact h | cases h
  · refine made_Light_ct.mono ?_ -- (.slice t_a t_l t_c)
    rintro _ w2 ⟨rfl, hb2⟩; have H2 := H1.pass hb2; clear H1
    refine ⟨_, rfl, ?_⟩
    refine bsplit_nd (fun c1 => awake H2) (fun c1 => ?_) --  (!r)
    refine bsplit_dec (fun c => awake H2) (fun c => ?_) --  (decide ((l_l : Int) > (200 : Int)))
    exact ⟨by omega, by omega, H2⟩ --! J
end
end Go.Proofs.Ytelkdacpehdllaa
