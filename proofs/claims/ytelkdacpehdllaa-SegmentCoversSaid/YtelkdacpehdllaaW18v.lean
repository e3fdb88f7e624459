import Derived.Test.YtelkdacpehdllaaW18t
import Derived.Test.YtelkdacpehdllaaP18u
namespace Go.Proofs.Ytelkdacpehdllaa
open Go.Sx Go.RowKit
section
variable {t_a : Option Addr} {ts : List Int} {t_c : Nat} {at1 : Int} {w : World}
theorem unionR_ok {l : List Rg} {r : Rg} (hl : normB (-1) l = true) (h0 : 0 ≤ r.f) (h1 : r.f < r.t) : unionR l r = (unionS r.sn l r.f r.t, 0) := by
  have : normB (-1) [r] = true := by rw [normB_cons]; exact ⟨⟨by omega, h1⟩, rfl⟩
  exact if_neg (by simp [hl, this])
theorem prevT_le {l : List Rg} {m : Int} (h : ∀ x ∈ l, x.t ≤ m) (h0 : 0 < l.length) : prevT l l.length ≤ m := by
  obtain ⟨n, hn⟩ : ∃ n, l.length = n + 1 := ⟨l.length - 1, by omega⟩
  rw [hn]
  have hlt : n < l.length := by omega
  have : prevT l (n + 1) = l[n].t := by simp [prevT, List.getElem?_eq_getElem hlt]
  rw [this]; exact h _ (List.getElem_mem hlt)
theorem gapR_ok {l : List Rg} {sn : Int} (hl : normB (-1) l = true) (h : ∀ x ∈ l, x.t ≤ 100) : gapR l sn 100 = (gapsS sn l 0 100, 0) := by
  unfold gapR
  rw [if_neg (by simp [hl]), if_neg]
  rintro (h' | ⟨h1, h2⟩)
  · omega
  · have := prevT_le h h1; omega
theorem law18_SegmentCovers_ct (ht : SlR (IntC .i64) 1 w t_a ts) :
    Calls Try.prog N_law18_SegmentCovers #[(.slice t_a ts.length t_c), (.int .i64 at1)] w fun e w' => e = .returned (.bool true) ∧ Below w.heap.size w w' := by
  apply F_law18_SegmentCovers_ok
  unfold F_law18_SegmentCovers
  have H := St.start (A0 := All w) (P := fun w => SlR (IntC .i64) 1 w t_a ts) (slr_held ht)
  refine made_Light_ct.mono ?_ -- (.slice t_a t_l t_c)
  rintro _ w1 ⟨rfl, hb1⟩; have H1 := H.pass hb1; clear H
  refine ⟨_, rfl, ?_⟩
  refine bsplit_nd (fun c13 => ?_) (fun c13 => ?_) --  (!r)
  · refine law18_awake_ct.mono ?_ -- 
    rintro _ w2 ⟨rfl, hb2⟩; have H2 := H1.pass hb2; clear H1
    refine ⟨_, rfl, ?_⟩
    exact ⟨rfl, H2.below⟩ --! (.bool r1)
  · have hts : Rolls t_a ts fun w => SlR (IntC .i64) 1 w t_a ts := ⟨fun _ h => h, by omega⟩
    refine (made_Roll_ct (ts := ts)).mono ?_ -- (.slice t_a t_l t_c)
    rintro _ w3 ⟨g, rfl, K⟩; have H3 := H1.callR K; clear H1 K
    refine ⟨_, rfl, ?_⟩
    refine dRanges H3 (i := 0) rfl hts (by omega) fun ra rc l p1 w4 hl0 hln hlt hp1 H4 => ?_
    clear H3
    refine dNext H4 (i := 0) rfl hts hp1 (by omega) fun r3 p2 w5 _ hr3 hp2 H5 => ?_
    have hr3 := hr3 (by omega)
    clear H4
    refine dNext H5 (i := 0) rfl hts hp2 (by omega) fun r4 p3 w6 _ hr4 hp3 H6 => ?_
    have hr4 := hr4 (by omega)
    clear H5
    refine H6.alloc ?_; clear H6; intro b w7 H7
    refine H7.alloc ?_; clear H7; intro b1 w8 H8
    refine H8.store (i := 2) rfl (by rfl) (by rfl) ?_; clear H8; intro w9 H9
    refine H9.store (i := 3) rfl (by rfl) (by rfl) ?_; clear H9; intro w10 H10
    refine H10.drew ?_; clear H10; intro w11 H11
    refine ⟨fun p => p ∈ [⟨b, 1, none⟩, ⟨b1, 1, none⟩], ?_⟩
    refine ⟨by simp, ?_⟩
    refine H11.ld (i := 2) rfl rfl ?_
    refine kW_i64 (by omega) ?_ -- r3 + (1 : Int)
    refine ⟨by simp, ?_⟩
    refine H11.ld (i := 3) rfl rfl ?_
    refine kW_i64 (by omega) ?_ -- r4 + (1 : Int)
    refine dNext H11 (i := 0) rfl hts hp3 (by omega) fun r5 p4 w12 _ hr5 hp4 H12 => ?_
    have hr5 := hr5 (by omega)
    have keep : ∀ {w' : World} {R' : List Res} {cs cs' : List Value}, St (All w) [] w w' R' (fun w => SlR (IntC .i64) 1 w t_a ts) → R'[2]? = some (.blk b Ty_api_Range cs) → cs[1]? = some (.int .i64 r3) → R'[3]? = some (.blk b1 Ty_api_Range cs') → cs'[1]? = some (.int .i64 r4) →
        KeepsA (fun p => p ∈ [⟨b, 1, none⟩, ⟨b1, 1, none⟩]) w11 w' := fun H' h1 h2 h3 h4 => keepsL fun p hp => by
      simp only [List.mem_cons, List.not_mem_nil, or_false] at hp
      rcases hp with rfl | rfl
      · exact ⟨_, H11.cell (i := 2) rfl rfl, H'.cell h1 h2⟩
      · exact ⟨_, H11.cell (i := 3) rfl rfl, H'.cell h3 h4⟩
    refine ⟨keep H12 rfl rfl rfl rfl, ?_⟩
    refine kW_i64 (by omega) ?_ -- (r3 + (1 : Int)) + r5
    refine dNext H12 (i := 0) rfl hts hp4 (by omega) fun r6 p5 w13 _ hr6 hp5 H13 => ?_
    have hr6 := hr6 (by omega)
    refine ⟨keep H13 rfl rfl rfl rfl, ?_⟩
    refine kW_i64 (by omega) ?_ -- (r4 + (1 : Int)) + r6
    refine H13.set (i := 2) rfl (by simp) ?_; intro w14 H14
    refine ⟨keep H14 rfl rfl rfl rfl, ?_⟩
    refine H14.set (i := 3) rfl (by simp) ?_; intro w15 H15
    clear keep H11 H12 H13 H14
    obtain ⟨r, hr⟩ : ∃ r : Rg, r = ⟨1, r3, r3 + 1 + r5⟩ := ⟨_, rfl⟩
    obtain ⟨s, hs⟩ : ∃ s : Rg, s = ⟨1, r4, r4 + 1 + r6⟩ := ⟨_, rfl⟩
    have H15 := H15.shareE encR_ok (i := 1) rfl
    have H15 : St (All w) [] w w15 [dice g t_a t_c ts p5, .gone, .blk b Ty_api_Range (encR r), .blk b1 Ty_api_Range (encR s)] (fun w => SlR (CE encR) 3 w ra l ∧ SlR (IntC .i64) 1 w t_a ts) := by subst hr hs; exact H15
    have hrf : 0 ≤ r.f ∧ r.f < r.t ∧ r.t ≤ 100 ∧ r.sn = 1 := by subst hr; exact ⟨by simp only; omega, by simp only; omega, by simp only; omega, rfl⟩
    have hsf : 0 ≤ s.f ∧ s.f < s.t ∧ s.t ≤ 100 ∧ s.sn = 1 := by subst hs; exact ⟨by simp only; omega, by simp only; omega, by simp only; omega, rfl⟩
    have hl100 : ∀ x ∈ l, x.t ≤ 100 := fun x hx => by have := hlt x hx; omega
    refine ⟨_, _, _, H15.cells (i := 2) rfl, ?_⟩
    obtain ⟨lr, hlr⟩ : ∃ lr, lr = unionS 1 l r.f r.t := ⟨_, rfl⟩
    obtain ⟨ls, hls⟩ : ∃ ls, ls = unionS 1 l s.f s.t := ⟨_, rfl⟩
    obtain ⟨lrs, hlrs⟩ : ∃ lrs, lrs = unionS 1 lr s.f s.t := ⟨_, rfl⟩
    have u1 : unionR l r = (lr, 0) := by rw [unionR_ok hln hrf.1 hrf.2.1, hrf.2.2.2, hlr]
    have u3 : unionR l s = (ls, 0) := by rw [unionR_ok hln hsf.1 hsf.2.1, hsf.2.2.2, hls]
    have n1 : normB (-1) lr = true := by rw [hlr]; exact union_norm 1 l (-1) r.f r.t hln (by omega) hrf.2.1
    have n3 : normB (-1) ls = true := by rw [hls]; exact union_norm 1 l (-1) s.f s.t hln (by omega) hsf.2.1
    have n2 : normB (-1) lrs = true := by rw [hlrs]; exact union_norm 1 lr (-1) s.f s.t n1 (by omega) hsf.2.1
    have u2 : unionR lr s = (lrs, 0) := by rw [unionR_ok n1 hsf.1 hsf.2.1, hsf.2.2.2, hlrs]
    have ecomm : unionS 1 ls r.f r.t = lrs := by rw [hlrs, hlr, hls]; exact (union_comm 1 hln (by omega) hrf.2.1 (by omega) hsf.2.1).symm
    have u4 : unionR ls r = (lrs, 0) := by rw [unionR_ok n3 hrf.1 hrf.2.1, hrf.2.2.2, ecomm]
    have len1 := unionR_len l r; have len2 := unionR_len lr s; have len3 := unionR_len l s
    rw [u1] at len1; rw [u2] at len2; rw [u3] at len3
    simp only at len1 len2 len3
    have t1 : ∀ x ∈ lr, x.t ≤ 100 := by rw [hlr]; exact union_le 1 l _ _ 100 hl100 hrf.2.2.1
    have t2 : ∀ x ∈ lrs, x.t ≤ 100 := by rw [hlrs]; exact union_le 1 lr _ _ 100 t1 hsf.2.2.1
    have s2 : ∀ x ∈ lrs, x.sn = 1 := by rw [hlrs]; exact union_sn 1 lr _ _
    obtain ⟨gp, hgp⟩ : ∃ gp, gp = gapsS 1 lrs 0 100 := ⟨_, rfl⟩
    have g1 : gapR lrs 1 100 = (gp, 0) := by rw [gapR_ok n2 t2, hgp]
    have n5 : normB (-1) gp = true := by rw [hgp]; exact gaps_norm 1 100 lrs (-1) 0 (by simpa using n2) (by omega)
    have t5 : ∀ x ∈ gp, x.t ≤ 100 := by rw [hgp]; exact gaps_le 1 100 lrs 0 fun x hx => by have := (norm_lt lrs _ n2 x hx).2; have := t2 x hx; omega
    have g2 : gapR gp 1 100 = (lrs, 0) := by rw [gapR_ok n5 t5, hgp, gaps_gaps 1 100 n2 s2 t2]
    have len5 := gapR_len lrs 1 100; have len6 := gapR_len gp 1 100
    rw [g1] at len5; rw [g2] at len6
    simp only at len5 len6
    refine (segment_Union_ct (r := r) H15.get.1 (by omega)).mono ?_
    rw [u1]; dsimp only
    rintro _ w16 ⟨a1, c1, _, rfl, K⟩; have H16 := H15.callF K; clear H15 K
    refine ⟨_, _, _, _, rfl, ?_⟩
    refine ⟨_, _, _, H16.cells (i := 3) rfl, ?_⟩
    refine (segment_Union_ct (r := s) H16.get.1 (by omega)).mono ?_
    rw [u2]; dsimp only
    rintro _ w17 ⟨a2, c2, _, rfl, K⟩; have H17 := H16.callF K; clear H16 K
    refine ⟨_, _, _, _, rfl, ?_⟩
    refine ⟨_, _, _, H17.cells (i := 3) rfl, ?_⟩
    refine (segment_Union_ct (r := s) H17.get.2.2.1 (by omega)).mono ?_
    rw [u3]; dsimp only
    rintro _ w18 ⟨a3, c3, _, rfl, K⟩; have H18 := H17.callF K; clear H17 K
    refine ⟨_, _, _, _, rfl, ?_⟩
    refine ⟨_, _, _, H18.cells (i := 2) rfl, ?_⟩
    refine (segment_Union_ct (r := r) H18.get.1 (by omega)).mono ?_
    rw [u4]; dsimp only
    rintro _ w19 ⟨a4, c4, _, rfl, K⟩; have H19 := H18.callF K; clear H18 K
    refine ⟨_, _, _, _, rfl, ?_⟩
    refine (segment_Gaps_ct H19.get.2.2.1 (by omega)).mono ?_
    rw [g1]; dsimp only
    rintro _ w20 ⟨a5, c5, _, rfl, K⟩; have H20 := H19.callF K; clear H19 K
    refine ⟨_, _, _, _, rfl, ?_⟩
    refine (segment_Gaps_ct H20.get.1 (by omega)).mono ?_
    rw [g2]; dsimp only
    rintro _ w21 ⟨a6, c6, _, rfl, K⟩; have H21 := H20.callF K; clear H20 K
    refine ⟨_, _, _, _, rfl, ?_⟩
    refine (made_Mod_ct at1 100 (by omega)).mono ?_ -- (.int .i64 at1), (.int .i64 (100 : Int))
    rintro _ w22 ⟨rfl, hb22⟩; have H22 := H21.pass hb22; clear H21
    refine ⟨_, rfl, ?_⟩
    have hk := modI_range at1 100 (by omega)
    obtain ⟨k, hke⟩ : ∃ k, k = modI at1 100 := ⟨_, rfl⟩
    rw [← hke] at hk ⊢
    have hcov : covB k lrs = (covB k l || covB k [r] || covB k [s]) := by
      have q1 : ∀ x ∈ l, x.f < x.t := fun x hx => (norm_lt l _ hln x hx).2
      have q2 : ∀ x ∈ lr, x.f < x.t := fun x hx => (norm_lt lr _ n1 x hx).2
      rw [hlrs, union_cov 1 k lr s.f s.t hsf.2.1 q2, hlr, union_cov 1 k l r.f r.t hrf.2.1 q1]
      rw [covB_cons, covB_cons]
      simp only [covB, List.any_nil, Bool.or_false]
      cases decide (s.f ≤ k ∧ k < s.t) <;> cases decide (r.f ≤ k ∧ k < r.t) <;> simp
    have hcov2 : covB k gp = !covB k lrs := by
      rw [hgp, gaps_cov 1 k 100 lrs 0 (by simpa using n2) t2, decide_eq_true (by omega), Bool.true_and]
    refine ⟨fun in1 w28 => in1 = (covB k l || covB k [r] || covB k [s]) ∧ St (All w) [] w w28 [] (fun w => SlR (CE encR) 3 w a6 lrs ∧ SlR (CE encR) 3 w a5 gp ∧ SlR (CE encR) 3 w a4 lrs ∧ SlR (CE encR) 3 w a2 lrs), ?_, ?_⟩ --!
    · rintro _ in1 w28 ⟨hin, H28⟩
      rw [← hcov] at hin
      refine law18_awake_ct.mono ?_ -- 
      rintro _ w29 ⟨rfl, hb29⟩; have H29 := H28.pass hb29; clear H28
      refine ⟨_, rfl, ?_⟩
      refine bsplit_intro (fun _ => ?_) (fun c12 => by cases c12) --  r17
      refine bsplit_dec (fun _ => ?_) (fun c11 => absurd rfl c11)
      refine bsplit_dec (fun _ => ?_) (fun c11 => absurd rfl c11)
      refine bsplit_dec (fun _ => ?_) (fun c11 => absurd rfl c11)
      refine bsplit_dec (fun _ => ?_) (fun c11 => absurd rfl c11)
      refine bsplit_dec (fun _ => ?_) (fun c11 => absurd rfl c11)
      refine bsplit_dec (fun _ => ?_) (fun c11 => absurd rfl c11)
      refine (ref18_Normal_ct H29.get.2.2.2 (by omega)).mono ?_
      rintro _ w30 ⟨rfl, hb30⟩; have H30 := H29.pass hb30; clear H29
      refine ⟨_, rfl, ?_⟩
      refine bsplit_intro (fun _ => ?_) (fun c => by rw [n2] at c; cases c) --  r18
      refine (ref18_SameRanges_ct H30.get.2.2.2 H30.get.2.2.1 (by omega)).mono ?_
      rintro _ w31 ⟨rfl, hb31⟩; have H31 := H30.pass hb31; clear H30
      refine ⟨_, rfl, ?_⟩
      refine bsplit_dec (fun _ => ?_) (fun c => absurd rfl c) --  r19
      refine (law18_covers_ct H31.get.2.2.2 (by omega)).mono ?_
      rintro _ w32 ⟨rfl, hb32⟩; have H32 := H31.pass hb32; clear H31
      refine ⟨_, rfl, ?_⟩
      refine bsplit_intro (fun _ => ?_) (fun c => by rw [hin] at c; simp at c) --  (r20 == in1)
      refine (law18_covers_ct H32.get.2.1 (by omega)).mono ?_
      rintro _ w33 ⟨rfl, hb33⟩; have H33 := H32.pass hb33; clear H32
      refine ⟨_, rfl, ?_⟩
      refine bsplit_n (fun _ => ?_) (fun c => by rw [hin, hcov2] at c; simp at c) --  (!(r21 == in1))
      refine (ref18_SameRanges_ct H33.get.1 H33.get.2.2.2 (by omega)).mono ?_
      rintro _ w34 ⟨rfl, hb34⟩; have H34 := H33.pass hb34; clear H33
      refine ⟨_, rfl, ?_⟩
      exact ⟨by rw [decide_eq_true rfl], H34.below⟩ --! (.bool r22)
    · have fin : ∀ {w' : World} {R : List Res} {P : World → Prop}, St (All w) [] w w' R (fun w => SlR (CE encR) 3 w a6 lrs ∧ SlR (CE encR) 3 w a5 gp ∧ SlR (CE encR) 3 w a4 lrs ∧ SlR (CE encR) 3 w a3 ls ∧ SlR (CE encR) 3 w a2 lrs ∧ P w) → St (All w) [] w w' [] (fun w => SlR (CE encR) 3 w a6 lrs ∧ SlR (CE encR) 3 w a5 gp ∧ SlR (CE encR) 3 w a4 lrs ∧ SlR (CE encR) 3 w a2 lrs) :=
        fun H' => H'.fin.imp fun _ h => ⟨h.1, h.2.1, h.2.2.1, h.2.2.2.2.1⟩
      refine (law18_covers_ct H22.get.2.2.2.2.2.2.1 (by omega)).mono ?_
      rintro _ w23 ⟨rfl, hb23⟩; have H23 := H22.pass hb23; clear H22
      refine ⟨_, rfl, ?_⟩
      refine bsplit_intro (fun q1 => ⟨by rw [q1]; rfl, fin H23⟩) (fun q1 => ?_) --  r14
      refine ⟨_, _, _, H23.cells (i := 2) rfl, ?_⟩
      refine H23.alloc ?_; clear H23; intro b2 w24 H24
      refine (law18_covers_ct (l := [r]) (H24.slBlk encR_ok (i := 4) [r] rfl) (by simp)).mono ?_
      rintro _ w25 ⟨rfl, hb25⟩; have H25 := H24.pass hb25; clear H24
      refine ⟨_, rfl, ?_⟩
      refine bsplit_intro (fun q2 => ⟨by rw [q2]; simp, fin H25⟩) (fun q2 => ?_) --  r15
      refine ⟨_, _, _, H25.cells (i := 3) rfl, ?_⟩
      refine H25.alloc ?_; clear H25; intro b3 w26 H26
      refine (law18_covers_ct (l := [s]) (H26.slBlk encR_ok (i := 5) [s] rfl) (by simp)).mono ?_
      rintro _ w27 ⟨rfl, hb27⟩; have H27 := H26.pass hb27; clear H26
      refine ⟨_, rfl, ?_⟩
      exact ⟨by rw [q1, q2]; simp, fin H27⟩ --! J r16
end
end Go.Proofs.Ytelkdacpehdllaa
