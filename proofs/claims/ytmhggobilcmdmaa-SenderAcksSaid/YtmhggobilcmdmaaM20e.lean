import Derived.Test.YtmhggobilcmdmaaM20c
import Derived.Test.YtmhggobilcmdmaaFxSenderAcks
namespace Go.Proofs.Ytmhggobilcmdmaa
open Go.Sx Go.RowKit
set_option maxRecDepth 100000
theorem filterMap_at {α β : Type} {f : α → Option β} {L : List α} {i : Nat} (hi : i < L.length) : ((L.take (i + 1)).filterMap f) = (L.take i).filterMap f ++ (f L[i]).toList ∧ (∀ v, f L[i] = some v → (L.filterMap f)[((L.take i).filterMap f).length]? = some v) := by
  have e : L = L.take i ++ L[i] :: L.drop (i + 1) := by rw [← List.drop_eq_getElem_cons hi, List.take_append_drop]
  refine ⟨?_, fun v hv => ?_⟩
  · rw [List.take_succ_eq_append_getElem hi, List.filterMap_append]
    cases h : f L[i] with
    | none => simp [h]
    | some v => simp [h]
  · obtain ⟨A, hA⟩ : ∃ A, A = L.take i := ⟨_, rfl⟩
    obtain ⟨B, hB⟩ : ∃ B, B = L.drop (i + 1) := ⟨_, rfl⟩
    rw [← hA, ← hB] at e
    rw [← hA]
    obtain ⟨x, hx⟩ : ∃ x, x = L[i] := ⟨_, rfl⟩
    rw [← hx] at e hv
    rw [e, List.filterMap_append, List.filterMap_cons_some hv]
    simp
/-- a law's first steps: the numbers are few, dice are made of them -/
theorem law20_SenderAcks_ct {ta : Option Addr} {tc : Nat} {ts : List Int} {w : World} (hts : SlR (IntC .i64) 1 w ta ts) :
    Calls Try.prog N_law20_SenderAcks #[(.slice ta ts.length tc)] w fun e w' => e = .returned (.bool true) ∧ Below w.heap.size w w' := by
  apply F_law20_SenderAcks_ok
  unfold F_law20_SenderAcks
  have H := (St.startA w).hold (slr_held hts)
  refine made_Light_ct.mono ?_ -- (.slice t_a t_l t_c)
  rintro _ w1 ⟨rfl, hb1⟩; have H1 := H.pass hb1; clear H
  refine ⟨_, rfl, ?_⟩
  refine bsplit_nd (fun c16 => ?_) (fun c16 => ?_) --  (!r)
  · refine law20_awake_ct.mono ?_ -- 
    rintro _ w2 ⟨rfl, hb2⟩; have H2 := H1.pass hb2; clear H1
    exact ⟨_, rfl, rfl, H2.below⟩
  refine made_Roll_ct.mono ?_ -- (.slice t_a t_l t_c)
  rintro _ w3 ⟨g, rfl, K⟩; have H3 := H1.callR K; clear H1 K
  simp only [List.nil_append] at H3
  have hR0 : Rolls ta ts fun w => SlR (IntC .i64) 1 w ta ts ∧ True := ⟨fun _ h => h.1, by omega⟩
  refine ⟨_, rfl, ?_⟩
  refine (randomF H3 (i := 0) rfl hR0 (Nat.zero_le _)).mono ?_
  rintro _ w4 ⟨s, ua, uc, Lu, p1, rfl, hok, hgu, hLu, hp1, H4⟩; clear H3
  simp only [List.set_cons_zero] at H4
  refine ⟨_, _, _, _, _, _, _, _, _, _, _, _, _, _, _, rfl, ?_⟩
  refine H4.alloc ?_; clear H4; intro b w5 H5
  simp only [List.cons_append, List.nil_append] at H5
  refine H5.store (i := 1) rfl (by rfl) (by rfl) ?_; clear H5; intro w6 H6
  simp only [List.set_cons_succ, List.set_cons_zero] at H6
  refine ⟨_, _, _, _, _, _, _, _, _, _, _, _, _, _, _, H6.cells (i := 1) rfl, ?_⟩
  refine (reportF H6 (i := 0) rfl (hR0.and _) hp1 hok).mono ?_
  rintro _ w7 ⟨r, ma, mc, p2, rfl, hup, hml, hp2, H7⟩; clear H6
  simp only [List.set_cons_zero] at H7
  refine ⟨_, _, _, _, rfl, ?_⟩
  refine H7.alloc ?_; clear H7; intro b1 w8 H8
  simp only [List.cons_append, List.nil_append] at H8
  refine H8.store (i := 2) rfl (by rfl) (by rfl) ?_; clear H8; intro w9 H9
  simp only [List.set_cons_succ, List.set_cons_zero] at H9
  refine ⟨_, _, _, _, _, _, _, _, _, _, _, _, _, _, _, H9.cells (i := 1) rfl, ?_⟩
  refine ⟨_, _, _, _, H9.cells (i := 2) rfl, ?_⟩
  obtain ⟨pr, hpr⟩ : ∃ pr, pr = repS s r := ⟨_, rfl⟩
  have C := sender_Report_ct (s := s) (r := r) (a := ua) (c := uc) (ma := ma) (mc := mc) (w := w9) (H9.get.2.1.un hLu) hgu.1 H9.get.1 (by omega)
  rw [← hpr] at C
  have hgx : GU pr.1.units := by rw [hpr]; exact rep_gu hgu (by omega)
  refine C.mono ?_; clear C
  rintro _ w10 hh; obtain ⟨xa, xc, rfl, K⟩ := hh.fresh; have H10 := H9.callF K; clear hh K H9
  refine ⟨_, _, _, _, _, _, _, _, _, _, _, _, _, _, _, _, rfl, ?_⟩
  simp only [List.append_nil] at H10
  refine H10.alloc ?_; clear H10; intro b2 w11 H11
  simp only [List.cons_append, List.nil_append] at H11
  refine H11.store (i := 3) rfl (by rfl) (by rfl) ?_; clear H11; intro w12 H12
  simp only [List.set_cons_succ, List.set_cons_zero] at H12
  refine law20_awake_ct.mono ?_ -- 
  rintro _ w13 ⟨rfl, hb13⟩; have H13 := H12.pass hb13; clear H12
  refine ⟨_, rfl, ?_⟩
  refine bsplit_n (fun h => by cases h) (fun _ => ?_) --  (!r4)
  have hb := hok.lk.1
  refine bsplit_nd (fun c14 => ?_) (fun c14 => ?_) --  (!decide (r3 = (0 : Int)))
  · -- an error
    have he : (¬ okS s.lk.bits r ∧ pr.2 = 1) ∨ (okS s.lk.bits r ∧ s.failed = true ∧ pr.2 = 16) := by
      have hokb := okB_iff.2 hok
      rw [hpr] at c14 ⊢
      unfold repS at c14 ⊢
      by_cases h1 : okS s.lk.bits r
      · rw [if_neg (by rw [hokb]; simp [h1])] at c14 ⊢
        by_cases h2 : s.failed = true
        · rw [if_pos h2]; exact .inr ⟨h1, h2, rfl⟩
        · rw [if_neg h2, if_neg (by omega)] at c14; exact absurd rfl c14
      · rw [if_pos (.inr h1)]; exact .inl ⟨h1, rfl⟩
    refine H13.ldB (i := 1) rfl rfl ?_
    refine bsplit_intro (fun c3 => ?_) (fun c3 => ?_) --  r_12
    · refine bsplit_dec (fun c1 => ⟨rfl, H13.below⟩) (fun c1 => ?_) --  (decide (r3 = (16 : Int)))
      rcases he with ⟨h1, h2⟩ | ⟨_, _, h2⟩
      · refine H13.ld (i := 1) rfl rfl ?_
        refine ⟨_, _, _, _, H13.cells (i := 2) rfl, ?_⟩
        refine (ref19_Valid_ct H13.get.2.1 (by omega)).mono ?_
        rintro _ w14 ⟨rfl, hb14⟩; have H14 := H13.pass hb14; clear H13
        refine ⟨_, rfl, ?_⟩
        refine bsplit_nd (fun c => ?_) (fun c => absurd c h1) --  (!r5)
        refine kLet_in ?_
        exact ⟨by rw [h2]; rfl, H14.below⟩
      · exact absurd h2 c1
    · rcases he with ⟨h1, h2⟩ | ⟨_, h3, _⟩
      · refine H13.ld (i := 1) rfl rfl ?_
        refine ⟨_, _, _, _, H13.cells (i := 2) rfl, ?_⟩
        refine (ref19_Valid_ct H13.get.2.1 (by omega)).mono ?_
        rintro _ w14 ⟨rfl, hb14⟩; have H14 := H13.pass hb14; clear H13
        refine ⟨_, rfl, ?_⟩
        refine bsplit_nd (fun c => ?_) (fun c => absurd c h1) --  (!r5)
        refine kLet_in ?_
        exact ⟨by rw [h2]; rfl, H14.below⟩
      · have c3 : s.failed = false := c3
        rw [h3] at c3; cases c3
  -- what it takes away
  have c14 : pr.2 = 0 := c14
  have hrep := rep_ok hok (r := r) (by rw [← hpr]; exact c14)
  rw [← hpr] at hrep
  have hxu := hrep.2.2.1
  obtain ⟨f, hf⟩ : ∃ f, f = repU s (s.place r.upto) r.miss := ⟨_, rfl⟩
  rw [← hf] at hxu
  have hful := (okB_fit (okB_iff.2 hok)).1.1
  have hlen : Lu.length = s.units.length := by rw [← hLu, List.length_map]
  have hxl : pr.1.units.length ≤ s.units.length := by rw [hxu]; exact List.length_filterMap_le _ _
  refine H13.ld (i := 1) rfl rfl ?_
  refine H13.ld (i := 1) rfl rfl ?_
  refine H13.ld (i := 2) rfl rfl ?_
  refine (ref20_Place_ct (s := s) hb).mono ?_
  rintro _ w16 ⟨rfl, hb16⟩; have H16 := H13.pass hb16; clear H13
  refine ⟨_, rfl, ?_⟩
  replace H16 : St (All w) [] w w16 [dice g ta tc ts p2, .blk b Ty_api_Sender (encS s ua uc), .blk b1 Ty_api_Status [.int .i64 r.upto, .slice ma r.miss.length mc], .blk b2 Ty_api_Sender (encS pr.1 xa xc)] (fun w => UnR w xa pr.1.units ∧ SlR (CE encR) 3 w ma r.miss ∧ UnL w ua Lu) := H16.imp fun _ h => ⟨h.1, h.2.1, h.2.2.1⟩
  refine ⟨fun k i => ((s.units.length - i).toNat, fun w17 => ∃ j : Nat, i = j ∧ j ≤ s.units.length ∧ k = ((s.units.take j).filterMap f).length ∧
    St (All w) [] w w17 [dice g ta tc ts p2, .blk b Ty_api_Sender (encS s ua uc), .blk b1 Ty_api_Status [.int .i64 r.upto, .slice ma r.miss.length mc], .blk b2 Ty_api_Sender (encS pr.1 xa xc)] (fun w => UnR w xa pr.1.units ∧ SlR (CE encR) 3 w ma r.miss ∧ UnL w ua Lu)), ⟨0, rfl, by omega, rfl, H16⟩, ?_⟩
  clear H16
  rintro _ k i w17 ⟨j, rfl, hj, rfl, H17⟩
  refine H17.ldS (i := 1) rfl rfl ?_
  refine bsplit_dec (fun c13 => ?_) (fun c13 => ?_) --  (decide (i < (r_8_l : Int)))
  · have hjl : j < s.units.length := by omega
    obtain ⟨hstep, hat⟩ := filterMap_at (f := f) hjl
    obtain ⟨u, hu⟩ : ∃ u, u = s.units[j] := ⟨_, rfl⟩
    rw [← hu] at hstep hat
    obtain ⟨k, hk⟩ : ∃ k, k = ((s.units.take j).filterMap f).length := ⟨_, rfl⟩
    rw [← hk] at hat ⊢
    have hkl : k ≤ s.units.length := by rw [hk]; refine Nat.le_trans (List.length_filterMap_le _ _) ?_; rw [List.length_take]; omega
    have hk1 : ((s.units.take (j + 1)).filterMap f).length = k + (f u).toList.length := by rw [hstep, List.length_append, hk]
    refine ⟨fun k1 w26 => k1 = (k + (f u).toList.length : Nat) ∧ St (All w) [] w w26 [dice g ta tc ts p2, .blk b Ty_api_Sender (encS s ua uc), .blk b1 Ty_api_Status [.int .i64 r.upto, .slice ma r.miss.length mc], .blk b2 Ty_api_Sender (encS pr.1 xa xc)] (fun w => UnR w xa pr.1.units ∧ SlR (CE encR) 3 w ma r.miss ∧ UnL w ua Lu), ?_, ?_⟩
    · rintro _ k1 w26 ⟨rfl, H26⟩
      refine kW_i64 (by omega) ?_ -- i + (1 : Int)
      exact ⟨⟨j + 1, by omega, by omega, by rw [hk1], H26⟩, by dsimp only; omega⟩ --! I k1 (i + (1 : Int))
    · refine H17.ldS (i := 1) rfl rfl ?_
      have hjL : j < Lu.length := by omega
      obtain ⟨z, hz⟩ : ∃ z, z = Lu[j] := ⟨_, rfl⟩
      have hzm : z ∈ Lu := by rw [hz]; exact List.getElem_mem _
      have hzu : z.u = u := by rw [hz, hu]; simp [← hLu]
      rw [← hlen]
      refine ixE H17.get.2.2.1 j rfl hjL fun b3 y hy hb3 => ?_
      rw [List.getElem?_eq_getElem hjL] at hy
      injection hy with hy
      rw [← hy, ← hz] at hb3
      change cellsAt _ _ _ (encU z.u z.a z.c z.a2 z.c2) at hb3
      rw [hzu] at hb3
      obtain ⟨da, hda⟩ : ∃ da, da = z.a := ⟨_, rfl⟩
      obtain ⟨dc, hdc⟩ : ∃ dc, dc = z.c := ⟨_, rfl⟩
      obtain ⟨aa, haa⟩ : ∃ aa, aa = z.a2 := ⟨_, rfl⟩
      obtain ⟨ac, hac⟩ : ∃ ac, ac = z.c2 := ⟨_, rfl⟩
      rw [← hda, ← hdc, ← haa, ← hac] at hb3
      refine ⟨_, _, _, _, _, _, _, _, _, hb3, ?_⟩
      refine H17.alloc ?_; intro b4 w18 H18
      simp only [List.cons_append, List.nil_append] at H18
      refine H18.store (i := 4) rfl (by rfl) (by rfl) ?_; clear H18; intro w19 H19
      simp only [List.set_cons_succ, List.set_cons_zero] at H19
      refine ⟨fun named i => ((r.miss.length - i).toNat, fun w20 => ∃ q : Nat, i = q ∧ q ≤ r.miss.length ∧ named = (r.miss.take q).any (fun x => decide (x.sn = u.sn)) ∧
        St (All w) [] w w20 [dice g ta tc ts p2, .blk b Ty_api_Sender (encS s ua uc), .blk b1 Ty_api_Status [.int .i64 r.upto, .slice ma r.miss.length mc], .blk b2 Ty_api_Sender (encS pr.1 xa xc), .blk b4 Ty_api_Unit (encU u da dc aa ac)] (fun w => UnR w xa pr.1.units ∧ SlR (CE encR) 3 w ma r.miss ∧ UnL w ua Lu)), ⟨0, rfl, by omega, by simp, H19⟩, ?_⟩
      clear H19
      rintro _ named i w20 ⟨q, rfl, hq, rfl, H20⟩
      refine H20.ldS (i := 2) rfl rfl ?_
      refine bsplit_dec (fun c12 => ?_) (fun c12 => ?_) --  (decide (j < (r_1_l : Int)))
      · have hql : q < r.miss.length := by omega
        have hn1 : (r.miss.take (q + 1)).any (fun x => decide (x.sn = u.sn)) = ((r.miss.take q).any (fun x => decide (x.sn = u.sn)) || decide (r.miss[q].sn = u.sn)) := by
          rw [List.take_succ_eq_append_getElem hql, List.any_append]; simp
        refine H20.drew ?_; clear H20; intro w21 H21
        refine bsplit_intro (fun c4 => ?_) (fun c4 => ?_) --  named
        · refine kW_i64 (by omega) ?_ -- j + (1 : Int)
          exact ⟨⟨q + 1, by omega, by omega, by rw [hn1, c4, Bool.true_or], H21⟩, by dsimp only; omega⟩ --! I true (j + (1 : Int))
        · refine H21.ldS (i := 2) rfl rfl ?_
          refine ixE H21.get.2.1 q rfl hql fun b5 x hx hb5 => ?_
          rw [List.getElem?_eq_getElem hql] at hx
          injection hx with hx
          refine ⟨_, hb5.1, ?_⟩
          refine H21.ld (i := 4) rfl rfl ?_
          refine kLet_in ?_
          refine kW_i64 (by omega) ?_ -- j + (1 : Int)
          exact ⟨⟨q + 1, by omega, by omega, by rw [hn1, c4, Bool.false_or, hx], H21⟩, by dsimp only; omega⟩
      · obtain rfl : q = r.miss.length := by omega
        rw [List.take_length]
        have hnm : (r.miss.any fun x => decide (x.sn = u.sn)) = (missS u r.miss).2 := by rw [missS_map]
        rw [hnm]
        have hfu : f u = if s.place r.upto ≤ s.place u.sn then some u
            else if (missS u r.miss).2 = true then some (if u.again.length = 0 ∧ 0 < (missS u r.miss).1.length ∧ u.tries ≠ s.lk.tries then { u with again := (missS u r.miss).1, tries := u.tries + 1 } else { u with again := (missS u r.miss).1 })
            else if wholeU u then none else some u := by rw [hf]; rfl
        refine ⟨fun w23 => (∃ v, f u = some v) ∧ St (All w) [] w w23 [dice g ta tc ts p2, .blk b Ty_api_Sender (encS s ua uc), .blk b1 Ty_api_Status [.int .i64 r.upto, .slice ma r.miss.length mc], .blk b2 Ty_api_Sender (encS pr.1 xa xc), .blk b4 Ty_api_Unit (encU u da dc aa ac)] (fun w => UnR w xa pr.1.units ∧ SlR (CE encR) 3 w ma r.miss ∧ UnL w ua Lu), ?_, ?_⟩
        · rintro _ w23 ⟨⟨v, hv⟩, H23⟩
          have hvx := hat v hv
          rw [← hxu] at hvx
          obtain ⟨hkx, hvx⟩ := List.getElem?_eq_some_iff.1 hvx
          have hv2 := hv
          rw [hf] at hv2
          obtain ⟨v1, v2, v3, _⟩ := repU_some hv2
          refine H23.drew ?_; clear H23; intro w24 H24
          have hux := H24.get.1
          refine H24.ldS (i := 3) rfl rfl ?_
          refine bsplit_dec (fun c11 => absurd c11 (by omega)) (fun c11 => ?_) --  (decide (k = (r_8_l1 : Int)))
          refine H24.ldS (i := 3) rfl rfl ?_
          refine ixU hux k rfl hkx fun b6 hb6 => ?_
          rw [hvx] at hb6
          obtain ⟨da2, dc2, _, _, hb6, _, _⟩ := hb6
          refine ⟨_, hb6.1, ?_⟩
          refine H24.ld (i := 4) rfl rfl ?_
          refine bsplit_nd (fun c10 => absurd v1 c10) (fun _ => ?_) --  (!decide (x16 = x_05))
          refine H24.ldS (i := 3) rfl rfl ?_
          refine ixU hux k rfl hkx fun b7 hb7 => ?_
          rw [hvx] at hb7
          obtain ⟨_, _, _, _, hb7, _, _⟩ := hb7
          refine ⟨_, unC_at hb7 2 rfl, ?_⟩
          refine H24.ld (i := 4) rfl rfl ?_
          refine bsplit_nd (fun c9 => absurd v3 c9) (fun _ => ?_) --  (!decide (x18 = x_22))
          refine H24.ldS (i := 3) rfl rfl ?_
          refine ixU hux k rfl hkx fun b8 hb8 => ?_
          rw [hvx] at hb8
          obtain ⟨da8, dc8, _, _, hb8, hd8, _⟩ := hb8
          refine ⟨_, _, _, unC_at hb8 1 rfl, ?_⟩
          refine H24.ldS (i := 4) rfl rfl ?_
          have hum : u ∈ s.units := by rw [hu]; exact List.getElem_mem _
          have hdu : SlR (IntC .u8) 1 w24 da u.data := by
            have := H24.get.2.2.2.1 z hzm
            rw [hzu, ← hda] at this; exact this
          refine (ref01_Same_ct hd8 hdu (by rw [v2]; exact hgu.2 u hum) (hgu.2 u hum)).mono ?_
          rintro _ w25 ⟨rfl, hb25⟩; have H25 := H24.pass hb25
          refine ⟨_, rfl, ?_⟩
          refine bsplit_nd (fun c8 => absurd v2 c8) (fun _ => ?_) --  (!r9)
          refine kW_i64 (by omega) ?_ -- k + (1 : Int)
          exact ⟨by rw [hv]; simp, St.dropLast (R := [_, _, _, _]) H25⟩
        · refine H20.ld (i := 1) rfl rfl ?_
          refine H20.ld (i := 1) rfl rfl ?_
          refine H20.ld (i := 4) rfl rfl ?_
          refine (ref20_Place_ct (s := s) hb).mono ?_
          rintro _ w22 ⟨rfl, hb22⟩; have H22 := H20.pass hb22; clear H20
          refine ⟨_, rfl, ?_⟩
          refine bsplit_dec (fun c7 => ?_) (fun c7 => ?_) --  (decide (r8 < r7))
          · rw [if_neg (by omega)] at hfu
            refine bsplit_n (fun c6 => ?_) (fun c6 => ?_) --  (!named)
            · rw [if_neg (by rw [c6]; decide)] at hfu
              refine H22.ld (i := 4) rfl rfl ?_
              refine H22.ldS (i := 4) rfl rfl ?_
              refine bsplit_dec (fun c5 => ?_) (fun c5 => ?_) --  (decide (x_22 = (x_1_l3 : Int)))
              · rw [if_pos (show wholeU u from c5)] at hfu
                exact ⟨by rw [hfu]; rfl, St.dropLast (R := [_, _, _, _]) H22⟩
              · rw [if_neg (show ¬ wholeU u from c5)] at hfu
                exact ⟨⟨_, hfu⟩, H22⟩
            · rw [if_pos c6] at hfu
              exact ⟨⟨_, hfu⟩, H22⟩
          · rw [if_pos (by omega)] at hfu
            exact ⟨⟨_, hfu⟩, H22⟩
  · obtain rfl : j = s.units.length := by omega
    refine H17.ldS (i := 3) rfl rfl ?_
    refine kLet_in ?_
    rw [List.take_length, ← hxu]
    exact ⟨by rw [decide_eq_true rfl], H17.below⟩
end Go.Proofs.Ytmhggobilcmdmaa
