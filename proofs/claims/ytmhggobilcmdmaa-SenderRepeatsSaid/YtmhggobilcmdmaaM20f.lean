import Derived.Test.YtmhggobilcmdmaaM20c
import Derived.Test.YtmhggobilcmdmaaM20d
import Derived.Test.YtmhggobilcmdmaaFxSenderRepeats
namespace Go.Proofs.Ytmhggobilcmdmaa
open Go.Sx Go.RowKit
set_option maxRecDepth 100000
theorem ixL {w : World} {a : Option Addr} {L : List UP} {n : Nat} (h : SlR (CE encUP) 5 w a L) (i : Nat) {j : Int} (hj : j = i) (hi : i < L.length) (hn : n = L.length) {F : Addr → Prop}
    (hF : ∀ b, cellsAt w (b.add (j.toNat * 5)) 0 (encU L[i].u L[i].a L[i].c L[i].a2 L[i].c2) → F b) : kIx a n j F := by
  subst hn
  refine ixE h i hj hi fun b y hy hb => hF b ?_
  rw [List.getElem?_eq_getElem hi] at hy
  injection hy with hy
  rw [← hy] at hb
  exact hb
def NextR (s : Sd) (sn f t : Int) (b : Bool) : Prop := (b = false → ∀ u ∈ s.units, askU u = false) ∧ (b = true → ∃ (k : Nat) (hk : k < s.units.length), leftI s.units = k ∧ sn = s.units[k].sn ∧ f = (partU s.units[k]).f ∧ t = (partU s.units[k]).t)
theorem law20_next_ct {s : Sd} {a : Option Addr} {c : Nat} {w : World} (hu : UnR w a s.units) (hl : s.units.length ≤ 1000) :
    Calls Try.prog N_law20_next #[aggS s a c] w fun e w' => ∃ (sn f t : Int) (b : Bool), e = .returned (.tuple #[.int .i64 sn, .int .i64 f, .int .i64 t, .bool b]) ∧ NextR s sn f t b ∧ Below w.heap.size w w' := by
  obtain ⟨L, hL, hsl, _, hrl⟩ := unR_up hu
  have hlen : L.length = s.units.length := by rw [← hL, List.length_map]
  apply F_law20_next_ok
  unfold F_law20_next
  have H := St.nil w
  refine H.alloc ?_; clear H; intro b w1 H1
  simp only [List.nil_append] at H1
  refine ⟨fun i => ((s.units.length - i).toNat, fun w2 => ∃ k : Nat, i = k ∧ k ≤ s.units.length ∧ (∀ j (hj : j < s.units.length), j < k → askU s.units[j] = false) ∧ St (fun _ => False) [] w w2 [.blk b Ty_api_Sender (encS s a c)] (fun _ => True)), ⟨0, rfl, by omega, fun j hj h => by omega, H1⟩, ?_⟩
  clear H1
  rintro _ i w2 ⟨k, rfl, hk, hno, H2⟩
  refine H2.ldS (i := 0) rfl rfl ?_
  refine bsplit_dec (fun c1 => ?_) (fun c1 => ?_) --  (decide (i < (s_8_l : Int)))
  · have hkl : k < s.units.length := by omega
    refine H2.ldS (i := 0) rfl rfl ?_
    have hkL : k < L.length := by omega
    obtain ⟨z, hz⟩ : ∃ z, z = L[k] := ⟨_, rfl⟩
    have hzm : z ∈ L := by rw [hz]; exact List.getElem_mem _
    have hzu : z.u = s.units[k] := by rw [hz]; simp [← hL]
    refine ixL (hsl.belowE H2.below) k rfl hkL hlen.symm fun b1 hb1 => ?_
    rw [← hz, hzu] at hb1
    refine ⟨_, _, _, unC_at hb1 4 rfl, ?_⟩
    refine bsplit_dec (fun c => ?_) (fun c => ?_) --  (decide ((x_l2 : Int) > (0 : Int)))
    · have hask : askU s.units[k] = true := by unfold askU; rw [decide_eq_true_iff]; omega
      obtain ⟨r, l, hag⟩ : ∃ r l, s.units[k].again = r :: l := by
        cases h : s.units[k].again with
        | nil => rw [h] at c; simp at c
        | cons r l => exact ⟨r, l, rfl⟩
      have hp : partU s.units[k] = r := by unfold partU; rw [hag]
      have hx : idx askU s.units = k := idx_at hkl (fun j hj h => hno j hj h) hask
      have hlk : leftI s.units = k := by unfold leftI; rw [if_pos (by omega), hx]
      refine H2.drew ?_; clear H2; intro w3 H3
      refine H3.ldS (i := 0) rfl rfl ?_
      refine ixL (hsl.belowE H3.below) k rfl hkL hlen.symm fun b2 hb2 => ?_
      rw [← hz, hzu] at hb2
      refine ⟨_, hb2.1, ?_⟩
      have hr3 := (hrl z hzm).belowE H3.below
      rw [hzu] at hr3
      refine ixE hr3 0 rfl (by omega) fun b3 x3 hx3 hb3 => ?_
      rw [hag] at hx3
      have hx3 : r = x3 := by simpa using hx3
      refine ⟨_, by rw [← hx3] at hb3; exact hb3.2.1, ?_⟩
      refine ixE hr3 0 rfl (by omega) fun b4 x4 hx4 hb4 => ?_
      rw [hag] at hx4
      have hx4 : r = x4 := by simpa using hx4
      refine ⟨_, by rw [← hx4] at hb4; exact hb4.2.2.1, ?_⟩
      exact ⟨_, _, _, true, rfl, ⟨fun h => (by cases h), fun _ => ⟨k, hkl, hlk, rfl, by rw [hp], by rw [hp]⟩⟩, H3.below⟩
    · refine kW_i64 (by omega) ?_ -- i + (1 : Int)
      refine ⟨⟨k + 1, by omega, by omega, fun j hj h => ?_, H2⟩, by dsimp only; omega⟩ --! I (i + (1 : Int))
      rcases Nat.lt_or_ge j k with h1 | h1
      · exact hno j hj h1
      · obtain rfl : j = k := by omega
        unfold askU; rw [decide_eq_false_iff_not]; omega
  · refine ⟨0, 0, 0, false, rfl, ⟨fun _ u hu => ?_, fun h => by cases h⟩, H2.below⟩
    obtain ⟨j, hj, rfl⟩ := List.getElem_of_mem hu
    exact hno j hj (by omega)
end Go.Proofs.Ytmhggobilcmdmaa
namespace Go.Proofs.Ytmhggobilcmdmaa
open Go.Sx Go.RowKit
set_option maxRecDepth 100000
theorem okS_sent {s : Sd} (h : OkS s) : ∀ u ∈ s.units, u.sent ≤ u.data.length := fun u hu => (unB_iff.1 (h.all u hu).1).1.2.2.1.2
theorem law20_SenderRepeats_ct {ta : Option Addr} {tc : Nat} {ts : List Int} {w : World} (hts : SlR (IntC .i64) 1 w ta ts) :
    Calls Try.prog N_law20_SenderRepeats #[(.slice ta ts.length tc)] w fun e w' => e = .returned (.bool true) ∧ Below w.heap.size w w' := by
  apply F_law20_SenderRepeats_ok
  unfold F_law20_SenderRepeats
  have H := (St.startA w).hold (slr_held hts)
  refine made_Light_ct.mono ?_ -- (.slice t_a t_l t_c)
  rintro _ w1 ⟨rfl, hb1⟩; have H1 := H.pass hb1; clear H
  refine ⟨_, rfl, ?_⟩
  refine bsplit_nd (fun c16 => ?_) (fun c16 => ?_) --  (!r)
  · refine law20_awake_ct.mono ?_ -- 
    rintro _ w2 ⟨rfl, hb2⟩; have H2 := H1.pass hb2; clear H1
    exact ⟨_, rfl, rfl, H2.below⟩
  refine made_Roll_ct.mono ?_ -- (.slice t_a t_l t_c)
  rintro _ w3 ⟨g, rfl, K⟩; have H3 := H1.callR K; clear H1 K
  simp only [List.nil_append] at H3
  have hR0 : Rolls ta ts fun w => SlR (IntC .i64) 1 w ta ts ∧ True := ⟨fun _ h => h.1, by omega⟩
  refine ⟨_, rfl, ?_⟩
  refine (randomF H3 (i := 0) rfl hR0 (Nat.zero_le _)).mono ?_
  rintro _ w4 ⟨s, ua, uc, Lu, p1, rfl, hok, hgu, hLu, hp1, H4⟩; clear H3
  simp only [List.set_cons_zero] at H4
  refine ⟨_, _, _, _, _, _, _, _, _, _, _, _, _, _, _, rfl, ?_⟩
  refine H4.alloc ?_; clear H4; intro b w5 H5
  simp only [List.cons_append, List.nil_append] at H5
  refine H5.store (i := 1) rfl (by rfl) (by rfl) ?_; clear H5; intro w6 H6
  simp only [List.set_cons_succ, List.set_cons_zero] at H6
  refine ⟨_, _, _, _, _, _, _, _, _, _, _, _, _, _, _, H6.cells (i := 1) rfl, ?_⟩
  refine (reportF H6 (i := 0) rfl (hR0.and _) hp1 hok).mono ?_
  rintro _ w7 ⟨r, ma, mc, p2, rfl, hup, hml, hp2, H7⟩; clear H6
  simp only [List.set_cons_zero] at H7
  refine ⟨_, _, _, _, rfl, ?_⟩
  refine H7.alloc ?_; clear H7; intro b1 w8 H8
  simp only [List.cons_append, List.nil_append] at H8
  refine H8.store (i := 2) rfl (by rfl) (by rfl) ?_; clear H8; intro w9 H9
  simp only [List.set_cons_succ, List.set_cons_zero] at H9
  refine ⟨_, _, _, _, _, _, _, _, _, _, _, _, _, _, _, H9.cells (i := 1) rfl, ?_⟩
  refine ⟨_, _, _, _, H9.cells (i := 2) rfl, ?_⟩
  obtain ⟨pr, hpr⟩ : ∃ pr, pr = repS s r := ⟨_, rfl⟩
  have C := sender_Report_ct (s := s) (r := r) (a := ua) (c := uc) (ma := ma) (mc := mc) (w := w9) (H9.get.2.1.un hLu) hgu.1 H9.get.1 (by omega)
  rw [← hpr] at C
  have hgx : GU pr.1.units := by rw [hpr]; exact rep_gu hgu (by omega)
  refine C.mono ?_; clear C
  rintro _ w10 hh; obtain ⟨xa, xc, rfl, K⟩ := hh.fresh; have H10 := H9.callF K; clear hh K H9
  refine ⟨_, _, _, _, _, _, _, _, _, _, _, _, _, _, _, _, rfl, ?_⟩
  simp only [List.append_nil] at H10
  refine H10.alloc ?_; clear H10; intro b2 w11 H11
  simp only [List.cons_append, List.nil_append] at H11
  refine H11.store (i := 3) rfl (by rfl) (by rfl) ?_; clear H11; intro w12 H12
  simp only [List.set_cons_succ, List.set_cons_zero] at H12
  refine law20_awake_ct.mono ?_ -- 
  rintro _ w13 ⟨rfl, hb13⟩; have H13 := H12.pass hb13; clear H12
  refine ⟨_, rfl, ?_⟩
  refine bsplit_n (fun h => by cases h) (fun _ => ?_) --  (!r4)
  refine ⟨fun x1 w14 => (x1 = false → pr.2 = 0 ∧ pr.1.failed = false) ∧ St (All w) [] w w14 [dice g ta tc ts p2, .blk b Ty_api_Sender (encS s ua uc), .blk b1 Ty_api_Status [.int .i64 r.upto, .slice ma r.miss.length mc], .blk b2 Ty_api_Sender (encS pr.1 xa xc)]
    (fun w => UnR w xa pr.1.units ∧ SlR (CE encR) 3 w ma r.miss ∧ UnL w ua Lu ∧ SlR (IntC .i64) 1 w ta ts ∧ True), ?_, ?_⟩
  · rintro _ x1 w14 ⟨hx1, H14⟩
    refine bsplit_intro (fun c11 => ?_) (fun c11 => ?_) --  x1
    · refine ⟨_, _, _, _, _, _, _, _, _, _, _, _, _, _, _, H14.cells (i := 1) rfl, ?_⟩
      refine ⟨_, _, _, _, H14.cells (i := 2) rfl, ?_⟩
      have C := ref20_Report_ct (s := s) (r := r) (a := ua) (c := uc) (ma := ma) (mc := mc) (w := w14) (H14.get.2.2.1.un hLu) hgu.1 H14.get.2.1 (by omega)
      rw [← hpr] at C
      refine C.mono ?_; clear C
      rintro _ w15 hh; obtain ⟨ya, yc, rfl, K⟩ := hh.fresh; have H15 := H14.callF K; clear hh K H14
      refine ⟨_, _, _, _, _, _, _, _, _, _, _, _, _, _, _, _, rfl, ?_⟩
      simp only [List.append_nil] at H15
      refine H15.alloc ?_; clear H15; intro b3 w16 H16
      simp only [List.cons_append, List.nil_append] at H16
      refine H16.store (i := 4) rfl (by rfl) (by rfl) ?_; clear H16; intro w17 H17
      simp only [List.set_cons_succ, List.set_cons_zero] at H17
      refine bsplit_dec (fun c1 => ?_) (fun c1 => absurd rfl c1) --  (decide (r3 = r5))
      refine H17.ldB (i := 3) rfl rfl ?_
      refine H17.ldB (i := 4) rfl rfl ?_
      refine kLet_in ?_
      exact ⟨by rw [beq_self_eq_true], H17.below⟩
    obtain ⟨he0, hf0⟩ := hx1 c11
    have hxok : OkS pr.1 := by rw [hpr] at he0 ⊢; exact (rep_ok hok he0).1
    refine ⟨fun n => ((300 - n).toNat, fun w18 => ∃ (j p' : Nat) (x : Sd) (xa : Option Addr) (xc : Nat), n = j ∧ j ≤ 300 ∧ p' ≤ ts.length ∧ OkS x ∧ GU x.units ∧ x.failed = false ∧
      St (All w) [] w w18 [dice g ta tc ts p', .blk b Ty_api_Sender (encS s ua uc), .blk b1 Ty_api_Status [.int .i64 r.upto, .slice ma r.miss.length mc], .blk b2 Ty_api_Sender (encS x xa xc)] (fun w => UnR w xa x.units ∧ SlR (IntC .i64) 1 w ta ts ∧ True)),
      ⟨0, p2, pr.1, xa, xc, rfl, by omega, hp2, hxok, hgx, hf0, H14.imp fun _ h => ⟨h.1, h.2.2.2⟩⟩, ?_⟩
    clear H14 hxok hgx hf0 he0 hx1 H13 hpr hp2 hp1
    rintro _ n w18 ⟨j, p1, x, xa, xc, rfl, hj, hp1, hxok, hgx, hxf, H18⟩
    have hfit := (okB_fit (okB_iff.2 hxok)).1
    have hf1 := hfit.1
    have hxb := hxok.lk.1
    have hbE := begE_zero hxok hxf
    refine bsplit_dec (fun c10 => ?_) (fun c10 => ⟨rfl, H18.below⟩) --  (decide (n < (300 : Int)))
    refine ⟨_, _, _, _, _, _, _, _, _, _, _, _, _, _, _, H18.cells (i := 3) rfl, ?_⟩
    refine (law20_next_ct H18.get.1 (by omega)).mono ?_
    rintro _ w19 ⟨sn, f, t, again, rfl, hnx, hb19⟩; have H19 := H18.pass hb19; clear H18
    refine ⟨_, _, _, _, rfl, ?_⟩
    refine ⟨fun y b_a b_l b_c f w32 => ∃ (v : Int) (by_ p' : Nat) (q : Sd × List Int × Int) (ya : Option Addr) (yc : Nat), 5 ≤ v ∧ v ≤ 4096 ∧ q = buildS x v 0 ∧ y = ⟨by_, 0, none⟩ ∧ f = q.2.2 ∧ b_l = q.2.1.length ∧ q.2.1.length ≤ b_c ∧ p' ≤ ts.length ∧ GU q.1.units ∧ Bytes q.2.1 ∧
      St (All w) [] w w32 [dice g ta tc ts p', .blk b Ty_api_Sender (encS s ua uc), .blk b1 Ty_api_Status [.int .i64 r.upto, .slice ma r.miss.length mc], .blk b2 Ty_api_Sender (encS x xa xc), .blk by_ Ty_api_Sender (encS q.1 ya yc)]
        (fun w => (UnR w ya q.1.units ∧ SlR (IntC .u8) 1 w b_a q.2.1) ∧ UnR w xa x.units ∧ SlR (IntC .i64) 1 w ta ts ∧ True), ?_, ?_⟩
    · rintro _ y b_a b_l b_c f w32 ⟨v, by_, p', q, ya, yc, hv1, hv2, hq, rfl, rfl, rfl, hcap, hp', hgq, hbq, H32⟩
      rcases build_go hxok (size := v) ⟨hv1, hv2⟩ with ⟨hl, hE⟩ | ⟨hl, hE⟩
      · rw [← hq] at hE
        refine bsplit_dec (fun c9 => ?_) (fun c9 => absurd hE c9) --  (decide (f = (14 : Int)))
        have hno := leftI_neg.1 hl
        have hag : again = false := by
          cases again with
          | false => rfl
          | true =>
            obtain ⟨k, hk, hlk, _⟩ := hnx.2 rfl
            omega
        refine bsplit_n (fun c2 => ?_) (fun c2 => by rw [hag] at c2; cases c2) --  (!r9)
        refine ⟨_, _, _, _, _, _, _, _, _, _, _, _, _, _, _, H32.cells (i := 3) rfl, ?_⟩
        refine (ref20_Left_ct (s := x) H32.get.2.1 (by omega) (okS_sent hxok)).mono ?_
        rintro _ w33 ⟨rfl, hb33⟩; have H33 := H32.pass hb33; clear H32
        refine ⟨_, rfl, ?_⟩
        exact ⟨by rw [decide_eq_false (by omega)]; rfl, H33.below⟩ --! (.bool (!r15))
      · have hEq := hE
        rw [← hq] at hEq
        obtain ⟨k, hk, pc, hlk, hpo, hby, hpsn, hpof, hpl1, hpl2, _, hun, _, _⟩ := build_piece hxok hE
        have hyok := build_ok hxok hE
        rw [← hq] at hby hyok
        have hpl3 := hpo.2.2.2.2.2
        refine bsplit_dec (fun c9 => by omega) (fun c9 => ?_) --  (decide (f = (14 : Int)))
        refine H32.ld (i := 3) rfl rfl ?_
        have hbl : q.2.1.length ≤ 140737488355000 := by
          rw [hby]
          unfold Pc.bytes
          simp only [List.length_append]
          split <;> simp <;> omega
        have C := ref18_Decode_ct (bits := x.lk.bits) (b_a := b_a) (bs := q.2.1) (b_c := b_c) (w := w32) H32.get.1.2 hbq (by omega) hcap
        rw [hby, dec_enc hpo] at C
        rw [hby]
        refine C.mono ?_; clear C
        rintro _ w34 ⟨pa, pcap, _, rfl, K⟩; have H34 := H32.callF K; clear H32 K
        refine ⟨_, _, _, _, _, _, _, _, rfl, ?_⟩
        simp only [List.append_nil] at H34
        refine H34.alloc ?_; clear H34; intro b7 w35 H35
        simp only [List.cons_append, List.nil_append] at H35
        refine H35.store (i := 5) rfl (by rfl) (by rfl) ?_; clear H35; intro w36 H36
        simp only [List.set_cons_succ, List.set_cons_zero] at H36
        refine ⟨fun w37 => St (All w) [] w w37 [dice g ta tc ts p', .blk b Ty_api_Sender (encS s ua uc), .blk b1 Ty_api_Status [.int .i64 r.upto, .slice ma r.miss.length mc], .blk b2 Ty_api_Sender (encS x xa xc), .blk by_ Ty_api_Sender (encS q.1 ya yc), .blk b7 Ty_api_Piece (encPc pc pa pcap)]
          (fun w => UnR w ya q.1.units ∧ SlR (IntC .i64) 1 w ta ts ∧ True), ?_, ?_⟩
        · rintro _ w37 H37
          have fin : ∃ (x_0 x_1 x_2 x_3 x_4 x_5 x_6 x_7 : Int) (x_8_a : Option Addr) (x_8_l x_8_c : Nat) (x_9 x_10 x_11 : Int) (x_12 : Bool), cellsAt w37 ⟨by_, 0, none⟩ 0 [(.int .i64 x_0), (.int .i64 x_1), (.int .i64 x_2), (.int .i64 x_3), (.int .i64 x_4), (.int .i64 x_5), (.int .i64 x_6), (.int .i64 x_7), (.slice x_8_a x_8_l x_8_c), (.int .i64 x_9), (.int .i64 x_10), (.int .i64 x_11), (.bool x_12)] ∧
              sxStore w37 ⟨b2, 0, none⟩ 0 [(.int .i64 x_0), (.int .i64 x_1), (.int .i64 x_2), (.int .i64 x_3), (.int .i64 x_4), (.int .i64 x_5), (.int .i64 x_6), (.int .i64 x_7), (.slice x_8_a x_8_l x_8_c), (.int .i64 x_9), (.int .i64 x_10), (.int .i64 x_11), (.bool x_12)] fun w40 =>
                kW .i64 ((j : Int) + 1) fun x13 => (∃ (j p' : Nat) (x : Sd) (xa : Option Addr) (xc : Nat), x13 = j ∧ j ≤ 300 ∧ p' ≤ ts.length ∧ OkS x ∧ GU x.units ∧ x.failed = false ∧
                  St (All w) [] w w40 [dice g ta tc ts p', .blk b Ty_api_Sender (encS s ua uc), .blk b1 Ty_api_Status [.int .i64 r.upto, .slice ma r.miss.length mc], .blk b2 Ty_api_Sender (encS x xa xc)] (fun w => UnR w xa x.units ∧ SlR (IntC .i64) 1 w ta ts ∧ True)) ∧ (300 - x13).toNat < (300 - (j : Int)).toNat := by
            refine ⟨_, _, _, _, _, _, _, _, _, _, _, _, _, _, _, H37.cells (i := 4) rfl, ?_⟩
            refine H37.store (i := 3) rfl (by rfl) (by rfl) ?_; intro w38 H38
            simp only [List.set_cons_succ, List.set_cons_zero] at H38
            refine kW_i64 (by omega) ?_ -- n + (1 : Int)
            exact ⟨⟨j + 1, p', q.1, ya, yc, by omega, by omega, hp', hyok.1, hgq, by rw [hyok.2.2]; exact hxf, St.dropLast (R := [_, _, _, _]) (St.dropLast (R := [_, _, _, _, _]) H38)⟩, by omega⟩
          refine bsplit_intro (fun c8 => ?_) (fun c8 => fin) --  r9
          obtain ⟨k2, hk2, hlk2, e1, e2, e3⟩ := hnx.2 c8
          obtain rfl : k2 = k := by omega
          refine H37.ld (i := 5) rfl rfl ?_
          refine bsplit_nd (fun c7 => absurd (by rw [hpsn, e1]) c7) (fun _ => ?_) --  (!decide (r_07 = r6))
          refine H37.ld (i := 5) rfl rfl ?_
          refine bsplit_nd (fun c6 => absurd (by rw [hpof, e2]) c6) (fun _ => ?_) --  (!decide (r_36 = r7))
          refine H37.ld (i := 5) rfl rfl ?_
          refine H37.ldS (i := 5) rfl rfl ?_
          refine kW_i64 (by omega) ?_ -- r_36 + (r_4_l : Int)
          refine bsplit_dec (fun c5 => by omega) (fun c5 => ?_) --  (decide ((r_36 + (r_4_l : Int)) > r8))
          exact fin
        · refine bsplit_nd (fun c4 => absurd hEq c4) (fun _ => ?_) --  (!decide (f = (0 : Int)))
          refine bsplit_nd (fun c3 => absurd rfl c3) (fun _ => ?_) --  (!decide (r16 = (0 : Int)))
          exact H36.imp fun _ h => ⟨h.2.1.1, h.2.2.2⟩
    · refine H19.drew ?_; clear H19; intro w20 H20
      have hRx := hR0.and (fun w => UnR w xa x.units)
      refine ⟨fun z => z < w20.heap.size ∧ z ∉ [g], ?_⟩
      refine ⟨⟨H20.lt (i := 3) rfl rfl, nin1 (H20.ne (i := 3) (j := 0) rfl rfl (by decide) rfl rfl)⟩, ?_⟩
      refine ⟨_, _, _, _, _, _, _, _, _, _, _, _, _, _, _, H20.cells (i := 3) rfl, ?_⟩
      have bld : ∀ {w' : World} {T : List Res} {K : Ending → World → Prop} (v : Int), 5 ≤ v → v ≤ 4096 → St (All w) [] w w' T (fun w => UnR w xa x.units ∧ SlR (IntC .i64) 1 w ta ts ∧ True) →
          (∀ (q : Sd × List Int × Int) (ya : Option Addr) (yc : Nat) (ba : Option Addr) (bc : Nat) (w'' : World), q = buildS x v 0 → q.2.1.length ≤ bc → GU q.1.units → Bytes q.2.1 → Below w'.heap.size w' w'' → St (All w) [] w w'' T (fun w => (UnR w ya q.1.units ∧ SlR (IntC .u8) 1 w ba q.2.1) ∧ UnR w xa x.units ∧ SlR (IntC .i64) 1 w ta ts ∧ True) →
            K (.returned (.tuple #[aggS q.1 ya yc, .slice ba q.2.1.length bc, .int .i64 q.2.2])) w'') →
          Calls Try.prog N_sender_Build #[aggS x xa xc, .int .i64 v] w' K := fun {w' T K} v h1 h2 H hK => by
        have C := sender_Build_ct (s := x) (a := xa) (c := xc) (size := v) (w := w') H.get.1 hgx.1 (by omega)
        have hg := build_gu (size := v) hgx
        have hb := build_bytes (size := v) hgx
        rw [hbE] at C hg hb
        refine C.mono ?_
        rintro _ w2 ⟨ya, yc, ba, bc, hc, rfl, K⟩
        have H2 := H.callF K
        simp only [List.append_nil] at H2
        exact hK _ ya yc ba bc w2 rfl hc hg hb K.below H2
      have f20 := Fr.refl [g] w20
      refine ⟨?_, ?_, trivial⟩ --! fork
      · refine dNext H20 (i := 0) rfl hRx hp1 (by omega) fun v p2 w21 f21 hv hp2 H21 => ?_
        have hv := hv (by omega)
        simp only [List.set_cons_zero] at H21
        refine ⟨f21.keeps, ?_⟩
        refine kW_i64 (by omega) ?_ -- (5 : Int) + r10
        refine ⟨?_, ?_, trivial⟩ --! fork
        · refine bld (5 + v) (by omega) (by omega) H21 fun q ya yc ba bc w22 hq hc hg hb hb22 H22 => ?_
          refine ⟨_, _, _, _, _, _, _, _, _, _, _, _, _, _, _, _, _, _, _, rfl, ?_⟩
          have f22 := f21.tr (hb22.fr []) (by simp)
          refine ⟨f22.keeps, ?_⟩
          refine H22.allocB ?_; intro b4 w23 hb23 H23
          have f23 := f22.tr (hb23.fr []) (by simp)
          refine ⟨f23.keeps, ?_⟩
          simp only [List.cons_append, List.nil_append] at H23
          refine H23.store (i := 4) rfl (by rfl) (by rfl) ?_; intro w24 H24
          simp only [List.set_cons_succ, List.set_cons_zero] at H24
          exact ⟨5 + v, b4, p2, q, ya, yc, by omega, by omega, hq, rfl, rfl, rfl, hc, hp2, hg, hb, H24⟩
        · refine H21.allocB ?_; intro b5 w25 hb25 H25
          have f25 := f21.tr (hb25.fr []) (by simp)
          refine ⟨f25.keeps, ?_⟩
          refine bld (5 + v) (by omega) (by omega) H25 fun q ya yc ba bc w26 hq hc hg hb hb26 H26 => ?_
          refine ⟨_, _, _, _, _, _, _, _, _, _, _, _, _, _, _, _, _, _, _, rfl, ?_⟩
          have f26 := f25.tr (hb26.fr []) (by simp)
          refine ⟨f26.keeps, ?_⟩
          simp only [List.cons_append, List.nil_append] at H26
          refine H26.store (i := 4) rfl (by rfl) (by rfl) ?_; intro w27 H27
          simp only [List.set_cons_succ, List.set_cons_zero] at H27
          exact ⟨5 + v, b5, p2, q, ya, yc, by omega, by omega, hq, rfl, rfl, rfl, hc, hp2, hg, hb, H27⟩
      · refine H20.allocB ?_; intro b6 w28 hb28 H28
        have f28 := f20.tr (hb28.fr []) (by simp)
        refine ⟨f28.keeps, ?_⟩
        simp only [List.cons_append, List.nil_append] at H28
        refine dNext H28 (i := 0) rfl hRx hp1 (by omega) fun v p2 w29 f29 hv hp2 H29 => ?_
        have hv := hv (by omega)
        simp only [List.set_cons_zero] at H29
        have f29' := f28.tr f29 (by simp)
        refine ⟨f29'.keeps, ?_⟩
        refine kW_i64 (by omega) ?_ -- (5 : Int) + r13
        refine bld (5 + v) (by omega) (by omega) H29 fun q ya yc ba bc w30 hq hc hg hb hb30 H30 => ?_
        refine ⟨_, _, _, _, _, _, _, _, _, _, _, _, _, _, _, _, _, _, _, rfl, ?_⟩
        have f30 := f29'.tr (hb30.fr []) (by simp)
        refine ⟨f30.keeps, ?_⟩
        refine H30.store (i := 4) rfl (by rfl) (by rfl) ?_; intro w31 H31
        simp only [List.set_cons_succ, List.set_cons_zero] at H31
        exact ⟨5 + v, b6, p2, q, ya, yc, by omega, by omega, hq, rfl, rfl, rfl, hc, hp2, hg, hb, H31⟩
  · refine bsplit_nd (fun c => ⟨fun h => (by cases h), H13⟩) (fun c => ?_) --  (!decide (r3 = (0 : Int)))
    refine H13.ldB (i := 3) rfl rfl ?_
    exact ⟨fun h => ⟨c, h⟩, H13⟩
end Go.Proofs.Ytmhggobilcmdmaa
