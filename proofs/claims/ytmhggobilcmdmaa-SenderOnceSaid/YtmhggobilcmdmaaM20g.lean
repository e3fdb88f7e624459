import Derived.Test.YtmhggobilcmdmaaM20c
import Derived.Test.YtmhggobilcmdmaaM20d
import Derived.Test.YtmhggobilcmdmaaFxSenderOnce
namespace Go.Proofs.Ytmhggobilcmdmaa
open Go.Sx Go.RowKit
set_option maxRecDepth 100000
theorem bytes_app {xs ys : List Int} (hx : Bytes xs) (hy : Bytes ys) : Bytes (xs ++ ys) := by
  rw [bytes_mem] at *
  intro x h
  rcases List.mem_append.1 h with h | h
  · exact hx x h
  · exact hy x h
theorem law20_SenderOnce_ct {ta : Option Addr} {tc : Nat} {ts : List Int} {w : World} (hts : SlR (IntC .i64) 1 w ta ts) :
    Calls Try.prog N_law20_SenderOnce #[(.slice ta ts.length tc)] w fun e w' => e = .returned (.bool true) ∧ Below w.heap.size w w' := by
  apply F_law20_SenderOnce_ok
  unfold F_law20_SenderOnce
  have H := (St.startA w).hold (slr_held hts)
  refine made_Light_ct.mono ?_ -- (.slice t_a t_l t_c)
  rintro _ w1 ⟨rfl, hb1⟩; have H1 := H.pass hb1; clear H
  refine ⟨_, rfl, ?_⟩
  refine bsplit_nd (fun c16 => ?_) (fun c16 => ?_) --  (!r)
  · refine law20_awake_ct.mono ?_ -- 
    rintro _ w2 ⟨rfl, hb2⟩; have H2 := H1.pass hb2; clear H1
    exact ⟨_, rfl, rfl, H2.below⟩
  refine made_Roll_ct.mono ?_ -- (.slice t_a t_l t_c)
  rintro _ w3 ⟨g, rfl, K⟩; have H3 := H1.callR K; clear H1 K
  simp only [List.nil_append] at H3
  have hR0 : Rolls ta ts fun w => SlR (IntC .i64) 1 w ta ts ∧ True := ⟨fun _ h => h.1, by omega⟩
  refine ⟨_, rfl, ?_⟩
  obtain ⟨A', hA', hn', hr', hc⟩ := H3.callM (i := 0) rfl
  refine (made_Link_ct hA' hR0 hr' hn' (Nat.zero_le _)).mono ?_
  rintro _ w4 ⟨l, p1, rfl, hl, hp1, K⟩
  have H4 := (hc K).imp fun _ h => h.2
  clear hc K hA' hn' hr' H3
  simp only [List.set_cons_zero, List.append_nil] at H4
  refine ⟨_, _, _, _, _, _, rfl, ?_⟩
  have hb := hl.1
  have hh := half_lt hb
  have hnew : (newS l) = (⟨l, 0, 0, [], 0, -1, 0, false⟩, 0) := by unfold newS; rw [if_pos hl]
  have C := sender_New_ct (l := l) (w := w4)
  rw [hnew] at C
  obtain ⟨s0, hs0⟩ : ∃ s0 : Sd, s0 = ⟨l, 0, 0, [], 0, -1, 0, false⟩ := ⟨_, rfl⟩
  have hok0 : OkS s0 := by rw [hs0]; exact new_ok hl ⟨Int.le_refl _, by omega⟩
  have hsu : s0.units = [] := by rw [hs0]
  have hsl : s0.lk = l := by rw [hs0]
  have hsf : s0.failed = false := by rw [hs0]
  have hsp : s0.place s0.next = 0 := by rw [hs0]; exact way_self
  rw [← hs0] at C
  refine C.mono ?_; clear C
  rintro _ w5 hh2
  obtain ⟨ua, uc, rfl, K⟩ := hh2.fresh
  have H5 := H4.callF K
  clear K H4 hh2
  simp only [List.append_nil] at H5
  refine ⟨_, _, _, _, _, _, _, _, _, _, _, _, _, _, _, _, rfl, ?_⟩
  refine H5.alloc ?_; clear H5; intro b w6 H6
  simp only [List.cons_append, List.nil_append] at H6
  refine H6.store (i := 1) rfl (by rfl) (by rfl) ?_; clear H6; intro w7 H7
  simp only [List.set_cons_succ, List.set_cons_zero] at H7
  have hRu : ∀ (a : Option Addr) (us : List Un), Rolls ta ts fun w => UnR w a us ∧ SlR (IntC .i64) 1 w ta ts ∧ True := fun a us => hR0.and _
  refine ⟨fun w9 => St (All w) [] w w9 [dice g ta tc ts p1, .blk b Ty_api_Sender (encS s0 ua uc)] (fun w => UnR w ua s0.units ∧ SlR (IntC .i64) 1 w ta ts ∧ True), ?_, ?_⟩
  · rintro _ w9 H9
    refine dNext H9 (i := 0) rfl (hRu _ _) hp1 (by omega) fun m p2 w10 _ hm hp2 H10 => ?_
    have hm := hm (by omega)
    simp only [List.set_cons_zero] at H10
    have H10 := H10.nilI Ty_uint8 .u8
    simp only [List.cons_append, List.nil_append] at H10
    refine ⟨fun all_a all_l all_c n => (n.toNat, fun w11 => ∃ (s : Sd) (ua : Option Addr) (uc p' : Nat) (all : List Int), all_l = all.length ∧ 0 ≤ n ∧ OkS s ∧ GU s.units ∧ s.lk = l ∧ s.failed = false ∧ s.place s.next + n ≤ 13 ∧ (all.length : Int) + 20 * n ≤ 260 ∧ Bytes all ∧ all = restB s.units ∧ (∀ u ∈ s.units, u.again = [] ∧ u.sent = 0) ∧ p' ≤ ts.length ∧
      St (All w) [] w w11 [dice g ta tc ts p', .blk b Ty_api_Sender (encS s ua uc), .ints Ty_uint8 .u8 all_a all_c all] (fun w => UnR w ua s.units ∧ SlR (IntC .i64) 1 w ta ts ∧ True)),
      ⟨s0, ua, uc, p2, [], rfl, hm.1, hok0, by rw [hsu]; exact gu_nil, hsl, hsf, by omega, by simp; omega, fun i h => by simp at h, by rw [hsu]; rfl, fun u hu => by rw [hsu] at hu; simp at hu, hp2, H10⟩, ?_⟩
    clear H10 H9 hok0 hsu hsl hsf hsp hs0 hp2 hm
    rintro _ all_a all_l all_c n w11 ⟨s, ua, uc, p1, all, rfl, hn0, hok, hgu, hlk, hsf, hpl, hal, hab, hall, hfr, hp1, H11⟩
    have hbE := begE_zero hok hsf
    refine bsplit_dec (fun c12 => ?_) (fun c12 => ?_) --  (decide (n > (0 : Int)))
    · obtain ⟨A', hA', hn', hr', hc⟩ := H11.callM (i := 0) rfl
      refine (made_Some_ct hA' (hRu _ _) hr' hn' hp1 (by omega)).mono ?_
      rintro _ w12 ⟨ra, rc, d, p3, rfl, hd, hd1, hd2, hp3, K⟩
      have H12 := (hc K).imp fun _ h => h.2
      clear hc K hA' hn' hr' H11
      simp only [List.set_cons_zero, List.cons_append, List.nil_append] at H12
      refine ⟨_, _, _, rfl, ?_⟩
      refine ⟨_, _, _, _, _, _, _, _, _, _, _, _, _, _, _, H12.cells (i := 1) rfl, ?_⟩
      obtain ⟨q0, q1, q2⟩ := sub_go hok (d := d) (by omega) (by rw [hlk]; omega)
      obtain ⟨pr, hpr⟩ : ∃ pr, pr = subS s d 0 := ⟨_, rfl⟩
      have hso := sub_ok hok q0
      have hg1 : GU pr.1.units := by have := sub_gu (s := s) hgu hd; rw [hbE] at this; rw [hpr]; exact this
      rw [← hpr] at q0 q1 q2 hso
      have C := sender_Submit_ct (s := s) (a := ua) (c := uc) (da := ra) (dc := rc) (d := d) (w := w12) H12.get.1 hgu.1 (H12.slI (i := 3) rfl)
      rw [hbE, ← hpr, q0] at C
      refine C.mono ?_; clear C
      rintro _ w13 hh2
      obtain ⟨xa, xc, rfl, K⟩ := hh2.fresh
      have H13 := H12.callF K
      clear K H12 hh2
      simp only [List.append_nil] at H13
      refine ⟨_, _, _, _, _, _, _, _, _, _, _, _, _, _, _, _, rfl, ?_⟩
      refine H13.store (i := 1) rfl (by rfl) (by rfl) ?_; clear H13; intro w14 H14
      simp only [List.set_cons_succ, List.set_cons_zero] at H14
      refine bsplit_nd (fun c2 => absurd rfl c2) (fun _ => ?_) --  (!decide (r6 = (0 : Int)))
      refine H14.appI (i := 2) rfl sl_Ty_S_uint8 (H14.slI (i := 3) rfl) (by omega) (by omega) ?_; intro x_a x_c w15 H15
      simp only [List.set_cons_succ, List.set_cons_zero] at H15
      refine kW_i64 (by omega) ?_ -- n - (1 : Int)
      refine ⟨⟨pr.1, xa, xc, p3, all ++ d, rfl, by omega, hso.1, hg1, by rw [hso.2.1]; exact hlk, by rw [hso.2.2]; exact hsf, by rw [q2]; omega, by simp only [List.length_append]; omega, bytes_app hab hd, ?_, ?_, hp3, (St.dropLast (R := [_, _, _]) H15).imp fun _ h => ⟨h.1, h.2.2⟩⟩, by dsimp only; omega⟩
      · rw [q1, restB_app, hall]
        simp [restB]
      · intro u hu
        rw [q1] at hu
        rcases List.mem_append.1 hu with hu | hu
        · exact hfr u hu
        · simp at hu; subst hu; exact ⟨rfl, rfl⟩
    · refine H11.ld (i := 1) (x := s.lk.bits) rfl rfl ?_
      rw [hlk]
      have hinv0 : leftI s.units < 0 → all.length = 0 ∨ s.left = s.lk.poll := fun hlt => by
        have hno := leftI_neg.1 hlt
        left
        rw [hall, restB_whole fun u hu => (hno u hu).2]; rfl
      have hal2 : all.length ≤ 260 := by omega
      have H11 := H11.nilI Ty_uint8 .u8
      simp only [List.cons_append, List.nil_append] at H11
      refine ⟨fun got_a got_l got_c n1 => ((400 - n1).toNat, fun w16 => ∃ (j p' : Nat) (s : Sd) (ua : Option Addr) (uc : Nat) (got : List Int), n1 = j ∧ got_l = got.length ∧ j ≤ got.length ∧ OkS s ∧ GU s.units ∧ s.lk = l ∧ s.failed = false ∧ Bytes got ∧ all = got ++ restB s.units ∧ noAg s.units ∧ (leftI s.units < 0 → all.length = 0 ∨ s.left = s.lk.poll) ∧ p' ≤ ts.length ∧
        St (All w) [] w w16 [dice g ta tc ts p', .blk b Ty_api_Sender (encS s ua uc), .ints Ty_uint8 .u8 all_a all_c all, .ints Ty_uint8 .u8 got_a got_c got] (fun w => UnR w ua s.units ∧ SlR (IntC .i64) 1 w ta ts ∧ True)),
        ⟨0, p1, s, ua, uc, [], rfl, rfl, Nat.zero_le _, hok, hgu, hlk, hsf, fun i h => by simp at h, by rw [hall]; rfl, fun u hu => (hfr u hu).1, hinv0, hp1, H11⟩, ?_⟩
      clear H11 hinv0 hfr hall hal hpl hsf hlk hgu hok hbE hp1
      rintro _ got_a got_l got_c n1 w16 ⟨j, p1, s, ua, uc, got, rfl, rfl, hjg, hok, hgu, hlk, hsf, hgb, hall, hna, hinv, hp1, H16⟩
      have hbE := begE_zero hok hsf
      have hgl : got.length ≤ 260 := by rw [hall] at hal2; simp at hal2; omega
      refine bsplit_dec (fun c11 => ?_) (fun c11 => by omega) --  (decide (n1 < (400 : Int)))
      refine ⟨fun y b_a b_l b_c f w32 => ∃ (v : Int) (by_ p' : Nat) (q : Sd × List Int × Int) (ya : Option Addr) (yc : Nat), 5 ≤ v ∧ v ≤ 4096 ∧ q = buildS s v 0 ∧ y = ⟨by_, 0, none⟩ ∧ f = q.2.2 ∧ b_l = q.2.1.length ∧ q.2.1.length ≤ b_c ∧ p' ≤ ts.length ∧ GU q.1.units ∧ Bytes q.2.1 ∧
        St (All w) [] w w32 [dice g ta tc ts p', .blk b Ty_api_Sender (encS s ua uc), .ints Ty_uint8 .u8 all_a all_c all, .ints Ty_uint8 .u8 got_a got_c got, .blk by_ Ty_api_Sender (encS q.1 ya yc)]
          (fun w => (UnR w ya q.1.units ∧ SlR (IntC .u8) 1 w b_a q.2.1) ∧ UnR w ua s.units ∧ SlR (IntC .i64) 1 w ta ts ∧ True), ?_, ?_⟩
      · rintro _ y b_a b_l b_c f w32 ⟨v, by_, p', q, ya, yc, hv1, hv2, hq, rfl, rfl, rfl, hcap, hp', hgq, hbq, H32⟩
        rcases build_go hok (size := v) ⟨hv1, hv2⟩ with ⟨hlt, hE⟩ | ⟨hlt, hE⟩
        · rw [← hq] at hE
          refine bsplit_dec (fun c9 => ?_) (fun c9 => absurd hE c9) --  (decide (f = (14 : Int)))
          have hr := (restB_nil hok hna).2 hlt
          rw [hr, List.append_nil] at hall
          refine (ref01_Same_ct (H32.slI (i := 2) rfl) (H32.slI (i := 3) rfl) hab hgb).mono ?_
          rintro _ w30 ⟨rfl, hb30⟩; have H30 := H32.pass hb30; clear H32
          refine ⟨_, rfl, ?_⟩
          refine bsplit_dec (fun _ => ?_) (fun c => absurd hall c)
          refine bsplit_dec (fun _ => ⟨rfl, H30.below⟩) (fun c3 => ?_) --  (decide ((all_l : Int) = (0 : Int)))
          refine H30.ld (i := 1) (x := s.left) rfl rfl ?_
          refine H30.ld (i := 1) (x := s.lk.poll) rfl rfl ?_
          refine kLet_in ?_
          have := hinv hlt
          exact ⟨by rw [decide_eq_true (by omega)], H30.below⟩
        · have hEq := hE
          rw [← hq] at hEq
          obtain ⟨pc, hpo, hby, hpl1, hrest, hna2, hpoll, hle⟩ := restB_step hok hna hE
          have hyok := build_ok hok hE
          rw [← hq] at hby hyok hrest hna2 hpoll hle
          have hpl3 := hpo.2.2.2.2.2
          have hpc1 := hok.pieces
          have hev := hok.lk.2.1
          rw [hrest, ← List.append_assoc] at hall
          have hlenr : all.length = got.length + pc.data.length + (restB q.1.units).length := by rw [hall]; simp only [List.length_append]
          have hend : got.length + pc.data.length = all.length ↔ leftI q.1.units < 0 := by
            rw [← restB_nil hyok.1 hna2, ← List.length_eq_zero_iff]; omega
          refine bsplit_dec (fun c9 => by omega) (fun c9 => ?_) --  (decide (f = (14 : Int)))
          have hbl : q.2.1.length ≤ 140737488355000 := by
            rw [hby]
            unfold Pc.bytes
            simp only [List.length_append]
            split <;> simp <;> omega
          have C := ref18_Decode_ct (bits := s.lk.bits) (b_a := b_a) (bs := q.2.1) (b_c := b_c) (w := w32) H32.get.1.2 hbq (by omega) hcap
          rw [hby, dec_enc hpo, hlk] at C
          rw [hby]
          refine C.mono ?_; clear C
          rintro _ w34 ⟨pa, pcap, _, rfl, K⟩; have H34 := H32.callF K; clear H32 K
          refine ⟨_, _, _, _, _, _, _, _, rfl, ?_⟩
          simp only [List.append_nil] at H34
          refine H34.alloc ?_; clear H34; intro b7 w35 H35
          simp only [List.cons_append, List.nil_append] at H35
          refine H35.store (i := 5) rfl (by rfl) (by rfl) ?_; clear H35; intro w36 H36
          simp only [List.set_cons_succ, List.set_cons_zero] at H36
          refine ⟨fun w37 => St (All w) [] w w37 [dice g ta tc ts p', .blk b Ty_api_Sender (encS s ua uc), .ints Ty_uint8 .u8 all_a all_c all, .ints Ty_uint8 .u8 got_a got_c got, .blk by_ Ty_api_Sender (encS q.1 ya yc), .blk b7 Ty_api_Piece (encPc pc pa pcap)]
            (fun w => SlR (IntC .u8) 1 w pa pc.data ∧ UnR w ya q.1.units ∧ SlR (IntC .i64) 1 w ta ts ∧ True), ?_, ?_⟩
          · rintro _ w37 H37
            have hpcb : Bytes pc.data := by
              rw [hby] at hbq
              rw [bytes_mem] at hbq ⊢
              intro z hz
              refine hbq z ?_
              unfold Pc.bytes
              simp [hz]
            have fin : kLdS w37 ⟨b7, 4, none⟩ fun x_a1 x_l1 x_c1 => AppP Try.prog #[Ty_S_uint8, Ty_S_uint8] Ty_S_uint8 #[(.slice got_a got.length got_c), (.slice x_a1 x_l1 x_c1)] w37 fun x_a2 x_l2 x_c2 w35 =>
                ∃ (x_0 x_1 x_2 x_3 x_4 x_5 x_6 x_7 : Int) (x_8_a : Option Addr) (x_8_l x_8_c : Nat) (x_9 x_10 x_11 : Int) (x_12 : Bool), cellsAt w35 ⟨by_, 0, none⟩ 0 [(.int .i64 x_0), (.int .i64 x_1), (.int .i64 x_2), (.int .i64 x_3), (.int .i64 x_4), (.int .i64 x_5), (.int .i64 x_6), (.int .i64 x_7), (.slice x_8_a x_8_l x_8_c), (.int .i64 x_9), (.int .i64 x_10), (.int .i64 x_11), (.bool x_12)] ∧
                sxStore w35 ⟨b, 0, none⟩ 0 [(.int .i64 x_0), (.int .i64 x_1), (.int .i64 x_2), (.int .i64 x_3), (.int .i64 x_4), (.int .i64 x_5), (.int .i64 x_6), (.int .i64 x_7), (.slice x_8_a x_8_l x_8_c), (.int .i64 x_9), (.int .i64 x_10), (.int .i64 x_11), (.bool x_12)] fun w36 =>
                kW .i64 ((j : Int) + 1) fun x12 => (∃ (j p' : Nat) (s : Sd) (ua : Option Addr) (uc : Nat) (got : List Int), x12 = j ∧ x_l2 = got.length ∧ j ≤ got.length ∧ OkS s ∧ GU s.units ∧ s.lk = l ∧ s.failed = false ∧ Bytes got ∧ all = got ++ restB s.units ∧ noAg s.units ∧ (leftI s.units < 0 → all.length = 0 ∨ s.left = s.lk.poll) ∧ p' ≤ ts.length ∧
                  St (All w) [] w w36 [dice g ta tc ts p', .blk b Ty_api_Sender (encS s ua uc), .ints Ty_uint8 .u8 all_a all_c all, .ints Ty_uint8 .u8 x_a2 x_c2 got] (fun w => UnR w ua s.units ∧ SlR (IntC .i64) 1 w ta ts ∧ True)) ∧ (400 - x12).toNat < (400 - (j : Int)).toNat := by
              refine H37.ldS (i := 5) rfl rfl ?_
              refine H37.appI (i := 3) rfl sl_Ty_S_uint8 H37.get.1 (by omega) (by omega) ?_; intro x_a x_c w38 H38
              simp only [List.set_cons_succ, List.set_cons_zero] at H38
              refine ⟨_, _, _, _, _, _, _, _, _, _, _, _, _, _, _, H38.cells (i := 4) rfl, ?_⟩
              refine H38.store (i := 1) rfl (by rfl) (by rfl) ?_; intro w39 H39
              simp only [List.set_cons_succ, List.set_cons_zero] at H39
              refine kW_i64 (by omega) ?_
              exact ⟨⟨j + 1, p', q.1, ya, yc, got ++ pc.data, by omega, rfl, by simp only [List.length_append]; omega, hyok.1, hgq, by rw [hyok.2.1]; exact hlk, by rw [hyok.2.2]; exact hsf, bytes_app hgb hpcb, hall, hna2, fun h => .inr (by rw [hyok.2.1]; exact hle h), hp', (St.dropLast (R := [_, _, _, _]) (St.dropLast (R := [_, _, _, _, _]) H39)).imp fun _ h => h.2⟩, by omega⟩
            refine H37.ld (i := 5) (x := pc.poll) rfl rfl ?_
            refine H37.ld (i := 1) (x := s.pieces) rfl rfl ?_
            refine kW_i64 (by omega) ?_ -- r_9 + (1 : Int)
            refine H37.ld (i := 1) (x := s.lk.every) rfl rfl ?_
            refine bsplit_dec (fun c9 => ?_) (fun c9 => ?_) --  (decide ((r_9 + (1 : Int)) = r_11))
            · have hp1 := hpoll.2 (.inl c9)
              refine bsplit_n (fun c7 => ?_) (fun _ => fin) --  (!((decide (r_26 = (1 : Int))) == true))
              rw [decide_eq_true hp1] at c7; simp at c7
            · refine H37.ldS (i := 5) rfl rfl ?_
              refine kW_i64 (by omega) ?_ -- (got_l : Int) + (r_4_l : Int)
              refine bsplit_n (fun c8 => ?_) (fun _ => fin)
              have : decide (pc.poll = 1) = decide ((got.length : Int) + (pc.data.length : Int) = (all.length : Int)) := by
                rw [decide_eq_decide, hpoll]
                constructor
                · intro h
                  have := hend.2 (h.resolve_left c9); omega
                · intro h; exact .inr (hend.1 (by omega))
              rw [this, beq_self_eq_true] at c8; cases c8
          · refine bsplit_nd (fun c4 => absurd hEq c4) (fun _ => ?_) --  (!decide (f = (0 : Int)))
            refine bsplit_nd (fun c3 => absurd rfl c3) (fun _ => ?_) --  (!decide (r16 = (0 : Int)))
            exact H36.imp fun _ h => ⟨h.1, h.2.1.1, h.2.2.2⟩
      · refine H16.drew ?_; clear H16; intro w20 H20
        have hRx := hRu ua s.units
        refine ⟨fun z => z < w20.heap.size ∧ z ∉ [g], ?_⟩
        refine ⟨⟨H20.lt (i := 1) rfl rfl, nin1 (H20.ne (i := 1) (j := 0) rfl rfl (by decide) rfl rfl)⟩, ?_⟩
        refine ⟨_, _, _, _, _, _, _, _, _, _, _, _, _, _, _, H20.cells (i := 1) rfl, ?_⟩
        have bld : ∀ {w' : World} {T : List Res} {K : Ending → World → Prop} (v : Int), 5 ≤ v → v ≤ 4096 → St (All w) [] w w' T (fun w => UnR w ua s.units ∧ SlR (IntC .i64) 1 w ta ts ∧ True) →
            (∀ (q : Sd × List Int × Int) (ya : Option Addr) (yc : Nat) (ba : Option Addr) (bc : Nat) (w'' : World), q = buildS s v 0 → q.2.1.length ≤ bc → GU q.1.units → Bytes q.2.1 → Below w'.heap.size w' w'' → St (All w) [] w w'' T (fun w => (UnR w ya q.1.units ∧ SlR (IntC .u8) 1 w ba q.2.1) ∧ UnR w ua s.units ∧ SlR (IntC .i64) 1 w ta ts ∧ True) →
              K (.returned (.tuple #[aggS q.1 ya yc, .slice ba q.2.1.length bc, .int .i64 q.2.2])) w'') →
            Calls Try.prog N_sender_Build #[aggS s ua uc, .int .i64 v] w' K := fun {w' T K} v h1 h2 H hK => by
          have C := sender_Build_ct (s := s) (a := ua) (c := uc) (size := v) (w := w') H.get.1 hgu.1 (by omega)
          have hg := build_gu (size := v) hgu
          have hb := build_bytes (size := v) hgu
          rw [hbE] at C hg hb
          refine C.mono ?_
          rintro _ w2 ⟨ya, yc, ba, bc, hc, rfl, K⟩
          have H2 := H.callF K
          simp only [List.append_nil] at H2
          exact hK _ ya yc ba bc w2 rfl hc hg hb K.below H2
        have f20 := Fr.refl [g] w20
        refine ⟨?_, ?_, trivial⟩ --! fork
        · refine dNext H20 (i := 0) rfl hRx hp1 (by omega) fun v p2 w21 f21 hv hp2 H21 => ?_
          have hv := hv (by omega)
          simp only [List.set_cons_zero] at H21
          refine ⟨f21.keeps, ?_⟩
          refine kW_i64 (by omega) ?_ -- (5 : Int) + r10
          refine ⟨?_, ?_, trivial⟩ --! fork
          · refine bld (5 + v) (by omega) (by omega) H21 fun q ya yc ba bc w22 hq hc hg hb hb22 H22 => ?_
            refine ⟨_, _, _, _, _, _, _, _, _, _, _, _, _, _, _, _, _, _, _, rfl, ?_⟩
            have f22 := f21.tr (hb22.fr []) (by simp)
            refine ⟨f22.keeps, ?_⟩
            refine H22.allocB ?_; intro b4 w23 hb23 H23
            have f23 := f22.tr (hb23.fr []) (by simp)
            refine ⟨f23.keeps, ?_⟩
            simp only [List.cons_append, List.nil_append] at H23
            refine H23.store (i := 4) rfl (by rfl) (by rfl) ?_; intro w24 H24
            simp only [List.set_cons_succ, List.set_cons_zero] at H24
            exact ⟨5 + v, b4, p2, q, ya, yc, by omega, by omega, hq, rfl, rfl, rfl, hc, hp2, hg, hb, H24⟩
          · refine H21.allocB ?_; intro b5 w25 hb25 H25
            have f25 := f21.tr (hb25.fr []) (by simp)
            refine ⟨f25.keeps, ?_⟩
            refine bld (5 + v) (by omega) (by omega) H25 fun q ya yc ba bc w26 hq hc hg hb hb26 H26 => ?_
            refine ⟨_, _, _, _, _, _, _, _, _, _, _, _, _, _, _, _, _, _, _, rfl, ?_⟩
            have f26 := f25.tr (hb26.fr []) (by simp)
            refine ⟨f26.keeps, ?_⟩
            simp only [List.cons_append, List.nil_append] at H26
            refine H26.store (i := 4) rfl (by rfl) (by rfl) ?_; intro w27 H27
            simp only [List.set_cons_succ, List.set_cons_zero] at H27
            exact ⟨5 + v, b5, p2, q, ya, yc, by omega, by omega, hq, rfl, rfl, rfl, hc, hp2, hg, hb, H27⟩
        · refine H20.allocB ?_; intro b6 w28 hb28 H28
          have f28 := f20.tr (hb28.fr []) (by simp)
          refine ⟨f28.keeps, ?_⟩
          simp only [List.cons_append, List.nil_append] at H28
          refine dNext H28 (i := 0) rfl hRx hp1 (by omega) fun v p2 w29 f29 hv hp2 H29 => ?_
          have hv := hv (by omega)
          simp only [List.set_cons_zero] at H29
          have f29' := f28.tr f29 (by simp)
          refine ⟨f29'.keeps, ?_⟩
          refine kW_i64 (by omega) ?_ -- (5 : Int) + r13
          refine bld (5 + v) (by omega) (by omega) H29 fun q ya yc ba bc w30 hq hc hg hb hb30 H30 => ?_
          refine ⟨_, _, _, _, _, _, _, _, _, _, _, _, _, _, _, _, _, _, _, rfl, ?_⟩
          have f30 := f29'.tr (hb30.fr []) (by simp)
          refine ⟨f30.keeps, ?_⟩
          refine H30.store (i := 4) rfl (by rfl) (by rfl) ?_; intro w31 H31
          simp only [List.set_cons_succ, List.set_cons_zero] at H31
          exact ⟨5 + v, b6, p2, q, ya, yc, by omega, by omega, hq, rfl, rfl, rfl, hc, hp2, hg, hb, H31⟩
  · refine law20_awake_ct.mono ?_ -- 
    rintro _ w8 ⟨rfl, hb8⟩; have H8 := H7.pass hb8; clear H7
    refine ⟨_, rfl, ?_⟩
    refine bsplit_n (fun h => by cases h) (fun _ => ?_)
    exact bsplit_nd (fun c => absurd rfl c) (fun _ => H8)
end Go.Proofs.Ytmhggobilcmdmaa
