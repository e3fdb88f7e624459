import Derived.Test.YtjmjdjpbgjjhmaaW24g
namespace Go.Proofs.Ytjmjdjpbgjjhmaa
open Go.Sx Go.RowKit

theorem take_body {l : List Sec} {k : Nat} : (bodyS l ++ padS k).take (usedS l) = bodyS l := by
  rw [← bodyS_length, List.take_left]
section
variable {l_a m_a : Option Addr} {l_c m_c : Nat} {ts us : List Int} {more : Int} {w : World}
theorem law24_BlockGrows_ct (hl : SlR (IntC .i64) 1 w l_a ts) (hmo : 0 ≤ more ∧ more ≤ 255) :
    Calls Try.prog N_law24_BlockGrows #[(.slice l_a ts.length l_c), (.int .u8 more)] w fun e w' => e = .returned (.bool true) ∧ Below w.heap.size w w' := by
  apply F_law24_BlockGrows_ok
  unfold F_law24_BlockGrows
  have H := St.nil w
  have awake : ∀ {w' : World} {R : List Res} {P : World → Prop}, St (fun _ => False) [] w w' R P → Calls Try.prog N_law24_awake #[] w' fun e w'' => ∃ r : Bool, e = .returned (.bool r) ∧ (Ending.returned (.bool r) = .returned (.bool true) ∧ Below w.heap.size w w'') := fun H' => by
    refine law24_awake_ct.mono ?_
    rintro _ w2 ⟨rfl, hb2⟩
    exact ⟨_, rfl, rfl, (H'.pass hb2).below⟩
  refine roll_Light_ct.mono ?_ -- (.slice l_a l_l l_c)
  rintro _ w1 ⟨rfl, hb1⟩; have H1 := H.pass hb1; clear H
  refine ⟨_, rfl, ?_⟩
  refine bsplit_nd (fun c1 => awake H1) (fun c1 => ?_) --  (!r)
  refine throwS H1 (hl.below H1.below) (by omega) fun ra rc L xs w4 hL hLc H4 => ?_
  clear H1
  have hL1 := hL.len; have hL2 := hL.used
  have H4 := H4.imp fun _ h => secR_of h.1.1 h.1.2
  refine (block_Used_ct H4.get hL.small).mono ?_ -- (.slice r_a r_l r_c)
  rintro _ w5 ⟨rfl, hb5⟩; have H5 := H4.pass hb5; clear H4
  refine ⟨_, rfl, ?_⟩
  refine kLet_intro fun u hu => ?_
  refine kW_i64 (by omega) ?_ -- more
  refine kTmod (by omega) ?_
  have hu2 : 1 ≤ u ∧ (usedS L : Int) ≤ u ∧ u ≤ 154 := by
    split at hu <;> omega
  refine kW_i64 (by omega) ?_ -- (if r3 > (1 : Int) then r3 else (1 : Int)) + (more (30 : % Int))
  refine bsplit_dec (fun c6 => awake H5) (fun c6 => ?_) --  (decide (((if r3 > (1 : Int) then r3 else (1 : Int)) + (more (30 : % Int))) > (256 : Int)))
  have k1 : chkS L u = 0 := chk_fit (by omega) hL.first (by omega) (by omega)
  have k2 : chkS L (u + more % 30) = 0 := chk_fit (by omega) hL.first (by omega) (by omega)
  have e1 := encS_ok k1
  have e2 := encS_ok k2
  have n2 := encS_len k2
  have n1 := encS_len k1
  refine (block_Encode_ct H5.get hL.small).mono ?_ -- (.slice r_a r_l r_c), (.int .i64 (if r3 > (1 : Int) then r3 else (1 : Int)))
  rintro _ w7 ⟨qa, qc, hqc, rfl, S7⟩; have H7 := H5.callF S7; clear H5
  refine ⟨_, _, _, _, rfl, ?_⟩
  refine (block_Encode_ct H7.get.2 hL.small).mono ?_ -- (.slice r_a r_l r_c), (.int .i64 ((if r3 > (1 : Int) then r3 else (1 : Int)) + (more (30 : % Int))))
  rintro _ w8 ⟨qa1, qc1, hqc1, rfl, S8⟩; have H8 := H7.callF S8; clear H7
  refine ⟨_, _, _, _, rfl, ?_⟩
  refine (block_Decode_ct H8.get.1 (bytes_enc hL.bytes) (by omega) hqc1).mono ?_ -- (.slice r_a2 r_l2 r_c2)
  rintro _ w9 ⟨qa2, qc2, hqc2, rfl, S9⟩; have H9 := H8.callF S9; clear H8
  rw [decS_enc k2] at S9 H9 hqc2 ⊢
  refine ⟨_, _, _, _, rfl, ?_⟩
  refine (block_Used_ct H9.get.2.2.2 hL.small).mono ?_ -- (.slice r_a r_l r_c)
  rintro _ w10 ⟨rfl, hb10⟩; have H10 := H9.pass hb10; clear H9
  refine ⟨_, rfl, ?_⟩
  refine H10.drew ?_; clear H10; intro w11 H11
  refine ⟨(· < w11.heap.size), ?_⟩
  refine bsplit_dec (fun c5 => ?_) (fun c5 => absurd (by rw [e1]) c5) --  (decide (r5 = (0 : Int)))
  refine bsplit_dec (fun c4 => ?_) (fun c4 => absurd (by rw [e2]) c4) --  (decide (r6 = (0 : Int)))
  refine bsplit_dec (fun c3 => ?_) (fun c3 => absurd rfl c3) --  (decide (r7 = (0 : Int)))
  refine bsplit_dec (fun c2 => ?_) (fun c2 => absurd n2 c2) --  (decide ((r_l2 : Int) = ((if r3 > (1 : Int) then r3 else (1 : Int)) + (more (30 : % Int)))))
  refine ⟨⟨by omega, by omega⟩, ?_⟩ -- hi
  refine ⟨⟨by omega, by omega⟩, ?_⟩ -- hi
  have t1 : (encS L u).1.take (usedS L) = bodyS L := by rw [e1]; exact take_body
  have t2 : (encS L (u + more % 30)).1.take (usedS L) = bodyS L := by rw [e2]; exact take_body
  have s1 := H11.get.2.2.1.preE qc (usedS L)
  have s2 := H11.get.2.1.preE qc1 (usedS L)
  rw [t1] at s1
  rw [t2] at s2
  have el : (((usedS L : Nat) : Int).toNat - 0) = (bodyS L).length := by rw [bodyS_length]; omega
  simp only [el]
  refine (ref24_SameBytes_ct s1 s2 (by rw [bodyS_length]; omega)).mono ?_ -- (.slice (slAddr r_c1 0 1 r_a1) (r8.toNat - 0) (r_c1 - 0)), (.slice (slAddr r_c2 0 1 r_a2) (r8.toNat - 0) (r_c2 - 0))
  rintro _ w12 ⟨rfl, hb12⟩; have H12 := H11.pass hb12
  refine ⟨_, rfl, ?_⟩
  refine ⟨hb12.keeps, ?_⟩
  refine bsplit_dec (fun c1 => ?_) (fun c1 => absurd rfl c1) --  r9
  refine (ref24_Same_ct (l := L) (m := L) H12.get.1 H12.get.2.2.2 (by omega) hL.dataL).mono ?_ -- (.slice r_a3 r_l3 r_c3), (.slice r_a r_l r_c)
  rintro _ w13 ⟨rfl, hb13⟩; have H13 := H12.pass hb13
  refine ⟨_, rfl, ?_⟩
  replace hb13 := below_step hb12 (Nat.le_refl _) hb13
  refine ⟨hb13.keeps, ?_⟩
  refine bsplit_dec (fun c => ?_) (fun c => absurd rfl c) --  r10
  refine law24_awake_ct.mono ?_ -- 
  rintro _ w14 ⟨rfl, hb14⟩; have H14 := H13.pass hb14
  refine ⟨_, rfl, ?_⟩
  replace hb14 := below_step hb13 (Nat.le_refl _) hb14
  refine ⟨hb14.keeps, ?_⟩
  exact ⟨rfl, H14.below⟩ --! (.bool r11)
theorem law24_BlockBack_ct (hl : SlR (IntC .i64) 1 w l_a ts) (hm : SlR (IntC .i64) 1 w m_a us) (hmo : 0 ≤ more ∧ more ≤ 255) :
    Calls Try.prog N_law24_BlockBack #[(.slice l_a ts.length l_c), (.slice m_a us.length m_c), (.int .u8 more)] w fun e w' => e = .returned (.bool true) ∧ Below w.heap.size w w' := by
  apply F_law24_BlockBack_ok
  unfold F_law24_BlockBack
  have H := St.nil w
  have awake : ∀ {w' : World} {R : List Res} {P : World → Prop}, St (fun _ => False) [] w w' R P → Calls Try.prog N_law24_awake #[] w' fun e w'' => ∃ r : Bool, e = .returned (.bool r) ∧ (Ending.returned (.bool r) = .returned (.bool true) ∧ Below w.heap.size w w'') := fun H' => by
    refine law24_awake_ct.mono ?_
    rintro _ w2 ⟨rfl, hb2⟩
    exact ⟨_, rfl, rfl, (H'.pass hb2).below⟩
  refine ⟨fun  w5 => FreshR w w5 [] ∧ ts.length ≤ 300 ∧ us.length ≤ 300, ?_, ?_⟩ --!
  · rintro _  w5 ⟨H5, hts, hus⟩
    refine throwS H5 (hl.below H5.below) (by omega) fun ra rc L xs w7 hL hLc H7 => ?_
    clear H5
    refine throwS H7 (hm.below H7.below) (by omega) fun ra1 rc1 K ys w9 hK hKc H9 => ?_
    clear H7
    have hL1 := hL.len; have hK1 := hK.len; have hL2 := hL.used; have hK2 := hK.used
    have H9 := H9.imp fun _ h => (⟨secR_of h.1.1 h.1.2, secR_of h.2.1.1 h.2.1.2⟩ : SecR _ ra1 K ∧ SecR _ ra L)
    refine (block_Used_ct H9.get.2 hL.small).mono ?_ -- (.slice r_a r_l r_c)
    rintro _ w10 ⟨rfl, hb10⟩; have H10 := H9.pass hb10; clear H9
    refine ⟨_, rfl, ?_⟩
    refine (block_Used_ct H10.get.1 hK.small).mono ?_ -- (.slice r_a1 r_l1 r_c1)
    rintro _ w11 ⟨rfl, hb11⟩; have H11 := H10.pass hb11; clear H10
    refine ⟨_, rfl, ?_⟩
    refine kW_i64 (by omega) ?_ -- more
    refine kTmod (by omega) ?_
    obtain ⟨u, hu⟩ : ∃ u : Int, u = if ((usedS K : Nat) : Int) > (if ((usedS L : Nat) : Int) > 1 then ((usedS L : Nat) : Int) else 1) then ((usedS K : Nat) : Int) else (if ((usedS L : Nat) : Int) > 1 then ((usedS L : Nat) : Int) else 1) := ⟨_, rfl⟩
    rw [← hu]
    have hu2 : 1 ≤ u ∧ (usedS L : Int) ≤ u ∧ (usedS K : Int) ≤ u ∧ u ≤ 154 := by
      split at hu <;> split at * <;> omega
    clear hu
    refine kW_i64 (by omega) ?_
    obtain ⟨v, hv⟩ : ∃ v : Int, v = u + more % 20 := ⟨_, rfl⟩
    rw [← hv]
    refine bsplit_dec (fun c8 => awake H11) (fun c8 => ?_)
    have k1 : chkS L v = 0 := chk_fit (by omega) hL.first (by omega) (by omega)
    have k2 : chkS K v = 0 := chk_fit (by omega) hK.first (by omega) (by omega)
    have e1 := encS_ok k1
    have e2 := encS_ok k2
    have n2 := encS_len k2
    have n1 := encS_len k1
    refine (block_Encode_ct H11.get.2 hL.small).mono ?_
    rintro _ w13 ⟨qa, qc, hqc, rfl, S13⟩; have H13 := H11.callF S13; clear H11
    refine ⟨_, _, _, _, rfl, ?_⟩
    refine (block_Encode_ct H13.get.2.1 hK.small).mono ?_
    rintro _ w14 ⟨qa1, qc1, hqc1, rfl, S14⟩; have H14 := H13.callF S14; clear H13
    refine ⟨_, _, _, _, rfl, ?_⟩
    refine (block_Decode_ct H14.get.2.1 (bytes_enc hL.bytes) (by omega) hqc).mono ?_ -- (.slice r_a2 r_l2 r_c2)
    rintro _ w15 ⟨qa2, qc2, hqc2, rfl, S15⟩; have H15 := H14.callF S15; clear H14
    rw [decS_enc k1] at S15 H15 hqc2 ⊢
    refine ⟨_, _, _, _, rfl, ?_⟩
    refine bsplit_dec (fun c7 => ?_) (fun c7 => absurd (by rw [e1]) c7) --  (decide (r9 = (0 : Int)))
    refine bsplit_dec (fun c6 => ?_) (fun c6 => absurd (by rw [e2]) c6) --  (decide (r10 = (0 : Int)))
    refine bsplit_dec (fun c5 => ?_) (fun c5 => absurd rfl c5) --  (decide (r11 = (0 : Int)))
    refine bsplit_dec (fun c4 => ?_) (fun c4 => absurd n1 c4)
    refine (ref24_Same_ct (l := L) (m := L) H15.get.1 H15.get.2.2.2.2 (by omega) hL.dataL).mono ?_ -- (.slice r_a4 r_l4 r_c4), (.slice r_a r_l r_c)
    rintro _ w16 ⟨rfl, hb16⟩; have H16 := H15.pass hb16; clear H15
    refine ⟨_, rfl, ?_⟩
    refine bsplit_dec (fun c3 => ?_) (fun c3 => absurd rfl c3) --  r12
    refine (ref24_SameBytes_ct (xs := (encS L v).1) (ys := (encS K v).1) H16.get.2.2.1 H16.get.2.1 (by omega)).mono ?_ -- (.slice r_a2 r_l2 r_c2), (.slice r_a3 r_l3 r_c3)
    rintro _ w17 ⟨rfl, hb17⟩; have H17 := H16.pass hb17; clear H16
    refine ⟨_, rfl, ?_⟩
    refine (ref24_Same_ct H17.get.2.2.2.2 H17.get.2.2.2.1 (by omega) hL.dataL).mono ?_ -- (.slice r_a r_l r_c), (.slice r_a1 r_l1 r_c1)
    rintro _ w18 ⟨rfl, hb18⟩; have H18 := H17.pass hb18; clear H17
    refine ⟨_, rfl, ?_⟩
    have hiff : (encS L v).1 = (encS K v).1 ↔ L = K := ⟨encS_inj k1 k2, fun h => by rw [h]⟩
    refine bsplit_intro (fun c2 => awake H18) (fun c2 => absurd c2 (by simp [hiff])) --  (r13 == r14)
  · refine roll_Light_ct.mono ?_ -- (.slice l_a l_l l_c)
    rintro _ w1 ⟨rfl, hb1⟩; have H1 := H.pass hb1; clear H
    refine ⟨_, rfl, ?_⟩
    refine bsplit_nd (fun c1 => awake H1) (fun c1 => ?_) --  (!r)
    refine roll_Light_ct.mono ?_ -- (.slice m_a m_l m_c)
    rintro _ w3 ⟨rfl, hb3⟩; have H3 := H1.pass hb3; clear H1
    refine ⟨_, rfl, ?_⟩
    refine bsplit_nd (fun c => awake H3) (fun c => ?_) --  (!r2)
    exact ⟨H3, by omega, by omega⟩ --! J 
end
end Go.Proofs.Ytjmjdjpbgjjhmaa
