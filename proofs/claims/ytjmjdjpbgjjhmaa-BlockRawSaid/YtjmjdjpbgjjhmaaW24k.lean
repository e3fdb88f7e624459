import Derived.Test.YtjmjdjpbgjjhmaaW24j
namespace Go.Proofs.Ytjmjdjpbgjjhmaa
open Go.Sx Go.RowKit

theorem encS_le (l : List Sec) (room : Int) : (encS l room).1.length ≤ 256 := by
  by_cases hc : chkS l room = 0
  · have := encS_len hc; have := (chk_ok hc).1; omega
  · rw [encS_err hc]; simp
theorem decS_small (b : List Int) : usedS (decS b).1 ≤ 256 := by
  unfold decS
  split
  · simp [usedS]
  unfold decOf
  split
  · simp [usedS]
  · split
    · simp [usedS]
    · rename_i l _ h
      have hc : chkS l b.length = 0 := by
        rcases Decidable.em (chkS l b.length = 0) with h' | h'
        · exact h'
        · rw [encS_err h'] at h; exact absurd (.inl h') h
      have := chk_ok hc
      show usedS l ≤ 256
      omega
theorem decS_data (b : List Int) : (decS b).1.length ≤ 140737488355328 ∧ ∀ s ∈ (decS b).1, s.data.length ≤ 140737488355328 := by
  have h := decS_small b
  have h2 := len_used (decS b).1
  exact ⟨by omega, fun s hs => by have := used_mem hs; omega⟩
theorem slAddr0 (m sz : Nat) (a : Option Addr) : slAddr m 0 sz a = a := by
  unfold slAddr
  split
  · rfl
  · cases a <;> simp [add_zero]
theorem xor_u8 (x y : Int) : 0 ≤ bXor .u8 x y ∧ bXor .u8 x y < 256 := by
  show 0 ≤ (_ : Int) % 256 ∧ (_ : Int) % 256 < 256
  omega
section
variable {l_a : Option Addr} {l_c : Nat} {ts : List Int} {more at1 by1 how : Int} {w : World}
theorem law24_BlockMade_ct (hl : SlR (IntC .i64) 1 w l_a ts) (hby : 0 ≤ by1 ∧ by1 < 256) (hho : 0 ≤ how) :
    Calls Try.prog N_law24_BlockMade #[(.slice l_a ts.length l_c), (.int .i64 more), (.int .i64 at1), (.int .u8 by1), (.int .u8 how)] w fun e w' => e = .returned (.bool true) ∧ Below w.heap.size w w' := by
  apply F_law24_BlockMade_ok
  unfold F_law24_BlockMade
  have H := St.nil w
  have awake : ∀ {w' : World} {R : List Res} {P : World → Prop}, St (fun _ => False) [] w w' R P → Calls Try.prog N_law24_awake #[] w' fun e w'' => ∃ r : Bool, e = .returned (.bool r) ∧ (Ending.returned (.bool r) = .returned (.bool true) ∧ Below w.heap.size w w'') := fun H' => by
    refine law24_awake_ct.mono ?_
    rintro _ w2 ⟨rfl, hb2⟩
    exact ⟨_, rfl, rfl, (H'.pass hb2).below⟩
  refine roll_Light_ct.mono ?_ -- (.slice l_a l_l l_c)
  rintro _ w1 ⟨rfl, hb1⟩; have H1 := H.pass hb1; clear H
  refine ⟨_, rfl, ?_⟩
  refine bsplit_nd (fun c1 => awake H1) (fun c1 => ?_) --  (!r)
  refine throwS H1 (hl.below H1.below) (by omega) fun ra rc L xs w4 hL hLc H4 => ?_
  clear H1
  have hL1 := hL.len; have hL2 := hL.used
  have H4 := H4.imp fun _ h => secR_of h.1.1 h.1.2
  refine (ref24_Used_ct H4.get hL.small).mono ?_ -- (.slice r_a r_l r_c)
  rintro _ w5 ⟨rfl, hb5⟩; have H5 := H4.pass hb5; clear H4
  refine ⟨_, rfl, ?_⟩
  refine (roll_Mod_ct more 7 (by omega)).mono ?_ -- (.int .i64 more), (.int .i64 (7 : Int))
  rintro _ w6 ⟨rfl, hb6⟩; have H6 := H5.pass hb6; clear H5
  refine ⟨_, rfl, ?_⟩
  have hm := modR_range more 7 (by omega)
  refine kW_i64 (by omega) ?_ -- r3 + r4
  refine kW_i64 (by omega) ?_ -- (r3 + r4) - (2 : Int)
  obtain ⟨v, hv⟩ : ∃ v : Int, v = (usedS L : Int) + modR more 7 - 2 := ⟨_, rfl⟩
  rw [← hv]
  refine (block_Encode_ct H6.get hL.small).mono ?_
  rintro _ w7 ⟨qa, qc, hqc, rfl, S7⟩; have H7 := H6.callF S7; clear H6
  refine ⟨_, _, _, _, rfl, ?_⟩
  refine (ref24_Encode_ct H7.get.2 hL.small).mono ?_
  rintro _ w8 ⟨qa1, qc1, hqc1, rfl, S8⟩; have H8 := H7.callF S8; clear H7
  refine ⟨_, _, _, _, rfl, ?_⟩
  have hel := encS_le L v
  have hbe : Bytes (encS L v).1 := bytes_enc hL.bytes
  refine ⟨fun w10 => St (fun _ => False) [] w w10 [] fun w => SlR (IntC .u8) 1 w qa1 (encS L v).1 ∧ SlR (IntC .u8) 1 w qa (encS L v).1 ∧ SecR w ra L, ?_, ?_⟩ --!
  · rintro _ w10 H10
    refine bsplit_dec (fun c6 => ?_) (fun c6 => awake H10) --  (decide ((r_l1 : Int) > (0 : Int)))
    refine (roll_Mod_ct at1 _ (by omega)).mono ?_ -- (.int .i64 at1), (.int .i64 (r_l1 : Int))
    rintro _ w11 ⟨rfl, hb11⟩; have H11 := H10.pass hb11; clear H10
    refine ⟨_, rfl, ?_⟩
    have hk := modR_range at1 ((encS L v).1.length : Int) (by omega)
    obtain ⟨k, hk2⟩ := natOf hk.1
    rw [hk2] at hk ⊢
    refine H11.alloc ?_; clear H11; intro b w12 H12
    have H12 := H12.litI (i := 0) (k := .u8) [] rfl (by decide)
    refine H12.appI (i := 0) rfl sl_Ty_S_uint8 H12.get.2.1 (by simp; omega) (by simp; omega) ?_; intro x_a x_c w13 H13 --! append (.slice (some ⟨b, 0, none⟩) 0 0) (.slice r_a1 r_l1 r_c1)
    simp only [List.nil_append] at H13 ⊢
    clear H12
    obtain ⟨ys, hys⟩ : ∃ ys, (encS L v).1 = ys := ⟨_, rfl⟩
    rw [hys] at H13 hel hbe hk c6 ⊢
    have hxc := H13.capI (i := 0) rfl
    refine ⟨fun z_a z_l z_c w19 => ∃ zs : List Int, z_l = zs.length ∧ Bytes zs ∧ zs.length ≤ 257 ∧ St (fun _ => False) [] w w19 [.ints Ty_uint8 .u8 z_a z_c zs] fun _ => True, ?_, ?_⟩ --!
    · rintro _ z_a z_l z_c w19 ⟨zs, rfl, hzb, hzl, H19⟩
      have hzc := H19.capI (i := 0) rfl
      refine (block_Decode_ct (H19.slI (i := 0) rfl) hzb (by omega) hzc).mono ?_ -- (.slice z_a z_l z_c)
      rintro _ w20 ⟨da, dc, hdc, rfl, S20⟩; have H20 := H19.callF S20; clear H19
      refine ⟨_, _, _, _, rfl, ?_⟩
      refine (ref24_Decode_ct (H20.slI (i := 0) rfl) hzb (by omega) hzc).mono ?_ -- (.slice z_a z_l z_c)
      rintro _ w21 ⟨da1, dc1, hdc1, rfl, S21⟩; have H21 := H20.callF S21; clear H20
      refine ⟨_, _, _, _, rfl, ?_⟩
      refine bsplit_nd (fun c5 => absurd rfl c5) (fun c5 => ?_) --  (!decide (r9 = r10))
      have hds := decS_data zs
      refine (ref24_Same_ct (l := (decS zs).1) (m := (decS zs).1) H21.get.2.1 H21.get.1 hds.1 hds.2).mono ?_ -- (.slice r_a3 r_l3 r_c3), (.slice r_a4 r_l4 r_c4)
      rintro _ w22 ⟨rfl, hb22⟩; have H22 := H21.pass hb22; clear H21
      refine ⟨_, rfl, ?_⟩
      exact bsplit_nd (fun c4 => absurd rfl c4) (fun c4 => awake H22) --  (!r11)
    · refine kTmod (by omega) ?_
      refine kLet_in ?_
      refine bsplit_dec (fun c3 => ?_) (fun c3 => ?_) --  (decide ((how (3 : % Int)) = (0 : Int)))
      · obtain ⟨g, rfl, -, -⟩ := H13.rowSome (i := 0) rfl (by omega)
        have hkl : k < ys.length := by omega
        refine kIx_at ⟨by omega, by omega⟩ ?_
        rw [add_mk, Nat.zero_add, Nat.mul_one, Int.toNat_natCast]
        refine ⟨ys[k], H13.cellRow (i := 0) rfl (by rw [List.getElem?_map, List.getElem?_eq_getElem hkl]; rfl), ?_⟩ --! load
        refine kLet_intro fun x5 hx5 => ?_ --! bXor .u8 x4 by1
        have hxr := xor_u8 ys[k] by1
        rw [← hx5] at hxr
        refine kIx_at ⟨by omega, by omega⟩ ?_
        rw [add_mk, Nat.zero_add]
        refine H13.setI (i := 0) rfl hkl fun w14 _ H14 => ?_
        refine ⟨ys.set k x5, by simp, fun i hi => ?_, by simp; omega, H14.imp fun _ _ => trivial⟩ --! J1 x_a x_l x_c
        rw [List.getElem_set]; split
        · exact hxr
        · exact hbe i (by simpa using hi)
      · refine kLet_in ?_
        refine bsplit_dec (fun c2 => ?_) (fun c2 => ?_) --  (decide ((how (3 : % Int)) = (1 : Int)))
        · refine H13.drew ?_; clear H13; intro w15 H15
          refine ⟨fun _ => False, ?_⟩
          refine ⟨⟨by omega, by omega⟩, ?_⟩ -- hi
          refine kW_i64 (by omega) ?_ -- r8 + (1 : Int)
          refine ⟨⟨by omega, by omega⟩, ?_⟩ -- lo
          have hsl := (H15.slI (i := 0) rfl).tail (l := k + 1) hxc
          have H15 := H15.shrinkI (i := 0) rfl k (by omega)
          have e0 : ((k : Int) + 1).toNat = k + 1 := by omega
          have e1 : ((k : Int).toNat - 0) = (ys.take k).length := by simp; omega
          have e2 : ys.length - (k + 1) = (ys.drop (k + 1)).length := by simp
          simp only [e0, e1, e2, slAddr0, Nat.sub_zero]
          refine H15.appI (i := 0) rfl sl_Ty_S_uint8 hsl (by simp; omega) (by simp; omega) ?_; intro x_a1 x_c1 w16 H16
          refine ⟨fun p _ hp _ => hp.elim, ?_⟩ --!
          exact ⟨ys.take k ++ ys.drop (k + 1), rfl, bytes_app (bytes_take hbe _) (bytes_drop hbe _), by simp; omega, H16.imp fun _ _ => trivial⟩ --! J1 x_a1 x_l1 x_c1
        · refine H13.alloc ?_; clear H13; intro b3 w17 H17
          refine H17.appIB (i := 0) (j := 1) rfl [by1] rfl sl_Ty_S_uint8 rfl (by simp; omega) (by simp; omega) ?_; intro x_a2 x_c2 w18 H18 --! append (.slice x_a x_l x_c) (.slice (some ⟨b3, 0, none⟩) 1 1)
          refine ⟨ys ++ [by1], rfl, bytes_app hbe (bytes_cons hby bytes_nil), by simp; omega, (H18.sub (fun i => i) ?_ (fun _ _ _ _ h => h)).imp fun _ _ => trivial⟩ --! J1 x_a2 x_l2 x_c2
          rintro (_ | _) r h <;> first | exact h | cases h
  · refine bsplit_nd (fun c1 => absurd rfl c1) (fun c1 => ?_) --  (!decide (r5 = r6))
    refine (ref24_SameBytes_ct (xs := (encS L v).1) (ys := (encS L v).1) H8.get.2.1 H8.get.1 (by omega)).mono ?_ -- (.slice r_a1 r_l1 r_c1), (.slice r_a2 r_l2 r_c2)
    rintro _ w9 ⟨rfl, hb9⟩; have H9 := H8.pass hb9; clear H8
    refine ⟨_, rfl, ?_⟩
    refine bsplit_nd (fun c => absurd rfl c) (fun c => H9) --  (!r7)
end
end Go.Proofs.Ytjmjdjpbgjjhmaa
