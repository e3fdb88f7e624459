import Derived.Test.YtmhggobilcmdmaaBase
import Derived.KernelRfl
namespace Go.Proofs.Ytmhggobilcmdmaa
open Go.Sx Go.RowKit
set_option maxRecDepth 100000

def h_law20_SenderMade : H := (.seq .reg (.seq (.seq .reg (.cond (.seq .reg .leaf) .leaf)) (.seq .reg (.seq .reg (.seq .reg (.cut [] [22, 23, 24, 25, 26, 27, 28] (.seq .reg (.cond .reg .leaf)) (.cut [] [6, 7, 8, 9, 29, 30, 31, 32, 33, 34, 35, 36, 37, 38, 39, 40, 41, 42, 43, 44, 45, 46, 47, 48, 49, 50, 51, 52, 53, 54, 55, 56, 57, 58, 59, 60, 61, 62, 63, 64, 65, 66, 67, 68, 69, 70, 71, 72, 73, 74, 75, 76, 77, 78, 79, 80, 81, 82, 83, 84, 85, 86, 87, 88, 89, 90, 91, 92, 93, 94, 95, 96, 97, 98, 99, 100, 101, 102, 103, 104, 105, 106, 107, 108, 109, 110, 111, 112, 113, 114, 115, 116, 117, 118, 119, 120, 121, 122, 123, 124, 125, 126, 127, 128, 129, 130] (.seq .reg (.cond (.seq .reg (.block (.seq .reg (.cond .reg (.seq .reg (.cond (.draw .blk (.one 0 .pur (.one 1 .stable (.one 2 .pur (.one 3 .keep (.one 4 .pur (.one 5 .pur (.one 6 .pur (.one 7 .last .nil))))))))) (.seq .reg (.cond (.draw .blk (.one 0 .pur (.one 1 .stable (.one 2 .pur (.one 3 .keep (.one 4 .pur (.one 5 .pur (.one 6 .pur (.one 7 .last .nil))))))))) (.seq .reg (.cond .reg (.seq .reg (.cond .reg (.seq .reg (.cond .reg (.seq .reg (.cond .reg (.seq .reg (.cond (.seq .reg (.seq .reg (.cond (.seq (.draw .blk (.one 0 .pur (.one 1 .stable (.one 2 .pur (.one 3 .pur (.one 4 .keep (.one 5 .pur (.one 6 .pur .nil)))))))) (.draw .blk (.one 0 .pur (.one 1 .pur (.one 2 .pur (.one 3 .stable (.one 4 .pur (.one 5 .keep (.one 6 .pur (.one 7 .pur (.one 8 .pur (.one 9 .pur (.one 10 .last .nil))))))))))))) .leaf))) (.seq .reg (.seq .reg (.cond (.seq (.draw .blk (.one 0 .pur (.one 1 .stable (.one 2 .pur (.one 3 .pur (.one 4 .keep (.one 5 .pur (.one 6 .pur .nil)))))))) (.draw .blk (.one 0 .pur (.one 1 .pur (.one 2 .pur (.one 3 .pur (.one 4 .stable (.one 5 .pur (.one 6 .pur (.one 7 .pur (.one 8 .stable (.one 9 .pur (.one 11 .pur (.one 10 .keep (.one 12 .keep (.one 13 .keep (.one 14 .keep (.one 15 .last (.one 16 .pur (.one 17 .pur (.one 18 .last .nil))))))))))))))))))))) .leaf))))))))))))))))))))) .leaf)) (.seq .reg (.seq (.seq .reg (.cond .reg .leaf)) (.seq (.draw .blk (.one 0 .keep (.one 1 .pur (.one 2 .stable (.one 3 .pur (.one 4 .pur (.one 7 .stable (.one 5 .keep (.one 6 .pur (.one 8 .last (.one 9 .pur (.one 10 .pur .nil)))))))))))) .leaf))))))))))
def F_law20_SenderMade (t_a : Option Addr) (t_l : Nat) (t_c : Nat) (w : World) (R : Value → World → Prop) : Prop :=
  (Calls Try.prog N_made_Light #[(.slice t_a t_l t_c)] w fun e_ w1 =>
  ∃ r : Bool, e_ = .returned (.bool r) ∧
  (bsplit (!r)
    ((Calls Try.prog N_law20_awake #[] w1 fun e_1 w2 =>
    ∃ r1 : Bool, e_1 = .returned (.bool r1) ∧
    R (.bool r1) w2))
    ((Calls Try.prog N_made_Roll #[(.slice t_a t_l t_c)] w1 fun e_2 w3 =>
    ∃ r2 : Option Addr, e_2 = .returned (.pointer r2) ∧
    (Calls Try.prog N_law20_random #[(.pointer r2)] w3 fun e_3 w4 =>
    ∃ r_0 r_1 r_2 r_3 r_4 r_5 r_6 r_7 : Int, ∃ r_8_a : Option Addr, ∃ r_8_l r_8_c : Nat, ∃ r_9 r_10 r_11 : Int, ∃ r_12 : Bool, e_3 = .returned (.agg #[.int .i64 r_0, .int .i64 r_1, .int .i64 r_2, .int .i64 r_3, .int .i64 r_4, .int .i64 r_5, .int .i64 r_6, .int .i64 r_7, .slice r_8_a r_8_l r_8_c, .int .i64 r_9, .int .i64 r_10, .int .i64 r_11, .bool r_12]) ∧
    (kAlloc w4 #[.int .i64 (0 : Int), .int .i64 (0 : Int), .int .i64 (0 : Int), .int .i64 (0 : Int), .int .i64 (0 : Int), .int .i64 (0 : Int), .int .i64 (0 : Int), .int .i64 (0 : Int), .slice none 0 0, .int .i64 (0 : Int), .int .i64 (0 : Int), .int .i64 (0 : Int), .bool false] Ty_api_Sender fun b w5 =>
    (sxStore w5 ⟨b, 0, none⟩ 0 [(.int .i64 r_0), (.int .i64 r_1), (.int .i64 r_2), (.int .i64 r_3), (.int .i64 r_4), (.int .i64 r_5), (.int .i64 r_6), (.int .i64 r_7), (.slice r_8_a r_8_l r_8_c), (.int .i64 r_9), (.int .i64 r_10), (.int .i64 r_11), (.bool r_12)] fun w6 =>
    (∃ x_0 x_1 x_2 x_3 x_4 x_5 x_6 x_7 : Int, ∃ x_8_a : Option Addr, ∃ x_8_l x_8_c : Nat, ∃ x_9 x_10 x_11 : Int, ∃ x_12 : Bool, cellsAt w6 ⟨b, 0, none⟩ 0 [(.int .i64 x_0), (.int .i64 x_1), (.int .i64 x_2), (.int .i64 x_3), (.int .i64 x_4), (.int .i64 x_5), (.int .i64 x_6), (.int .i64 x_7), (.slice x_8_a x_8_l x_8_c), (.int .i64 x_9), (.int .i64 x_10), (.int .i64 x_11), (.bool x_12)] ∧
    (Calls Try.prog N_law20_report #[(.pointer r2), (.agg #[.int .i64 x_0, .int .i64 x_1, .int .i64 x_2, .int .i64 x_3, .int .i64 x_4, .int .i64 x_5, .int .i64 x_6, .int .i64 x_7, .slice x_8_a x_8_l x_8_c, .int .i64 x_9, .int .i64 x_10, .int .i64 x_11, .bool x_12])] w6 fun e_4 w7 =>
    ∃ r_01 : Int, ∃ r_1_a : Option Addr, ∃ r_1_l r_1_c : Nat, e_4 = .returned (.agg #[.int .i64 r_01, .slice r_1_a r_1_l r_1_c]) ∧
    (kAlloc w7 #[.int .i64 (0 : Int), .slice none 0 0] Ty_api_Status fun b1 w8 =>
    (sxStore w8 ⟨b1, 0, none⟩ 0 [(.int .i64 r_01), (.slice r_1_a r_1_l r_1_c)] fun w9 =>
    (∃ J : World → Prop,
    (∀ (_junk : Env)  (w13 : World), J w13 →
      (∃ J1 : World → Prop,
      (∀ (_junk : Env)  (w44 : World), J1 w44 →
        (Calls Try.prog N_made_Dice_Bytes #[(.pointer r2), (.int .i64 (9 : Int))] w44 fun e_20 w45 =>
        ∃ r_a : Option Addr, ∃ r_l r_c : Nat, e_20 = .returned (.slice r_a r_l r_c) ∧
        (Calls Try.prog N_made_Dice_One #[(.pointer r2), (.int .i64 (8 : Int))] w45 fun e_21 w46 =>
        ∃ r16 : Bool, e_21 = .returned (.bool r16) ∧
        (bsplit r16
          ((Calls Try.prog N_made_Dice_Next #[(.pointer r2), (.int .i64 (3 : Int))] w46 fun e_22 w47 =>
          ∃ r17 : Int, e_22 = .returned (.int .i64 r17) ∧
          (kW .i64 ((2053 : Int) + r17) fun x22 =>
          (Calls Try.prog N_made_Filled #[(.int .i64 x22), (.int .i64 (1 : Int))] w47 fun e_23 w48 =>
          ∃ r_a1 : Option Addr, ∃ r_l1 r_c1 : Nat, e_23 = .returned (.slice r_a1 r_l1 r_c1) ∧
          (kDrew w48 fun w49 =>
          (∃ S6 : Nat → Prop,
          (Calls Try.prog N_law20_awake #[] w49 fun e_24 w50 =>
          ∃ r18 : Bool, e_24 = .returned (.bool r18) ∧
          (KeepsB S6 w49 w50 ∧ (bsplit r18
            ((S6 b ∧
            (∃ x_02 x_14 x_22 x_32 x_42 x_52 x_61 x_71 : Int, ∃ x_8_a1 : Option Addr, ∃ x_8_l1 x_8_c1 : Nat, ∃ x_91 x_101 x_111 : Int, ∃ x_121 : Bool, cellsAt w49 ⟨b, 0, none⟩ 0 [(.int .i64 x_02), (.int .i64 x_14), (.int .i64 x_22), (.int .i64 x_32), (.int .i64 x_42), (.int .i64 x_52), (.int .i64 x_61), (.int .i64 x_71), (.slice x_8_a1 x_8_l1 x_8_c1), (.int .i64 x_91), (.int .i64 x_101), (.int .i64 x_111), (.bool x_121)] ∧
            (S6 b1 ∧
            (∃ x_03 : Int, ∃ x_1_a : Option Addr, ∃ x_1_l x_1_c : Nat, cellsAt w49 ⟨b1, 0, none⟩ 0 [(.int .i64 x_03), (.slice x_1_a x_1_l x_1_c)] ∧
            (Calls Try.prog N_made_Dice_Next #[(.pointer r2), (.int .i64 (20 : Int))] w50 fun e_25 w51 =>
            ∃ r19 : Int, e_25 = .returned (.int .i64 r19) ∧
            (KeepsB S6 w49 w51 ∧ (kW .i64 (r19 - (1 : Int)) fun x23 =>
            (Calls Try.prog N_law20_agree #[(.agg #[.int .i64 x_02, .int .i64 x_14, .int .i64 x_22, .int .i64 x_32, .int .i64 x_42, .int .i64 x_52, .int .i64 x_61, .int .i64 x_71, .slice x_8_a1 x_8_l1 x_8_c1, .int .i64 x_91, .int .i64 x_101, .int .i64 x_111, .bool x_121]), (.slice r_a1 r_l1 r_c1), (.int .i64 x23), (.agg #[.int .i64 x_03, .slice x_1_a x_1_l x_1_c])] w51 fun e_26 w52 =>
            ∃ r20 : Bool, e_26 = .returned (.bool r20) ∧
            R (.bool r20) w52)))))))))
            (R (.bool false) w50))))))))))
          ((kDrew w46 fun w53 =>
          (∃ S7 : Nat → Prop,
          (Calls Try.prog N_law20_awake #[] w53 fun e_27 w54 =>
          ∃ r21 : Bool, e_27 = .returned (.bool r21) ∧
          (KeepsB S7 w53 w54 ∧ (bsplit r21
            ((S7 b ∧
            (∃ x_04 x_15 x_23 x_33 x_43 x_53 x_62 x_72 : Int, ∃ x_8_a2 : Option Addr, ∃ x_8_l2 x_8_c2 : Nat, ∃ x_92 x_102 x_112 : Int, ∃ x_122 : Bool, cellsAt w53 ⟨b, 0, none⟩ 0 [(.int .i64 x_04), (.int .i64 x_15), (.int .i64 x_23), (.int .i64 x_33), (.int .i64 x_43), (.int .i64 x_53), (.int .i64 x_62), (.int .i64 x_72), (.slice x_8_a2 x_8_l2 x_8_c2), (.int .i64 x_92), (.int .i64 x_102), (.int .i64 x_112), (.bool x_122)] ∧
            (S7 b1 ∧
            (∃ x_05 : Int, ∃ x_1_a1 : Option Addr, ∃ x_1_l1 x_1_c1 : Nat, cellsAt w53 ⟨b1, 0, none⟩ 0 [(.int .i64 x_05), (.slice x_1_a1 x_1_l1 x_1_c1)] ∧
            (Calls Try.prog N_made_Dice_Next #[(.pointer r2), (.int .i64 (20 : Int))] w54 fun e_28 w55 =>
            ∃ r22 : Int, e_28 = .returned (.int .i64 r22) ∧
            (KeepsB S7 w53 w55 ∧ (kW .i64 (r22 - (1 : Int)) fun x24 =>
            (Calls Try.prog N_law20_agree #[(.agg #[.int .i64 x_04, .int .i64 x_15, .int .i64 x_23, .int .i64 x_33, .int .i64 x_43, .int .i64 x_53, .int .i64 x_62, .int .i64 x_72, .slice x_8_a2 x_8_l2 x_8_c2, .int .i64 x_92, .int .i64 x_102, .int .i64 x_112, .bool x_122]), (.slice r_a r_l r_c), (.int .i64 x24), (.agg #[.int .i64 x_05, .slice x_1_a1 x_1_l1 x_1_c1])] w55 fun e_29 w56 =>
            ∃ r23 : Bool, e_29 = .returned (.bool r23) ∧
            R (.bool r23) w56)))))))))
            (R (.bool false) w54))))))))))) ∧
      (Calls Try.prog N_made_Dice_One #[(.pointer r2), (.int .i64 (3 : Int))] w13 fun e_7 w14 =>
      ∃ r4 : Bool, e_7 = .returned (.bool r4) ∧
      (bsplit r4
        ((Calls Try.prog N_made_Dice_Next #[(.pointer r2), (.int .i64 (9 : Int))] w14 fun e_8 w15 =>
        ∃ r5 : Int, e_8 = .returned (.int .i64 r5) ∧
        (kLet (decide (r5 = (0 : Int))) fun x1 =>
        (bsplit x1
          ((∃ x_01 x_13 x_21 x_31 x_41 x_51 : Int, cellsAt w15 ⟨b, 0, none⟩ 0 [(.int .i64 x_01), (.int .i64 x_13), (.int .i64 x_21), (.int .i64 x_31), (.int .i64 x_41), (.int .i64 x_51)] ∧
          (Calls Try.prog N_made_Dice_OddLink #[(.pointer r2), (.agg #[.int .i64 x_01, .int .i64 x_13, .int .i64 x_21, .int .i64 x_31, .int .i64 x_41, .int .i64 x_51])] w15 fun e_9 w16 =>
          ∃ r_03 r_13 r_21 r_31 r_41 r_51 : Int, e_9 = .returned (.agg #[.int .i64 r_03, .int .i64 r_13, .int .i64 r_21, .int .i64 r_31, .int .i64 r_41, .int .i64 r_51]) ∧
          (sxStore w16 ⟨b, 0, none⟩ 0 [(.int .i64 r_03), (.int .i64 r_13), (.int .i64 r_21), (.int .i64 r_31), (.int .i64 r_41), (.int .i64 r_51)] fun w17 =>
          J1 w17))))
          ((kLet (decide (r5 = (1 : Int))) fun x2 =>
          (bsplit x2
            ((kDrew w15 fun w18 =>
            (∃ S : Nat → Prop,
            (S b ∧
            (kLd w18 ⟨b, 6, none⟩ .i64 fun x3 =>
            (Calls Try.prog N_made_Dice_Next #[(.pointer r2), (.int .i64 (3 : Int))] w18 fun e_10 w19 =>
            ∃ r6 : Int, e_10 = .returned (.int .i64 r6) ∧
            (KeepsB S w18 w19 ∧ (kW .i64 (r6 - (1 : Int)) fun x4 =>
            (kW .i64 (x3 + x4) fun x5 =>
            (kSet w19 ⟨b, 6, none⟩ (.int .i64 x5) fun w20 =>
            J1 w20))))))))))
            ((kLet (decide (r5 = (2 : Int))) fun x6 =>
            (bsplit x6
              ((kDrew w15 fun w21 =>
              (∃ S1 : Nat → Prop,
              (S1 b ∧
              (kLd w21 ⟨b, 7, none⟩ .i64 fun x7 =>
              (Calls Try.prog N_made_Dice_Next #[(.pointer r2), (.int .i64 (3 : Int))] w21 fun e_11 w22 =>
              ∃ r7 : Int, e_11 = .returned (.int .i64 r7) ∧
              (KeepsB S1 w21 w22 ∧ (kW .i64 (r7 - (1 : Int)) fun x8 =>
              (kW .i64 (x7 + x8) fun x9 =>
              (kSet w22 ⟨b, 7, none⟩ (.int .i64 x9) fun w23 =>
              J1 w23))))))))))
              ((kLet (decide (r5 = (3 : Int))) fun x10 =>
              (bsplit x10
                ((Calls Try.prog N_made_Dice_Next #[(.pointer r2), (.int .i64 (34 : Int))] w15 fun e_12 w24 =>
                ∃ r8 : Int, e_12 = .returned (.int .i64 r8) ∧
                (kW .i64 (r8 - (2 : Int)) fun x11 =>
                (kSet w24 ⟨b, 10, none⟩ (.int .i64 x11) fun w25 =>
                J1 w25))))
                ((kLet (decide (r5 = (4 : Int))) fun x12 =>
                (bsplit x12
                  ((Calls Try.prog N_made_Dice_Next #[(.pointer r2), (.int .i64 (8 : Int))] w15 fun e_13 w26 =>
                  ∃ r9 : Int, e_13 = .returned (.int .i64 r9) ∧
                  (kW .i64 (r9 - (1 : Int)) fun x13 =>
                  (kSet w26 ⟨b, 11, none⟩ (.int .i64 x13) fun w27 =>
                  J1 w27))))
                  ((kLet (decide (r5 = (5 : Int))) fun x14 =>
                  (bsplit x14
                    ((Calls Try.prog N_made_Dice_Next #[(.pointer r2), (.int .i64 (8 : Int))] w15 fun e_14 w28 =>
                    ∃ r10 : Int, e_14 = .returned (.int .i64 r10) ∧
                    (kW .i64 (r10 - (1 : Int)) fun x15 =>
                    (kSet w28 ⟨b, 9, none⟩ (.int .i64 x15) fun w29 =>
                    J1 w29))))
                    ((kLet (decide (r5 = (6 : Int))) fun x16 =>
                    (bsplit x16
                      ((kSet w15 ⟨b, 12, none⟩ (.bool true) fun w30 =>
                      J1 w30))
                      ((kLet (decide (r5 = (7 : Int))) fun x17 =>
                      (bsplit x17
                        ((kLdS w15 ⟨b, 8, none⟩ fun _ x_l _ =>
                        (bsplit (decide ((x_l : Int) > (0 : Int)))
                          ((kDrew w15 fun w31 =>
                          (∃ S2 : Nat → Prop,
                          (S2 b ∧
                          (kLdS w31 ⟨b, 8, none⟩ fun x_a1 x_l1 _ =>
                          (Calls Try.prog N_made_Dice_Next #[(.pointer r2), (.int .i64 (x_l : Int))] w31 fun e_15 w32 =>
                          ∃ r11 : Int, e_15 = .returned (.int .i64 r11) ∧
                          (KeepsB S2 w31 w32 ∧ (kIx x_a1 x_l1 r11 fun b2 =>
                          (kDrew w32 fun w33 =>
                          (∃ S3 : Nat → Prop,
                          (S3 ((b2.add (r11.toNat * 5)).add 2).block ∧
                          (kLd w33 ((b2.add (r11.toNat * 5)).add 2) .i64 fun x18 =>
                          (Calls Try.prog N_made_Dice_Next #[(.pointer r2), (.int .i64 (3 : Int))] w33 fun e_16 w34 =>
                          ∃ r12 : Int, e_16 = .returned (.int .i64 r12) ∧
                          (KeepsB S3 w33 w34 ∧ (kW .i64 (r12 - (1 : Int)) fun x19 =>
                          (kW .i64 (x18 + x19) fun x20 =>
                          (kSet w34 ((b2.add (r11.toNat * 5)).add 2) (.int .i64 x20) fun w35 =>
                          J1 w35)))))))))))))))))
                          (J1 w15))))
                        ((kLdS w15 ⟨b, 8, none⟩ fun _ x_l2 _ =>
                        (bsplit (decide ((x_l2 : Int) > (0 : Int)))
                          ((kDrew w15 fun w36 =>
                          (∃ S4 : Nat → Prop,
                          (S4 b ∧
                          (kLdS w36 ⟨b, 8, none⟩ fun x_a3 x_l3 _ =>
                          (Calls Try.prog N_made_Dice_Next #[(.pointer r2), (.int .i64 (x_l2 : Int))] w36 fun e_17 w37 =>
                          ∃ r13 : Int, e_17 = .returned (.int .i64 r13) ∧
                          (KeepsB S4 w36 w37 ∧ (kIx x_a3 x_l3 r13 fun b3 =>
                          (kDrew w37 fun w38 =>
                          (∃ S5 : Nat → Prop,
                          (S5 ((b3.add (r13.toNat * 5)).add 4).block ∧
                          (kLdS w38 ((b3.add (r13.toNat * 5)).add 4) fun x_a4 x_l4 x_c4 =>
                          (S5 (b3.add (r13.toNat * 5)).block ∧
                          (kLd w38 (b3.add (r13.toNat * 5)) .i64 fun x21 =>
                          (Calls Try.prog N_made_Dice_Next #[(.pointer r2), (.int .i64 (5 : Int))] w38 fun e_18 w39 =>
                          ∃ r14 : Int, e_18 = .returned (.int .i64 r14) ∧
                          (KeepsB S5 w38 w39 ∧ (Calls Try.prog N_made_Dice_Next #[(.pointer r2), (.int .i64 (8 : Int))] w39 fun e_19 w40 =>
                          ∃ r15 : Int, e_19 = .returned (.int .i64 r15) ∧
                          (KeepsB S5 w38 w40 ∧ (KeepsB S5 w38 w40 ∧ (kAlloc w40 #[(.int .i64 x21), (.int .i64 r14), (.int .i64 r15)] Ty_api_Range fun b4 w41 =>
                          (KeepsB S5 w38 w41 ∧ (AppP Try.prog #[Ty_S_api_Range, Ty_S_api_Range] Ty_S_api_Range #[(.slice x_a4 x_l4 x_c4), (.slice (some ⟨b4, 0, none⟩) 1 1)] w41 fun x_a5 x_l5 x_c5 w42 =>
                          (kSet w42 ((b3.add (r13.toNat * 5)).add 4) (.slice x_a5 x_l5 x_c5) fun w43 =>
                          J1 w43)))))))))))))))))))))))
                          (J1 w15)))))))))))))))))))))))))))))
        (J1 w14))))) ∧
    (Calls Try.prog N_made_Dice_One #[(.pointer r2), (.int .i64 (4 : Int))] w9 fun e_5 w10 =>
    ∃ r3 : Bool, e_5 = .returned (.bool r3) ∧
    (bsplit r3
      ((kLd w10 ⟨b, 0, none⟩ .i64 fun x =>
      (Calls Try.prog N_made_Dice_Status #[(.pointer r2), (.int .i64 x)] w10 fun e_6 w11 =>
      ∃ r_02 : Int, ∃ r_1_a1 : Option Addr, ∃ r_1_l1 r_1_c1 : Nat, e_6 = .returned (.agg #[.int .i64 r_02, .slice r_1_a1 r_1_l1 r_1_c1]) ∧
      (sxStore w11 ⟨b1, 0, none⟩ 0 [(.int .i64 r_02), (.slice r_1_a1 r_1_l1 r_1_c1)] fun w12 =>
      J w12))))
      (J w10)))))))))))))))
theorem F_law20_SenderMade_eq (t_a : Option Addr) (t_l : Nat) (t_c : Nat) (w : World) (R : Value → World → Prop) : sxFn Try.prog TT h_law20_SenderMade Try.f7 #[(.slice t_a t_l t_c)] w R = F_law20_SenderMade t_a t_l t_c w R := by kernel_rfl
theorem F_law20_SenderMade_ok {R : Ending → World → Prop} (t_a : Option Addr) (t_l : Nat) (t_c : Nat) (w : World) (h : F_law20_SenderMade t_a t_l t_c w fun v w' => R (.returned v) w') : Calls Try.prog N_law20_SenderMade #[(.slice t_a t_l t_c)] w R :=
  calls_of (f := 7) follows_ok Try.func7 (Eq.mpr (F_law20_SenderMade_eq t_a t_l t_c w _) h)

end Go.Proofs.Ytmhggobilcmdmaa
