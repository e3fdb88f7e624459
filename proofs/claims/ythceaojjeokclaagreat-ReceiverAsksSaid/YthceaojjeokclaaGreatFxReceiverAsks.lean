import Derived.Test.YthceaojjeokclaaGreatBase
import Derived.KernelRfl
namespace Go.Proofs.YthceaojjeokclaaGreat
open Go.Sx Go.RowKit
set_option maxRecDepth 100000

def h_law21_ReceiverAsks : H := (.seq .reg (.seq (.seq .reg (.cond (.seq .reg .leaf) .leaf)) (.seq .reg (.seq .reg (.seq .reg (.seq .reg (.seq .reg (.seq (.seq .reg (.cond (.seq .reg .leaf) .leaf)) (.seq .reg (.cut [] [2, 49, 50, 51, 52, 53, 54, 55, 56, 57, 58, 59, 60, 61, 62] (.seq .reg (.cond (.seq .reg .leaf) .leaf)) (.seq (.seq .reg (.block (.loop [(11, .p (.int .i64))] [2, 11, 12, 13, 14, 15, 16, 17, 18, 63, 64, 65, 66, 67, 68, 69, 70, 71, 72, 73, 74, 75, 76, 77, 78, 79, 80, 81, 82, 83, 84, 85, 86, 87, 88, 89, 90, 91, 92, 93, 94, 95, 96, 97, 98, 99, 100, 101, 102, 103, 104, 105, 106, 107, 108, 109, 110, 111, 112, 113, 114, 115, 116, 117, 118, 119, 120, 121, 122, 123, 124, 125, 126, 127, 128] (.seq (.seq .reg (.cond .leaf .leaf)) (.seq (.block (.seq .reg (.seq (.seq .reg (.cond (.seq .reg (.seq .reg (.seq .reg .leaf))) .leaf)) (.cut [] [2, 115, 116, 117, 118, 119, 120, 121] (.seq .reg (.cond (.seq .reg .leaf) .leaf)) (.seq .reg (.seq .reg (.cond (.seq .reg .leaf) .leaf))))))) .reg))))) (.seq .reg .leaf))))))))))))
def F_law21_ReceiverAsks (t_a : Option Addr) (t_l : Nat) (t_c : Nat) (w : World) (R : Value → World → Prop) : Prop :=
  (Calls Tryz.prog N_made_Light #[(.slice t_a t_l t_c)] w fun e_ w1 =>
  ∃ r : Bool, e_ = .returned (.bool r) ∧
  (bsplit (!r)
    ((Calls Tryz.prog N_law21_awake #[] w1 fun e_1 w2 =>
    ∃ r1 : Bool, e_1 = .returned (.bool r1) ∧
    R (.bool r1) w2))
    ((Calls Tryz.prog N_made_Roll #[(.slice t_a t_l t_c)] w1 fun e_2 w3 =>
    ∃ r2 : Option Addr, e_2 = .returned (.pointer r2) ∧
    (Calls Tryz.prog N_law21_random #[(.pointer r2)] w3 fun e_3 w4 =>
    ∃ r_0 r_1 r_2 r_3 r_4 r_5 r_6 r_7 r_8 r_9 r_10 r_11 : Int, ∃ r_12 : Bool, ∃ r_13_a : Option Addr, ∃ r_13_l r_13_c : Nat, e_3 = .returned (.agg #[.int .i64 r_0, .int .i64 r_1, .int .i64 r_2, .int .i64 r_3, .int .i64 r_4, .int .i64 r_5, .int .i64 r_6, .int .i64 r_7, .int .i64 r_8, .int .i64 r_9, .int .i64 r_10, .int .i64 r_11, .bool r_12, .slice r_13_a r_13_l r_13_c]) ∧
    (kAlloc w4 #[.int .i64 (0 : Int), .int .i64 (0 : Int), .int .i64 (0 : Int), .int .i64 (0 : Int), .int .i64 (0 : Int), .int .i64 (0 : Int), .int .i64 (0 : Int), .int .i64 (0 : Int), .int .i64 (0 : Int), .int .i64 (0 : Int), .int .i64 (0 : Int), .int .i64 (0 : Int), .bool false, .slice none 0 0] Ty_api_Receiver fun b w5 =>
    (sxStore w5 ⟨b, 0, none⟩ 0 [(.int .i64 r_0), (.int .i64 r_1), (.int .i64 r_2), (.int .i64 r_3), (.int .i64 r_4), (.int .i64 r_5), (.int .i64 r_6), (.int .i64 r_7), (.int .i64 r_8), (.int .i64 r_9), (.int .i64 r_10), (.int .i64 r_11), (.bool r_12), (.slice r_13_a r_13_l r_13_c)] fun w6 =>
    (∃ x_0 x_1 x_2 x_3 x_4 x_5 x_6 x_7 x_8 x_9 x_10 x_11 : Int, ∃ x_12 : Bool, ∃ x_13_a : Option Addr, ∃ x_13_l x_13_c : Nat, cellsAt w6 ⟨b, 0, none⟩ 0 [(.int .i64 x_0), (.int .i64 x_1), (.int .i64 x_2), (.int .i64 x_3), (.int .i64 x_4), (.int .i64 x_5), (.int .i64 x_6), (.int .i64 x_7), (.int .i64 x_8), (.int .i64 x_9), (.int .i64 x_10), (.int .i64 x_11), (.bool x_12), (.slice x_13_a x_13_l x_13_c)] ∧
    (Calls Tryz.prog N_law21_piece #[(.pointer r2), (.agg #[.int .i64 x_0, .int .i64 x_1, .int .i64 x_2, .int .i64 x_3, .int .i64 x_4, .int .i64 x_5, .int .i64 x_6, .int .i64 x_7, .int .i64 x_8, .int .i64 x_9, .int .i64 x_10, .int .i64 x_11, .bool x_12, .slice x_13_a x_13_l x_13_c])] w6 fun e_4 w7 =>
    ∃ r_01 r_13 r_21 r_31 : Int, ∃ r_4_a : Option Addr, ∃ r_4_l r_4_c : Nat, e_4 = .returned (.agg #[.int .i64 r_01, .int .i64 r_13, .int .i64 r_21, .int .i64 r_31, .slice r_4_a r_4_l r_4_c]) ∧
    (kAlloc w7 #[.int .i64 (0 : Int), .int .i64 (0 : Int), .int .i64 (0 : Int), .int .i64 (0 : Int), .slice none 0 0] Ty_api_Piece fun b1 w8 =>
    (sxStore w8 ⟨b1, 0, none⟩ 0 [(.int .i64 r_01), (.int .i64 r_13), (.int .i64 r_21), (.int .i64 r_31), (.slice r_4_a r_4_l r_4_c)] fun w9 =>
    (kSet w9 ⟨b1, 2, none⟩ (.int .i64 (1 : Int)) fun w10 =>
    (kLd w10 ⟨b, 0, none⟩ .i64 fun x =>
    (∃ x_01 x_13 x_21 x_31 : Int, ∃ x_4_a : Option Addr, ∃ x_4_l x_4_c : Nat, cellsAt w10 ⟨b1, 0, none⟩ 0 [(.int .i64 x_01), (.int .i64 x_13), (.int .i64 x_21), (.int .i64 x_31), (.slice x_4_a x_4_l x_4_c)] ∧
    (Calls Tryz.prog N_ref18_Encode #[(.int .i64 x), (.agg #[.int .i64 x_01, .int .i64 x_13, .int .i64 x_21, .int .i64 x_31, .slice x_4_a x_4_l x_4_c])] w10 fun e_5 w11 =>
    ∃ r_a : Option Addr, ∃ r_l r_c : Nat, ∃ r3 : Int, e_5 = .returned (.tuple #[(.slice r_a r_l r_c), (.int .i64 r3)]) ∧
    (bsplit (!decide (r3 = (0 : Int)))
      ((Calls Tryz.prog N_law21_awake #[] w11 fun e_6 w12 =>
      ∃ r4 : Bool, e_6 = .returned (.bool r4) ∧
      R (.bool r4) w12))
      ((∃ x_02 x_14 x_22 x_32 x_41 x_51 x_61 x_71 x_81 x_91 x_101 x_111 : Int, ∃ x_121 : Bool, ∃ x_13_a1 : Option Addr, ∃ x_13_l1 x_13_c1 : Nat, cellsAt w11 ⟨b, 0, none⟩ 0 [(.int .i64 x_02), (.int .i64 x_14), (.int .i64 x_22), (.int .i64 x_32), (.int .i64 x_41), (.int .i64 x_51), (.int .i64 x_61), (.int .i64 x_71), (.int .i64 x_81), (.int .i64 x_91), (.int .i64 x_101), (.int .i64 x_111), (.bool x_121), (.slice x_13_a1 x_13_l1 x_13_c1)] ∧
      (Calls Tryz.prog N_receiver_Receive #[(.agg #[.int .i64 x_02, .int .i64 x_14, .int .i64 x_22, .int .i64 x_32, .int .i64 x_41, .int .i64 x_51, .int .i64 x_61, .int .i64 x_71, .int .i64 x_81, .int .i64 x_91, .int .i64 x_101, .int .i64 x_111, .bool x_121, .slice x_13_a1 x_13_l1 x_13_c1]), (.slice r_a r_l r_c)] w11 fun e_7 w13 =>
      ∃ r_02 r_14 r_22 r_32 r_41 r_51 r_61 r_71 r_81 r_91 r_101 r_111 : Int, ∃ r_121 : Bool, ∃ r_13_a1 : Option Addr, ∃ r_13_l1 r_13_c1 : Nat, ∃ r_a1 : Option Addr, ∃ r_l1 r_c1 : Nat, ∃ r5 : Int, e_7 = .returned (.tuple #[(.agg #[.int .i64 r_02, .int .i64 r_14, .int .i64 r_22, .int .i64 r_32, .int .i64 r_41, .int .i64 r_51, .int .i64 r_61, .int .i64 r_71, .int .i64 r_81, .int .i64 r_91, .int .i64 r_101, .int .i64 r_111, .bool r_121, .slice r_13_a1 r_13_l1 r_13_c1]), (.slice r_a1 r_l1 r_c1), (.int .i64 r5)]) ∧
      (kAlloc w13 #[.int .i64 (0 : Int), .int .i64 (0 : Int), .int .i64 (0 : Int), .int .i64 (0 : Int), .int .i64 (0 : Int), .int .i64 (0 : Int), .int .i64 (0 : Int), .int .i64 (0 : Int), .int .i64 (0 : Int), .int .i64 (0 : Int), .int .i64 (0 : Int), .int .i64 (0 : Int), .bool false, .slice none 0 0] Ty_api_Receiver fun b2 w14 =>
      (sxStore w14 ⟨b2, 0, none⟩ 0 [(.int .i64 r_02), (.int .i64 r_14), (.int .i64 r_22), (.int .i64 r_32), (.int .i64 r_41), (.int .i64 r_51), (.int .i64 r_61), (.int .i64 r_71), (.int .i64 r_81), (.int .i64 r_91), (.int .i64 r_101), (.int .i64 r_111), (.bool r_121), (.slice r_13_a1 r_13_l1 r_13_c1)] fun w15 =>
      (∃ J : World → Prop,
      (∀ (_junk : Env)  (w17 : World), J w17 →
        (∃ I : Int → Nat × (World → Prop), (I (0 : Int)).2 w17 ∧
        (∀ (_junk : Env) (i : Int) (w18 : World), (I i).2 w18 →
          (kLd w18 ⟨b, 4, none⟩ .i64 fun x4 =>
          (bsplit (decide (i ≤ x4))
            ((∃ x_03 x_15 x_23 x_33 x_42 x_52 x_62 x_72 x_82 x_92 x_102 x_112 : Int, ∃ x_122 : Bool, ∃ x_13_a2 : Option Addr, ∃ x_13_l2 x_13_c2 : Nat, cellsAt w18 ⟨b2, 0, none⟩ 0 [(.int .i64 x_03), (.int .i64 x_15), (.int .i64 x_23), (.int .i64 x_33), (.int .i64 x_42), (.int .i64 x_52), (.int .i64 x_62), (.int .i64 x_72), (.int .i64 x_82), (.int .i64 x_92), (.int .i64 x_102), (.int .i64 x_112), (.bool x_122), (.slice x_13_a2 x_13_l2 x_13_c2)] ∧
            (Calls Tryz.prog N_receiver_Report #[(.agg #[.int .i64 x_03, .int .i64 x_15, .int .i64 x_23, .int .i64 x_33, .int .i64 x_42, .int .i64 x_52, .int .i64 x_62, .int .i64 x_72, .int .i64 x_82, .int .i64 x_92, .int .i64 x_102, .int .i64 x_112, .bool x_122, .slice x_13_a2 x_13_l2 x_13_c2]), (.int .i64 (4096 : Int))] w18 fun e_9 w19 =>
            ∃ r_03 r_15 r_23 r_33 r_42 r_52 r_62 r_72 r_82 r_92 r_102 r_112 : Int, ∃ r_122 : Bool, ∃ r_13_a2 : Option Addr, ∃ r_13_l2 r_13_c2 : Nat, ∃ r_a2 : Option Addr, ∃ r_l2 r_c2 : Nat, ∃ r7 : Int, e_9 = .returned (.tuple #[(.agg #[.int .i64 r_03, .int .i64 r_15, .int .i64 r_23, .int .i64 r_33, .int .i64 r_42, .int .i64 r_52, .int .i64 r_62, .int .i64 r_72, .int .i64 r_82, .int .i64 r_92, .int .i64 r_102, .int .i64 r_112, .bool r_122, .slice r_13_a2 r_13_l2 r_13_c2]), (.slice r_a2 r_l2 r_c2), (.int .i64 r7)]) ∧
            (kAlloc w19 #[.int .i64 (0 : Int), .int .i64 (0 : Int), .int .i64 (0 : Int), .int .i64 (0 : Int), .int .i64 (0 : Int), .int .i64 (0 : Int), .int .i64 (0 : Int), .int .i64 (0 : Int), .int .i64 (0 : Int), .int .i64 (0 : Int), .int .i64 (0 : Int), .int .i64 (0 : Int), .bool false, .slice none 0 0] Ty_api_Receiver fun b3 w20 =>
            (sxStore w20 ⟨b3, 0, none⟩ 0 [(.int .i64 r_03), (.int .i64 r_15), (.int .i64 r_23), (.int .i64 r_33), (.int .i64 r_42), (.int .i64 r_52), (.int .i64 r_62), (.int .i64 r_72), (.int .i64 r_82), (.int .i64 r_92), (.int .i64 r_102), (.int .i64 r_112), (.bool r_122), (.slice r_13_a2 r_13_l2 r_13_c2)] fun w21 =>
            (bsplit (decide (r7 = (0 : Int)))
              ((kLd w21 ⟨b, 0, none⟩ .i64 fun x5 =>
              (Calls Tryz.prog N_ref19_Decode #[(.int .i64 x5), (.slice r_a2 r_l2 r_c2)] w21 fun e_10 w22 =>
              ∃ r_04 : Int, ∃ r_1_a : Option Addr, ∃ r_1_l r_1_c : Nat, ∃ r8 : Int, e_10 = .returned (.tuple #[(.agg #[.int .i64 r_04, .slice r_1_a r_1_l r_1_c]), (.int .i64 r8)]) ∧
              (kAlloc w22 #[.int .i64 (0 : Int), .slice none 0 0] Ty_api_Status fun b4 w23 =>
              (sxStore w23 ⟨b4, 0, none⟩ 0 [(.int .i64 r_04), (.slice r_1_a r_1_l r_1_c)] fun w24 =>
              (∃ x_04 x_16 x_24 x_34 x_43 x_53 x_63 x_73 x_83 x_93 x_103 x_113 : Int, ∃ x_123 : Bool, ∃ x_13_a3 : Option Addr, ∃ x_13_l3 x_13_c3 : Nat, cellsAt w24 ⟨b2, 0, none⟩ 0 [(.int .i64 x_04), (.int .i64 x_16), (.int .i64 x_24), (.int .i64 x_34), (.int .i64 x_43), (.int .i64 x_53), (.int .i64 x_63), (.int .i64 x_73), (.int .i64 x_83), (.int .i64 x_93), (.int .i64 x_103), (.int .i64 x_113), (.bool x_123), (.slice x_13_a3 x_13_l3 x_13_c3)] ∧
              (Calls Tryz.prog N_ref21_Status #[(.agg #[.int .i64 x_04, .int .i64 x_16, .int .i64 x_24, .int .i64 x_34, .int .i64 x_43, .int .i64 x_53, .int .i64 x_63, .int .i64 x_73, .int .i64 x_83, .int .i64 x_93, .int .i64 x_103, .int .i64 x_113, .bool x_123, .slice x_13_a3 x_13_l3 x_13_c3])] w24 fun e_11 w25 =>
              ∃ r_05 : Int, ∃ r_1_a1 : Option Addr, ∃ r_1_l1 r_1_c1 : Nat, ∃ r9 : Int, e_11 = .returned (.tuple #[(.agg #[.int .i64 r_05, .slice r_1_a1 r_1_l1 r_1_c1]), (.int .i64 r9)]) ∧
              (kAlloc w25 #[.int .i64 (0 : Int), .slice none 0 0] Ty_api_Status fun b5 w26 =>
              (sxStore w26 ⟨b5, 0, none⟩ 0 [(.int .i64 r_05), (.slice r_1_a1 r_1_l1 r_1_c1)] fun w27 =>
              (bsplit (decide (r8 = (0 : Int)))
                ((bsplit (decide (r9 = (0 : Int)))
                  ((∃ x_05 : Int, ∃ x_1_a : Option Addr, ∃ x_1_l x_1_c : Nat, cellsAt w27 ⟨b4, 0, none⟩ 0 [(.int .i64 x_05), (.slice x_1_a x_1_l x_1_c)] ∧
                  (∃ x_06 : Int, ∃ x_1_a1 : Option Addr, ∃ x_1_l1 x_1_c1 : Nat, cellsAt w27 ⟨b5, 0, none⟩ 0 [(.int .i64 x_06), (.slice x_1_a1 x_1_l1 x_1_c1)] ∧
                  (Calls Tryz.prog N_ref19_Same #[(.agg #[.int .i64 x_05, .slice x_1_a x_1_l x_1_c]), (.agg #[.int .i64 x_06, .slice x_1_a1 x_1_l1 x_1_c1])] w27 fun e_12 w28 =>
                  ∃ r10 : Bool, e_12 = .returned (.bool r10) ∧
                  (bsplit r10
                    ((kLdB w28 ⟨b3, 12, none⟩ fun x6 =>
                    (bsplit (!x6)
                      ((kLd w28 ⟨b3, 11, none⟩ .i64 fun x7 =>
                      (kLd w28 ⟨b, 4, none⟩ .i64 fun x8 =>
                      (kLet (decide (x7 = x8)) fun x9 =>
                      R (.bool x9) w28))))
                      (R (.bool false) w28))))
                    (R (.bool false) w28))))))
                  (R (.bool false) w27)))
                (R (.bool false) w27)))))))))))
              ((∃ J1 : World → Prop,
              (∀ (_junk : Env)  (w29 : World), J1 w29 →
                (∃ x_07 x_17 x_25 x_35 x_44 x_54 x_64 x_74 x_84 x_94 x_104 x_114 : Int, ∃ x_124 : Bool, ∃ x_13_a4 : Option Addr, ∃ x_13_l4 x_13_c4 : Nat, cellsAt w29 ⟨b2, 0, none⟩ 0 [(.int .i64 x_07), (.int .i64 x_17), (.int .i64 x_25), (.int .i64 x_35), (.int .i64 x_44), (.int .i64 x_54), (.int .i64 x_64), (.int .i64 x_74), (.int .i64 x_84), (.int .i64 x_94), (.int .i64 x_104), (.int .i64 x_114), (.bool x_124), (.slice x_13_a4 x_13_l4 x_13_c4)] ∧
                (Calls Tryz.prog N_receiver_Tick #[(.agg #[.int .i64 x_07, .int .i64 x_17, .int .i64 x_25, .int .i64 x_35, .int .i64 x_44, .int .i64 x_54, .int .i64 x_64, .int .i64 x_74, .int .i64 x_84, .int .i64 x_94, .int .i64 x_104, .int .i64 x_114, .bool x_124, .slice x_13_a4 x_13_l4 x_13_c4])] w29 fun e_13 w30 =>
                ∃ r_06 r_16 r_24 r_34 r_43 r_53 r_63 r_73 r_83 r_93 r_103 r_113 : Int, ∃ r_123 : Bool, ∃ r_13_a3 : Option Addr, ∃ r_13_l3 r_13_c3 : Nat, ∃ r11 : Int, e_13 = .returned (.tuple #[(.agg #[.int .i64 r_06, .int .i64 r_16, .int .i64 r_24, .int .i64 r_34, .int .i64 r_43, .int .i64 r_53, .int .i64 r_63, .int .i64 r_73, .int .i64 r_83, .int .i64 r_93, .int .i64 r_103, .int .i64 r_113, .bool r_123, .slice r_13_a3 r_13_l3 r_13_c3]), (.int .i64 r11)]) ∧
                (sxStore w30 ⟨b2, 0, none⟩ 0 [(.int .i64 r_06), (.int .i64 r_16), (.int .i64 r_24), (.int .i64 r_34), (.int .i64 r_43), (.int .i64 r_53), (.int .i64 r_63), (.int .i64 r_73), (.int .i64 r_83), (.int .i64 r_93), (.int .i64 r_103), (.int .i64 r_113), (.bool r_123), (.slice r_13_a3 r_13_l3 r_13_c3)] fun w31 =>
                (bsplit (!decide (r11 = (0 : Int)))
                  (R (.bool false) w31)
                  ((kW .i64 (i + (1 : Int)) fun x11 =>
                  ((I x11).2 w31 ∧ (I x11).1 < (I i).1)))))))) ∧
              (bsplit (!decide (r7 = (14 : Int)))
                (R (.bool false) w21)
                ((kLd w21 ⟨b2, 11, none⟩ .i64 fun x10 =>
                (bsplit (decide (x10 = (0 : Int)))
                  (R (.bool false) w21)
                  (J1 w21)))))))))))))
            (R (.bool false) w18)))))) ∧
      (Calls Tryz.prog N_law21_awake #[] w15 fun e_8 w16 =>
      ∃ r6 : Bool, e_8 = .returned (.bool r6) ∧
      (bsplit (!r6)
        (R (.bool false) w16)
        ((kLdB w16 ⟨b2, 12, none⟩ fun x1 =>
        (bsplit (!x1)
          (R (.bool false) w16)
          ((kLd w16 ⟨b2, 8, none⟩ .i64 fun x2 =>
          (kLd w16 ⟨b2, 7, none⟩ .i64 fun x3 =>
          (bsplit (!decide (x2 = x3))
            (R (.bool false) w16)
            (J w16))))))))))))))))))))))))))))))))
theorem F_law21_ReceiverAsks_eq (t_a : Option Addr) (t_l : Nat) (t_c : Nat) (w : World) (R : Value → World → Prop) : sxFn Tryz.prog TT h_law21_ReceiverAsks Tryz.f5 #[(.slice t_a t_l t_c)] w R = F_law21_ReceiverAsks t_a t_l t_c w R := by kernel_rfl
theorem F_law21_ReceiverAsks_ok {R : Ending → World → Prop} (t_a : Option Addr) (t_l : Nat) (t_c : Nat) (w : World) (h : F_law21_ReceiverAsks t_a t_l t_c w fun v w' => R (.returned v) w') : Calls Tryz.prog N_law21_ReceiverAsks #[(.slice t_a t_l t_c)] w R :=
  calls_of (f := 5) follows_ok Tryz.func5 (Eq.mpr (F_law21_ReceiverAsks_eq t_a t_l t_c w _) h)

end Go.Proofs.YthceaojjeokclaaGreat
