import Derived.Test.YtmhggobilcmdmaaBase
import Derived.KernelRfl
namespace Go.Proofs.Ytmhggobilcmdmaa
open Go.Sx Go.RowKit
set_option maxRecDepth 100000

def h_law20_SenderOnce : H := (.seq .reg (.seq (.seq .reg (.cond (.seq .reg .leaf) .leaf)) (.seq .reg (.seq .reg (.cut [] [2, 29, 30, 31, 32, 33, 34] (.seq .reg (.cond (.seq .reg .leaf) .leaf)) (.seq .reg (.seq (.seq .reg (.block (.loop [(6, .p .slice), (8, .p (.int .i64))] [2, 5, 6, 8, 9, 37, 38, 39, 40, 41, 42, 43, 44, 45, 46, 47, 48, 49, 50, 51, 52, 53] (.seq (.seq .reg (.cond .leaf .leaf)) (.seq (.block (.seq .reg (.seq (.seq .reg (.seq .reg (.cond (.seq .reg .leaf) .leaf))) .reg))) .reg))))) (.seq .reg (.seq (.seq .reg (.block (.loop [(7, .p .slice), (11, .p (.int .i64))] [2, 7, 11, 12, 13, 14, 15, 16, 57, 58, 59, 60, 61, 62, 63, 64, 65, 66, 67, 68, 69, 70, 71, 72, 73, 74, 75, 76, 77, 78, 79, 80, 81, 82, 83, 84, 85, 86, 87, 88, 89, 90, 91, 92, 93, 94, 95, 96, 97, 98, 99, 100, 101, 102, 103, 104, 105, 106, 107, 108, 109, 110, 111, 112, 113, 114, 115, 116, 117, 118, 119, 120, 121, 122, 123, 124, 125, 126] (.seq (.seq .reg (.cond .leaf .leaf)) (.seq (.block (.cut [(12, .p .addr), (13, .p .slice), (14, .p (.int .i64))] [12, 13, 14, 61, 62, 63, 64, 65, 66, 67, 68, 69] (.draw .blk (.one 0 .stable (.one 1 .pur (.alt 2 (.one 3 .pur (.alt 4 (.one 5 .pur (.one 6 .pur (.one 7 .pur (.one 8 .pur (.one 9 .keep (.one 10 .last (.one 11 .pur (.one 12 .pur .nil)))))))) (.alt 9 (.one 4 .keep (.one 5 .pur (.one 6 .pur (.one 7 .pur (.one 8 .pur (.one 10 .last (.one 11 .pur (.one 12 .pur .nil)))))))) .endAlt))) (.alt 9 (.one 2 .keep (.one 3 .pur (.one 4 .keep (.one 5 .pur (.one 6 .pur (.one 7 .pur (.one 8 .pur (.one 10 .last (.one 11 .pur (.one 12 .pur .nil)))))))))) .endAlt))))) (.seq (.seq .reg (.cond (.seq .reg .leaf) .leaf)) (.seq .reg (.cut [] [2, 94, 95, 96, 97, 98, 99] (.seq .reg (.cond (.seq .reg .leaf) .leaf)) (.seq (.seq .reg (.cond (.seq .reg .leaf) .leaf)) (.seq .reg .reg))))))) .reg))))) (.seq .reg .leaf))))))))))
def F_law20_SenderOnce (t_a : Option Addr) (t_l : Nat) (t_c : Nat) (w : World) (R : Value → World → Prop) : Prop :=
  (Calls Try.prog N_made_Light #[(.slice t_a t_l t_c)] w fun e_ w1 =>
  ∃ r : Bool, e_ = .returned (.bool r) ∧
  (bsplit (!r)
    ((Calls Try.prog N_law20_awake #[] w1 fun e_1 w2 =>
    ∃ r1 : Bool, e_1 = .returned (.bool r1) ∧
    R (.bool r1) w2))
    ((Calls Try.prog N_made_Roll #[(.slice t_a t_l t_c)] w1 fun e_2 w3 =>
    ∃ r2 : Option Addr, e_2 = .returned (.pointer r2) ∧
    (Calls Try.prog N_made_Dice_Link #[(.pointer r2)] w3 fun e_3 w4 =>
    ∃ r_0 r_1 r_2 r_3 r_4 r_5 : Int, e_3 = .returned (.agg #[.int .i64 r_0, .int .i64 r_1, .int .i64 r_2, .int .i64 r_3, .int .i64 r_4, .int .i64 r_5]) ∧
    (Calls Try.prog N_sender_New #[(.agg #[.int .i64 r_0, .int .i64 r_1, .int .i64 r_2, .int .i64 r_3, .int .i64 r_4, .int .i64 r_5])] w4 fun e_4 w5 =>
    ∃ r_01 r_11 r_21 r_31 r_41 r_51 r_6 r_7 : Int, ∃ r_8_a : Option Addr, ∃ r_8_l r_8_c : Nat, ∃ r_9 r_10 r_111 : Int, ∃ r_12 : Bool, ∃ r3 : Int, e_4 = .returned (.tuple #[(.agg #[.int .i64 r_01, .int .i64 r_11, .int .i64 r_21, .int .i64 r_31, .int .i64 r_41, .int .i64 r_51, .int .i64 r_6, .int .i64 r_7, .slice r_8_a r_8_l r_8_c, .int .i64 r_9, .int .i64 r_10, .int .i64 r_111, .bool r_12]), (.int .i64 r3)]) ∧
    (kAlloc w5 #[.int .i64 (0 : Int), .int .i64 (0 : Int), .int .i64 (0 : Int), .int .i64 (0 : Int), .int .i64 (0 : Int), .int .i64 (0 : Int), .int .i64 (0 : Int), .int .i64 (0 : Int), .slice none 0 0, .int .i64 (0 : Int), .int .i64 (0 : Int), .int .i64 (0 : Int), .bool false] Ty_api_Sender fun b w6 =>
    (sxStore w6 ⟨b, 0, none⟩ 0 [(.int .i64 r_01), (.int .i64 r_11), (.int .i64 r_21), (.int .i64 r_31), (.int .i64 r_41), (.int .i64 r_51), (.int .i64 r_6), (.int .i64 r_7), (.slice r_8_a r_8_l r_8_c), (.int .i64 r_9), (.int .i64 r_10), (.int .i64 r_111), (.bool r_12)] fun w7 =>
    (∃ J : World → Prop,
    (∀ (_junk : Env)  (w9 : World), J w9 →
      (Calls Try.prog N_made_Dice_Next #[(.pointer r2), (.int .i64 (14 : Int))] w9 fun e_6 w10 =>
      ∃ r5 : Int, e_6 = .returned (.int .i64 r5) ∧
      (∃ I : Option Addr → Nat → Nat → Int → Nat × (World → Prop), (I none 0 0 r5).2 w10 ∧
      (∀ (_junk : Env) (all_a : Option Addr) (all_l : Nat) (all_c : Nat) (n : Int) (w11 : World), (I all_a all_l all_c n).2 w11 →
        (bsplit (decide (n > (0 : Int)))
          ((Calls Try.prog N_made_Dice_Some #[(.pointer r2), (.int .i64 (20 : Int))] w11 fun e_7 w12 =>
          ∃ r_a : Option Addr, ∃ r_l r_c : Nat, e_7 = .returned (.slice r_a r_l r_c) ∧
          (∃ x_0 x_1 x_2 x_3 x_4 x_5 x_6 x_7 : Int, ∃ x_8_a : Option Addr, ∃ x_8_l x_8_c : Nat, ∃ x_9 x_10 x_11 : Int, ∃ x_12 : Bool, cellsAt w12 ⟨b, 0, none⟩ 0 [(.int .i64 x_0), (.int .i64 x_1), (.int .i64 x_2), (.int .i64 x_3), (.int .i64 x_4), (.int .i64 x_5), (.int .i64 x_6), (.int .i64 x_7), (.slice x_8_a x_8_l x_8_c), (.int .i64 x_9), (.int .i64 x_10), (.int .i64 x_11), (.bool x_12)] ∧
          (Calls Try.prog N_sender_Submit #[(.agg #[.int .i64 x_0, .int .i64 x_1, .int .i64 x_2, .int .i64 x_3, .int .i64 x_4, .int .i64 x_5, .int .i64 x_6, .int .i64 x_7, .slice x_8_a x_8_l x_8_c, .int .i64 x_9, .int .i64 x_10, .int .i64 x_11, .bool x_12]), (.slice r_a r_l r_c)] w12 fun e_8 w13 =>
          ∃ r_02 r_13 r_22 r_32 r_42 r_52 r_61 r_71 : Int, ∃ r_8_a1 : Option Addr, ∃ r_8_l1 r_8_c1 : Nat, ∃ r_91 r_101 r_112 : Int, ∃ r_121 : Bool, ∃ r6 : Int, e_8 = .returned (.tuple #[(.agg #[.int .i64 r_02, .int .i64 r_13, .int .i64 r_22, .int .i64 r_32, .int .i64 r_42, .int .i64 r_52, .int .i64 r_61, .int .i64 r_71, .slice r_8_a1 r_8_l1 r_8_c1, .int .i64 r_91, .int .i64 r_101, .int .i64 r_112, .bool r_121]), (.int .i64 r6)]) ∧
          (sxStore w13 ⟨b, 0, none⟩ 0 [(.int .i64 r_02), (.int .i64 r_13), (.int .i64 r_22), (.int .i64 r_32), (.int .i64 r_42), (.int .i64 r_52), (.int .i64 r_61), (.int .i64 r_71), (.slice r_8_a1 r_8_l1 r_8_c1), (.int .i64 r_91), (.int .i64 r_101), (.int .i64 r_112), (.bool r_121)] fun w14 =>
          (bsplit (!decide (r6 = (0 : Int)))
            (R (.bool false) w14)
            ((AppP Try.prog #[Ty_S_uint8, Ty_S_uint8] Ty_S_uint8 #[(.slice all_a all_l all_c), (.slice r_a r_l r_c)] w14 fun x_a x_l x_c w15 =>
            (kW .i64 (n - (1 : Int)) fun x =>
            ((I x_a x_l x_c x).2 w15 ∧ (I x_a x_l x_c x).1 < (I all_a all_l all_c n).1))))))))))
          ((kLd w11 ⟨b, 0, none⟩ .i64 fun x1 =>
          (∃ I1 : Option Addr → Nat → Nat → Int → Nat × (World → Prop), (I1 none 0 0 (0 : Int)).2 w11 ∧
          (∀ (_junk : Env) (got_a : Option Addr) (got_l : Nat) (got_c : Nat) (n1 : Int) (w16 : World), (I1 got_a got_l got_c n1).2 w16 →
            (bsplit (decide (n1 < (400 : Int)))
              ((∃ J1 : Addr → Option Addr → Nat → Nat → Int → World → Prop,
              (∀ (_junk : Env) (x4 : Addr) (b_a : Option Addr) (b_l : Nat) (b_c : Nat) (f : Int) (w29 : World), J1 x4 b_a b_l b_c f w29 →
                (bsplit (decide (f = (14 : Int)))
                  ((Calls Try.prog N_ref01_Same #[(.slice all_a all_l all_c), (.slice got_a got_l got_c)] w29 fun e_14 w30 =>
                  ∃ r12 : Bool, e_14 = .returned (.bool r12) ∧
                  (bsplit r12
                    ((bsplit (decide ((all_l : Int) = (0 : Int)))
                      (R (.bool true) w30)
                      ((kLd w30 ⟨b, 11, none⟩ .i64 fun x5 =>
                      (kLd w30 ⟨b, 2, none⟩ .i64 fun x6 =>
                      (kLet (decide (x5 = x6)) fun x7 =>
                      R (.bool x7) w30))))))
                    (R (.bool false) w30))))
                  ((Calls Try.prog N_ref18_Decode #[(.int .i64 x1), (.slice b_a b_l b_c)] w29 fun e_15 w31 =>
                  ∃ r_06 r_17 r_26 r_36 : Int, ∃ r_4_a : Option Addr, ∃ r_4_l r_4_c : Nat, ∃ r13 : Int, e_15 = .returned (.tuple #[(.agg #[.int .i64 r_06, .int .i64 r_17, .int .i64 r_26, .int .i64 r_36, .slice r_4_a r_4_l r_4_c]), (.int .i64 r13)]) ∧
                  (kAlloc w31 #[.int .i64 (0 : Int), .int .i64 (0 : Int), .int .i64 (0 : Int), .int .i64 (0 : Int), .slice none 0 0] Ty_api_Piece fun b4 w32 =>
                  (sxStore w32 ⟨b4, 0, none⟩ 0 [(.int .i64 r_06), (.int .i64 r_17), (.int .i64 r_26), (.int .i64 r_36), (.slice r_4_a r_4_l r_4_c)] fun w33 =>
                  (∃ J2 : World → Prop,
                  (∀ (_junk : Env)  (w34 : World), J2 w34 →
                    (kLd w34 ⟨b4, 2, none⟩ .i64 fun x8 =>
                    (kLd w34 ⟨b, 9, none⟩ .i64 fun x9 =>
                    (kW .i64 (x9 + (1 : Int)) fun x10 =>
                    (kLd w34 ⟨b, 1, none⟩ .i64 fun x11 =>
                    (bsplit (decide (x10 = x11))
                      ((bsplit (!((decide (x8 = (1 : Int))) == true))
                        (R (.bool false) w34)
                        ((kLdS w34 ⟨b4, 4, none⟩ fun x_a1 x_l1 x_c1 =>
                        (AppP Try.prog #[Ty_S_uint8, Ty_S_uint8] Ty_S_uint8 #[(.slice got_a got_l got_c), (.slice x_a1 x_l1 x_c1)] w34 fun x_a2 x_l2 x_c2 w35 =>
                        (∃ x_02 x_14 x_22 x_32 x_42 x_52 x_62 x_72 : Int, ∃ x_8_a2 : Option Addr, ∃ x_8_l2 x_8_c2 : Nat, ∃ x_92 x_102 x_112 : Int, ∃ x_122 : Bool, cellsAt w35 x4 0 [(.int .i64 x_02), (.int .i64 x_14), (.int .i64 x_22), (.int .i64 x_32), (.int .i64 x_42), (.int .i64 x_52), (.int .i64 x_62), (.int .i64 x_72), (.slice x_8_a2 x_8_l2 x_8_c2), (.int .i64 x_92), (.int .i64 x_102), (.int .i64 x_112), (.bool x_122)] ∧
                        (sxStore w35 ⟨b, 0, none⟩ 0 [(.int .i64 x_02), (.int .i64 x_14), (.int .i64 x_22), (.int .i64 x_32), (.int .i64 x_42), (.int .i64 x_52), (.int .i64 x_62), (.int .i64 x_72), (.slice x_8_a2 x_8_l2 x_8_c2), (.int .i64 x_92), (.int .i64 x_102), (.int .i64 x_112), (.bool x_122)] fun w36 =>
                        (kW .i64 (n1 + (1 : Int)) fun x12 =>
                        ((I1 x_a2 x_l2 x_c2 x12).2 w36 ∧ (I1 x_a2 x_l2 x_c2 x12).1 < (I1 got_a got_l got_c n1).1)))))))))
                      ((kLdS w34 ⟨b4, 4, none⟩ fun _ x_l3 _ =>
                      (kW .i64 ((got_l : Int) + (x_l3 : Int)) fun x13 =>
                      (bsplit (!((decide (x8 = (1 : Int))) == (decide (x13 = (all_l : Int)))))
                        (R (.bool false) w34)
                        ((kLdS w34 ⟨b4, 4, none⟩ fun x_a4 x_l4 x_c4 =>
                        (AppP Try.prog #[Ty_S_uint8, Ty_S_uint8] Ty_S_uint8 #[(.slice got_a got_l got_c), (.slice x_a4 x_l4 x_c4)] w34 fun x_a5 x_l5 x_c5 w37 =>
                        (∃ x_03 x_15 x_23 x_33 x_43 x_53 x_63 x_73 : Int, ∃ x_8_a3 : Option Addr, ∃ x_8_l3 x_8_c3 : Nat, ∃ x_93 x_103 x_113 : Int, ∃ x_123 : Bool, cellsAt w37 x4 0 [(.int .i64 x_03), (.int .i64 x_15), (.int .i64 x_23), (.int .i64 x_33), (.int .i64 x_43), (.int .i64 x_53), (.int .i64 x_63), (.int .i64 x_73), (.slice x_8_a3 x_8_l3 x_8_c3), (.int .i64 x_93), (.int .i64 x_103), (.int .i64 x_113), (.bool x_123)] ∧
                        (sxStore w37 ⟨b, 0, none⟩ 0 [(.int .i64 x_03), (.int .i64 x_15), (.int .i64 x_23), (.int .i64 x_33), (.int .i64 x_43), (.int .i64 x_53), (.int .i64 x_63), (.int .i64 x_73), (.slice x_8_a3 x_8_l3 x_8_c3), (.int .i64 x_93), (.int .i64 x_103), (.int .i64 x_113), (.bool x_123)] fun w38 =>
                        (kW .i64 (n1 + (1 : Int)) fun x14 =>
                        ((I1 x_a5 x_l5 x_c5 x14).2 w38 ∧ (I1 x_a5 x_l5 x_c5 x14).1 < (I1 got_a got_l got_c n1).1))))))))))))))))) ∧
                  (bsplit (!decide (f = (0 : Int)))
                    (R (.bool false) w33)
                    ((bsplit (!decide (r13 = (0 : Int)))
                      (R (.bool false) w33)
                      (J2 w33))))))))))) ∧
              (kDrew w16 fun w17 =>
              (∃ S : Nat → Prop,
              (S b ∧
              (∃ x_01 x_13 x_21 x_31 x_41 x_51 x_61 x_71 : Int, ∃ x_8_a1 : Option Addr, ∃ x_8_l1 x_8_c1 : Nat, ∃ x_91 x_101 x_111 : Int, ∃ x_121 : Bool, cellsAt w17 ⟨b, 0, none⟩ 0 [(.int .i64 x_01), (.int .i64 x_13), (.int .i64 x_21), (.int .i64 x_31), (.int .i64 x_41), (.int .i64 x_51), (.int .i64 x_61), (.int .i64 x_71), (.slice x_8_a1 x_8_l1 x_8_c1), (.int .i64 x_91), (.int .i64 x_101), (.int .i64 x_111), (.bool x_121)] ∧
              ((Calls Try.prog N_made_Dice_Next #[(.pointer r2), (.int .i64 (12 : Int))] w17 fun e_11 w22 =>
              ∃ r9 : Int, e_11 = .returned (.int .i64 r9) ∧
              (KeepsB S w17 w22 ∧ (kW .i64 ((5 : Int) + r9) fun x3 =>
              ((Calls Try.prog N_sender_Build #[(.agg #[.int .i64 x_01, .int .i64 x_13, .int .i64 x_21, .int .i64 x_31, .int .i64 x_41, .int .i64 x_51, .int .i64 x_61, .int .i64 x_71, .slice x_8_a1 x_8_l1 x_8_c1, .int .i64 x_91, .int .i64 x_101, .int .i64 x_111, .bool x_121]), (.int .i64 x3)] w22 fun e_13 w26 =>
              ∃ r_05 r_16 r_25 r_35 r_45 r_55 r_64 r_74 : Int, ∃ r_8_a4 : Option Addr, ∃ r_8_l4 r_8_c4 : Nat, ∃ r_94 r_104 r_115 : Int, ∃ r_124 : Bool, ∃ r_a3 : Option Addr, ∃ r_l3 r_c3 : Nat, ∃ r11 : Int, e_13 = .returned (.tuple #[(.agg #[.int .i64 r_05, .int .i64 r_16, .int .i64 r_25, .int .i64 r_35, .int .i64 r_45, .int .i64 r_55, .int .i64 r_64, .int .i64 r_74, .slice r_8_a4 r_8_l4 r_8_c4, .int .i64 r_94, .int .i64 r_104, .int .i64 r_115, .bool r_124]), (.slice r_a3 r_l3 r_c3), (.int .i64 r11)]) ∧
              (KeepsB S w17 w26 ∧ (kAlloc w26 #[.int .i64 (0 : Int), .int .i64 (0 : Int), .int .i64 (0 : Int), .int .i64 (0 : Int), .int .i64 (0 : Int), .int .i64 (0 : Int), .int .i64 (0 : Int), .int .i64 (0 : Int), .slice none 0 0, .int .i64 (0 : Int), .int .i64 (0 : Int), .int .i64 (0 : Int), .bool false] Ty_api_Sender fun b3 w27 =>
              (KeepsB S w17 w27 ∧ (sxStore w27 ⟨b3, 0, none⟩ 0 [(.int .i64 r_05), (.int .i64 r_16), (.int .i64 r_25), (.int .i64 r_35), (.int .i64 r_45), (.int .i64 r_55), (.int .i64 r_64), (.int .i64 r_74), (.slice r_8_a4 r_8_l4 r_8_c4), (.int .i64 r_94), (.int .i64 r_104), (.int .i64 r_115), (.bool r_124)] fun w28 =>
              J1 ⟨b3, 0, none⟩ r_a3 r_l3 r_c3 r11 w28))))) ∧
              ((kAlloc w22 #[.int .i64 (0 : Int), .int .i64 (0 : Int), .int .i64 (0 : Int), .int .i64 (0 : Int), .int .i64 (0 : Int), .int .i64 (0 : Int), .int .i64 (0 : Int), .int .i64 (0 : Int), .slice none 0 0, .int .i64 (0 : Int), .int .i64 (0 : Int), .int .i64 (0 : Int), .bool false] Ty_api_Sender fun b2 w23 =>
              (KeepsB S w17 w23 ∧ (Calls Try.prog N_sender_Build #[(.agg #[.int .i64 x_01, .int .i64 x_13, .int .i64 x_21, .int .i64 x_31, .int .i64 x_41, .int .i64 x_51, .int .i64 x_61, .int .i64 x_71, .slice x_8_a1 x_8_l1 x_8_c1, .int .i64 x_91, .int .i64 x_101, .int .i64 x_111, .bool x_121]), (.int .i64 x3)] w23 fun e_12 w24 =>
              ∃ r_04 r_15 r_24 r_34 r_44 r_54 r_63 r_73 : Int, ∃ r_8_a3 : Option Addr, ∃ r_8_l3 r_8_c3 : Nat, ∃ r_93 r_103 r_114 : Int, ∃ r_123 : Bool, ∃ r_a2 : Option Addr, ∃ r_l2 r_c2 : Nat, ∃ r10 : Int, e_12 = .returned (.tuple #[(.agg #[.int .i64 r_04, .int .i64 r_15, .int .i64 r_24, .int .i64 r_34, .int .i64 r_44, .int .i64 r_54, .int .i64 r_63, .int .i64 r_73, .slice r_8_a3 r_8_l3 r_8_c3, .int .i64 r_93, .int .i64 r_103, .int .i64 r_114, .bool r_123]), (.slice r_a2 r_l2 r_c2), (.int .i64 r10)]) ∧
              (KeepsB S w17 w24 ∧ (sxStore w24 ⟨b2, 0, none⟩ 0 [(.int .i64 r_04), (.int .i64 r_15), (.int .i64 r_24), (.int .i64 r_34), (.int .i64 r_44), (.int .i64 r_54), (.int .i64 r_63), (.int .i64 r_73), (.slice r_8_a3 r_8_l3 r_8_c3), (.int .i64 r_93), (.int .i64 r_103), (.int .i64 r_114), (.bool r_123)] fun w25 =>
              J1 ⟨b2, 0, none⟩ r_a2 r_l2 r_c2 r10 w25))))) ∧
              True))))) ∧
              ((kAlloc w17 #[.int .i64 (0 : Int), .int .i64 (0 : Int), .int .i64 (0 : Int), .int .i64 (0 : Int), .int .i64 (0 : Int), .int .i64 (0 : Int), .int .i64 (0 : Int), .int .i64 (0 : Int), .slice none 0 0, .int .i64 (0 : Int), .int .i64 (0 : Int), .int .i64 (0 : Int), .bool false] Ty_api_Sender fun b1 w18 =>
              (KeepsB S w17 w18 ∧ (Calls Try.prog N_made_Dice_Next #[(.pointer r2), (.int .i64 (12 : Int))] w18 fun e_9 w19 =>
              ∃ r7 : Int, e_9 = .returned (.int .i64 r7) ∧
              (KeepsB S w17 w19 ∧ (kW .i64 ((5 : Int) + r7) fun x2 =>
              (Calls Try.prog N_sender_Build #[(.agg #[.int .i64 x_01, .int .i64 x_13, .int .i64 x_21, .int .i64 x_31, .int .i64 x_41, .int .i64 x_51, .int .i64 x_61, .int .i64 x_71, .slice x_8_a1 x_8_l1 x_8_c1, .int .i64 x_91, .int .i64 x_101, .int .i64 x_111, .bool x_121]), (.int .i64 x2)] w19 fun e_10 w20 =>
              ∃ r_03 r_14 r_23 r_33 r_43 r_53 r_62 r_72 : Int, ∃ r_8_a2 : Option Addr, ∃ r_8_l2 r_8_c2 : Nat, ∃ r_92 r_102 r_113 : Int, ∃ r_122 : Bool, ∃ r_a1 : Option Addr, ∃ r_l1 r_c1 : Nat, ∃ r8 : Int, e_10 = .returned (.tuple #[(.agg #[.int .i64 r_03, .int .i64 r_14, .int .i64 r_23, .int .i64 r_33, .int .i64 r_43, .int .i64 r_53, .int .i64 r_62, .int .i64 r_72, .slice r_8_a2 r_8_l2 r_8_c2, .int .i64 r_92, .int .i64 r_102, .int .i64 r_113, .bool r_122]), (.slice r_a1 r_l1 r_c1), (.int .i64 r8)]) ∧
              (KeepsB S w17 w20 ∧ (sxStore w20 ⟨b1, 0, none⟩ 0 [(.int .i64 r_03), (.int .i64 r_14), (.int .i64 r_23), (.int .i64 r_33), (.int .i64 r_43), (.int .i64 r_53), (.int .i64 r_62), (.int .i64 r_72), (.slice r_8_a2 r_8_l2 r_8_c2), (.int .i64 r_92), (.int .i64 r_102), (.int .i64 r_113), (.bool r_122)] fun w21 =>
              J1 ⟨b1, 0, none⟩ r_a1 r_l1 r_c1 r8 w21)))))))) ∧
              True))))))))
              (R (.bool false) w16))))))))))) ∧
    (Calls Try.prog N_law20_awake #[] w7 fun e_5 w8 =>
    ∃ r4 : Bool, e_5 = .returned (.bool r4) ∧
    (bsplit (!r4)
      (R (.bool false) w8)
      ((bsplit (!decide (r3 = (0 : Int)))
        (R (.bool false) w8)
        (J w8))))))))))))))
theorem F_law20_SenderOnce_eq (t_a : Option Addr) (t_l : Nat) (t_c : Nat) (w : World) (R : Value → World → Prop) : sxFn Try.prog TT h_law20_SenderOnce Try.f3 #[(.slice t_a t_l t_c)] w R = F_law20_SenderOnce t_a t_l t_c w R := by kernel_rfl
theorem F_law20_SenderOnce_ok {R : Ending → World → Prop} (t_a : Option Addr) (t_l : Nat) (t_c : Nat) (w : World) (h : F_law20_SenderOnce t_a t_l t_c w fun v w' => R (.returned v) w') : Calls Try.prog N_law20_SenderOnce #[(.slice t_a t_l t_c)] w R :=
  calls_of (f := 3) follows_ok Try.func3 (Eq.mpr (F_law20_SenderOnce_eq t_a t_l t_c w _) h)

def h_law20_SenderRepeats : H := (.seq .reg (.seq (.seq .reg (.cond (.seq .reg .leaf) .leaf)) (.seq .reg (.seq .reg (.seq .reg (.seq .reg (.seq (.seq .reg (.cond (.seq .reg .leaf) .leaf)) (.seq (.cut [(44, .p .bool)] [39, 40, 41, 42, 43, 44] .reg (.cond (.seq .reg (.seq .reg .leaf)) .leaf)) (.seq (.seq .reg (.block (.loop [(10, .p (.int .i64))] [2, 10, 11, 12, 13, 14, 15, 16, 17, 18, 19, 61, 62, 63, 64, 65, 66, 67, 68, 69, 70, 71, 72, 73, 74, 75, 76, 77, 78, 79, 80, 81, 82, 83, 84, 85, 86, 87, 88, 89, 90, 91, 92, 93, 94, 95, 96, 97, 98, 99, 100, 101, 102, 103, 104, 105, 106, 107, 108, 109, 110, 111, 112, 113, 114, 115, 116, 117, 118, 119, 120, 121, 122, 123, 124, 125, 126, 127] (.seq (.seq .reg (.cond .leaf .leaf)) (.seq (.block (.seq .reg (.cut [(15, .p .addr), (16, .p .slice), (17, .p (.int .i64))] [15, 16, 17, 72, 73, 74, 75, 76, 77, 78, 79, 80] (.draw .blk (.one 0 .stable (.one 1 .pur (.alt 2 (.one 3 .pur (.alt 4 (.one 5 .pur (.one 6 .pur (.one 7 .pur (.one 8 .pur (.one 9 .keep (.one 10 .last (.one 11 .pur (.one 12 .pur .nil)))))))) (.alt 9 (.one 4 .keep (.one 5 .pur (.one 6 .pur (.one 7 .pur (.one 8 .pur (.one 10 .last (.one 11 .pur (.one 12 .pur .nil)))))))) .endAlt))) (.alt 9 (.one 2 .keep (.one 3 .pur (.one 4 .keep (.one 5 .pur (.one 6 .pur (.one 7 .pur (.one 8 .pur (.one 10 .last (.one 11 .pur (.one 12 .pur .nil)))))))))) .endAlt))))) (.seq (.seq .reg (.cond (.seq .reg .leaf) .leaf)) (.seq .reg (.cut [] [2, 98, 99, 100, 101, 102, 103] (.seq .reg (.cond (.seq .reg .leaf) .leaf)) (.seq (.seq .reg (.cond (.seq .reg .leaf) .leaf)) .reg))))))) .reg))))) (.seq .reg .leaf))))))))))
def F_law20_SenderRepeats (t_a : Option Addr) (t_l : Nat) (t_c : Nat) (w : World) (R : Value → World → Prop) : Prop :=
  (Calls Try.prog N_made_Light #[(.slice t_a t_l t_c)] w fun e_ w1 =>
  ∃ r : Bool, e_ = .returned (.bool r) ∧
  (bsplit (!r)
    ((Calls Try.prog N_law20_awake #[] w1 fun e_1 w2 =>
    ∃ r1 : Bool, e_1 = .returned (.bool r1) ∧
    R (.bool r1) w2))
    ((Calls Try.prog N_made_Roll #[(.slice t_a t_l t_c)] w1 fun e_2 w3 =>
    ∃ r2 : Option Addr, e_2 = .returned (.pointer r2) ∧
    (Calls Try.prog N_law20_random #[(.pointer r2)] w3 fun e_3 w4 =>
    ∃ r_0 r_1 r_2 r_3 r_4 r_5 r_6 r_7 : Int, ∃ r_8_a : Option Addr, ∃ r_8_l r_8_c : Nat, ∃ r_9 r_10 r_11 : Int, ∃ r_12 : Bool, e_3 = .returned (.agg #[.int .i64 r_0, .int .i64 r_1, .int .i64 r_2, .int .i64 r_3, .int .i64 r_4, .int .i64 r_5, .int .i64 r_6, .int .i64 r_7, .slice r_8_a r_8_l r_8_c, .int .i64 r_9, .int .i64 r_10, .int .i64 r_11, .bool r_12]) ∧
    (kAlloc w4 #[.int .i64 (0 : Int), .int .i64 (0 : Int), .int .i64 (0 : Int), .int .i64 (0 : Int), .int .i64 (0 : Int), .int .i64 (0 : Int), .int .i64 (0 : Int), .int .i64 (0 : Int), .slice none 0 0, .int .i64 (0 : Int), .int .i64 (0 : Int), .int .i64 (0 : Int), .bool false] Ty_api_Sender fun b w5 =>
    (sxStore w5 ⟨b, 0, none⟩ 0 [(.int .i64 r_0), (.int .i64 r_1), (.int .i64 r_2), (.int .i64 r_3), (.int .i64 r_4), (.int .i64 r_5), (.int .i64 r_6), (.int .i64 r_7), (.slice r_8_a r_8_l r_8_c), (.int .i64 r_9), (.int .i64 r_10), (.int .i64 r_11), (.bool r_12)] fun w6 =>
    (∃ x_0 x_1 x_2 x_3 x_4 x_5 x_6 x_7 : Int, ∃ x_8_a : Option Addr, ∃ x_8_l x_8_c : Nat, ∃ x_9 x_10 x_11 : Int, ∃ x_12 : Bool, cellsAt w6 ⟨b, 0, none⟩ 0 [(.int .i64 x_0), (.int .i64 x_1), (.int .i64 x_2), (.int .i64 x_3), (.int .i64 x_4), (.int .i64 x_5), (.int .i64 x_6), (.int .i64 x_7), (.slice x_8_a x_8_l x_8_c), (.int .i64 x_9), (.int .i64 x_10), (.int .i64 x_11), (.bool x_12)] ∧
    (Calls Try.prog N_law20_report #[(.pointer r2), (.agg #[.int .i64 x_0, .int .i64 x_1, .int .i64 x_2, .int .i64 x_3, .int .i64 x_4, .int .i64 x_5, .int .i64 x_6, .int .i64 x_7, .slice x_8_a x_8_l x_8_c, .int .i64 x_9, .int .i64 x_10, .int .i64 x_11, .bool x_12])] w6 fun e_4 w7 =>
    ∃ r_01 : Int, ∃ r_1_a : Option Addr, ∃ r_1_l r_1_c : Nat, e_4 = .returned (.agg #[.int .i64 r_01, .slice r_1_a r_1_l r_1_c]) ∧
    (kAlloc w7 #[.int .i64 (0 : Int), .slice none 0 0] Ty_api_Status fun b1 w8 =>
    (sxStore w8 ⟨b1, 0, none⟩ 0 [(.int .i64 r_01), (.slice r_1_a r_1_l r_1_c)] fun w9 =>
    (∃ x_01 x_13 x_21 x_31 x_41 x_51 x_61 x_71 : Int, ∃ x_8_a1 : Option Addr, ∃ x_8_l1 x_8_c1 : Nat, ∃ x_91 x_101 x_111 : Int, ∃ x_121 : Bool, cellsAt w9 ⟨b, 0, none⟩ 0 [(.int .i64 x_01), (.int .i64 x_13), (.int .i64 x_21), (.int .i64 x_31), (.int .i64 x_41), (.int .i64 x_51), (.int .i64 x_61), (.int .i64 x_71), (.slice x_8_a1 x_8_l1 x_8_c1), (.int .i64 x_91), (.int .i64 x_101), (.int .i64 x_111), (.bool x_121)] ∧
    (∃ x_02 : Int, ∃ x_1_a : Option Addr, ∃ x_1_l x_1_c : Nat, cellsAt w9 ⟨b1, 0, none⟩ 0 [(.int .i64 x_02), (.slice x_1_a x_1_l x_1_c)] ∧
    (Calls Try.prog N_sender_Report #[(.agg #[.int .i64 x_01, .int .i64 x_13, .int .i64 x_21, .int .i64 x_31, .int .i64 x_41, .int .i64 x_51, .int .i64 x_61, .int .i64 x_71, .slice x_8_a1 x_8_l1 x_8_c1, .int .i64 x_91, .int .i64 x_101, .int .i64 x_111, .bool x_121]), (.agg #[.int .i64 x_02, .slice x_1_a x_1_l x_1_c])] w9 fun e_5 w10 =>
    ∃ r_02 r_13 r_21 r_31 r_41 r_51 r_61 r_71 : Int, ∃ r_8_a1 : Option Addr, ∃ r_8_l1 r_8_c1 : Nat, ∃ r_91 r_101 r_111 : Int, ∃ r_121 : Bool, ∃ r3 : Int, e_5 = .returned (.tuple #[(.agg #[.int .i64 r_02, .int .i64 r_13, .int .i64 r_21, .int .i64 r_31, .int .i64 r_41, .int .i64 r_51, .int .i64 r_61, .int .i64 r_71, .slice r_8_a1 r_8_l1 r_8_c1, .int .i64 r_91, .int .i64 r_101, .int .i64 r_111, .bool r_121]), (.int .i64 r3)]) ∧
    (kAlloc w10 #[.int .i64 (0 : Int), .int .i64 (0 : Int), .int .i64 (0 : Int), .int .i64 (0 : Int), .int .i64 (0 : Int), .int .i64 (0 : Int), .int .i64 (0 : Int), .int .i64 (0 : Int), .slice none 0 0, .int .i64 (0 : Int), .int .i64 (0 : Int), .int .i64 (0 : Int), .bool false] Ty_api_Sender fun b2 w11 =>
    (sxStore w11 ⟨b2, 0, none⟩ 0 [(.int .i64 r_02), (.int .i64 r_13), (.int .i64 r_21), (.int .i64 r_31), (.int .i64 r_41), (.int .i64 r_51), (.int .i64 r_61), (.int .i64 r_71), (.slice r_8_a1 r_8_l1 r_8_c1), (.int .i64 r_91), (.int .i64 r_101), (.int .i64 r_111), (.bool r_121)] fun w12 =>
    (Calls Try.prog N_law20_awake #[] w12 fun e_6 w13 =>
    ∃ r4 : Bool, e_6 = .returned (.bool r4) ∧
    (bsplit (!r4)
      (R (.bool false) w13)
      ((∃ J : Bool → World → Prop,
      (∀ (_junk : Env) (x1 : Bool) (w14 : World), J x1 w14 →
        (bsplit x1
          ((∃ x_03 x_14 x_22 x_32 x_42 x_52 x_62 x_72 : Int, ∃ x_8_a2 : Option Addr, ∃ x_8_l2 x_8_c2 : Nat, ∃ x_92 x_102 x_112 : Int, ∃ x_122 : Bool, cellsAt w14 ⟨b, 0, none⟩ 0 [(.int .i64 x_03), (.int .i64 x_14), (.int .i64 x_22), (.int .i64 x_32), (.int .i64 x_42), (.int .i64 x_52), (.int .i64 x_62), (.int .i64 x_72), (.slice x_8_a2 x_8_l2 x_8_c2), (.int .i64 x_92), (.int .i64 x_102), (.int .i64 x_112), (.bool x_122)] ∧
          (∃ x_04 : Int, ∃ x_1_a1 : Option Addr, ∃ x_1_l1 x_1_c1 : Nat, cellsAt w14 ⟨b1, 0, none⟩ 0 [(.int .i64 x_04), (.slice x_1_a1 x_1_l1 x_1_c1)] ∧
          (Calls Try.prog N_ref20_Report #[(.agg #[.int .i64 x_03, .int .i64 x_14, .int .i64 x_22, .int .i64 x_32, .int .i64 x_42, .int .i64 x_52, .int .i64 x_62, .int .i64 x_72, .slice x_8_a2 x_8_l2 x_8_c2, .int .i64 x_92, .int .i64 x_102, .int .i64 x_112, .bool x_122]), (.agg #[.int .i64 x_04, .slice x_1_a1 x_1_l1 x_1_c1])] w14 fun e_7 w15 =>
          ∃ r_03 r_14 r_22 r_32 r_42 r_52 r_62 r_72 : Int, ∃ r_8_a2 : Option Addr, ∃ r_8_l2 r_8_c2 : Nat, ∃ r_92 r_102 r_112 : Int, ∃ r_122 : Bool, ∃ r5 : Int, e_7 = .returned (.tuple #[(.agg #[.int .i64 r_03, .int .i64 r_14, .int .i64 r_22, .int .i64 r_32, .int .i64 r_42, .int .i64 r_52, .int .i64 r_62, .int .i64 r_72, .slice r_8_a2 r_8_l2 r_8_c2, .int .i64 r_92, .int .i64 r_102, .int .i64 r_112, .bool r_122]), (.int .i64 r5)]) ∧
          (kAlloc w15 #[.int .i64 (0 : Int), .int .i64 (0 : Int), .int .i64 (0 : Int), .int .i64 (0 : Int), .int .i64 (0 : Int), .int .i64 (0 : Int), .int .i64 (0 : Int), .int .i64 (0 : Int), .slice none 0 0, .int .i64 (0 : Int), .int .i64 (0 : Int), .int .i64 (0 : Int), .bool false] Ty_api_Sender fun b3 w16 =>
          (sxStore w16 ⟨b3, 0, none⟩ 0 [(.int .i64 r_03), (.int .i64 r_14), (.int .i64 r_22), (.int .i64 r_32), (.int .i64 r_42), (.int .i64 r_52), (.int .i64 r_62), (.int .i64 r_72), (.slice r_8_a2 r_8_l2 r_8_c2), (.int .i64 r_92), (.int .i64 r_102), (.int .i64 r_112), (.bool r_122)] fun w17 =>
          (bsplit (decide (r3 = r5))
            ((kLdB w17 ⟨b2, 12, none⟩ fun x2 =>
            (kLdB w17 ⟨b3, 12, none⟩ fun x3 =>
            R (.bool (x2 == x3)) w17)))
            (R (.bool false) w17))))))))
          ((∃ I : Int → Nat × (World → Prop), (I (0 : Int)).2 w14 ∧
          (∀ (_junk : Env) (n : Int) (w18 : World), (I n).2 w18 →
            (bsplit (decide (n < (300 : Int)))
              ((∃ x_05 x_15 x_23 x_33 x_43 x_53 x_63 x_73 : Int, ∃ x_8_a3 : Option Addr, ∃ x_8_l3 x_8_c3 : Nat, ∃ x_93 x_103 x_113 : Int, ∃ x_123 : Bool, cellsAt w18 ⟨b2, 0, none⟩ 0 [(.int .i64 x_05), (.int .i64 x_15), (.int .i64 x_23), (.int .i64 x_33), (.int .i64 x_43), (.int .i64 x_53), (.int .i64 x_63), (.int .i64 x_73), (.slice x_8_a3 x_8_l3 x_8_c3), (.int .i64 x_93), (.int .i64 x_103), (.int .i64 x_113), (.bool x_123)] ∧
              (Calls Try.prog N_law20_next #[(.agg #[.int .i64 x_05, .int .i64 x_15, .int .i64 x_23, .int .i64 x_33, .int .i64 x_43, .int .i64 x_53, .int .i64 x_63, .int .i64 x_73, .slice x_8_a3 x_8_l3 x_8_c3, .int .i64 x_93, .int .i64 x_103, .int .i64 x_113, .bool x_123])] w18 fun e_8 w19 =>
              ∃ r6 r7 r8 : Int, ∃ r9 : Bool, e_8 = .returned (.tuple #[(.int .i64 r6), (.int .i64 r7), (.int .i64 r8), (.bool r9)]) ∧
              (∃ J1 : Addr → Option Addr → Nat → Nat → Int → World → Prop,
              (∀ (_junk : Env) (y : Addr) (b_a : Option Addr) (b_l : Nat) (b_c : Nat) (f : Int) (w32 : World), J1 y b_a b_l b_c f w32 →
                (bsplit (decide (f = (14 : Int)))
                  ((bsplit (!r9)
                    ((∃ x_07 x_17 x_25 x_35 x_45 x_55 x_65 x_75 : Int, ∃ x_8_a5 : Option Addr, ∃ x_8_l5 x_8_c5 : Nat, ∃ x_95 x_105 x_115 : Int, ∃ x_125 : Bool, cellsAt w32 ⟨b2, 0, none⟩ 0 [(.int .i64 x_07), (.int .i64 x_17), (.int .i64 x_25), (.int .i64 x_35), (.int .i64 x_45), (.int .i64 x_55), (.int .i64 x_65), (.int .i64 x_75), (.slice x_8_a5 x_8_l5 x_8_c5), (.int .i64 x_95), (.int .i64 x_105), (.int .i64 x_115), (.bool x_125)] ∧
                    (Calls Try.prog N_ref20_Left #[(.agg #[.int .i64 x_07, .int .i64 x_17, .int .i64 x_25, .int .i64 x_35, .int .i64 x_45, .int .i64 x_55, .int .i64 x_65, .int .i64 x_75, .slice x_8_a5 x_8_l5 x_8_c5, .int .i64 x_95, .int .i64 x_105, .int .i64 x_115, .bool x_125])] w32 fun e_14 w33 =>
                    ∃ r15 : Bool, e_14 = .returned (.bool r15) ∧
                    R (.bool (!r15)) w33)))
                    (R (.bool false) w32)))
                  ((kLd w32 ⟨b2, 0, none⟩ .i64 fun x6 =>
                  (Calls Try.prog N_ref18_Decode #[(.int .i64 x6), (.slice b_a b_l b_c)] w32 fun e_15 w34 =>
                  ∃ r_07 r_18 r_26 r_36 : Int, ∃ r_4_a : Option Addr, ∃ r_4_l r_4_c : Nat, ∃ r16 : Int, e_15 = .returned (.tuple #[(.agg #[.int .i64 r_07, .int .i64 r_18, .int .i64 r_26, .int .i64 r_36, .slice r_4_a r_4_l r_4_c]), (.int .i64 r16)]) ∧
                  (kAlloc w34 #[.int .i64 (0 : Int), .int .i64 (0 : Int), .int .i64 (0 : Int), .int .i64 (0 : Int), .slice none 0 0] Ty_api_Piece fun b7 w35 =>
                  (sxStore w35 ⟨b7, 0, none⟩ 0 [(.int .i64 r_07), (.int .i64 r_18), (.int .i64 r_26), (.int .i64 r_36), (.slice r_4_a r_4_l r_4_c)] fun w36 =>
                  (∃ J2 : World → Prop,
                  (∀ (_junk : Env)  (w37 : World), J2 w37 →
                    (bsplit r9
                      ((kLd w37 ⟨b7, 0, none⟩ .i64 fun x7 =>
                      (bsplit (!decide (x7 = r6))
                        (R (.bool false) w37)
                        ((kLd w37 ⟨b7, 3, none⟩ .i64 fun x9 =>
                        (bsplit (!decide (x9 = r7))
                          (R (.bool false) w37)
                          ((kLd w37 ⟨b7, 3, none⟩ .i64 fun x11 =>
                          (kLdS w37 ⟨b7, 4, none⟩ fun _ x_l _ =>
                          (kW .i64 (x11 + (x_l : Int)) fun x12 =>
                          (bsplit (decide (x12 > r8))
                            (R (.bool false) w37)
                            ((∃ x_010 x_110 x_28 x_38 x_48 x_58 x_68 x_78 : Int, ∃ x_8_a8 : Option Addr, ∃ x_8_l8 x_8_c8 : Nat, ∃ x_98 x_108 x_118 : Int, ∃ x_128 : Bool, cellsAt w37 y 0 [(.int .i64 x_010), (.int .i64 x_110), (.int .i64 x_28), (.int .i64 x_38), (.int .i64 x_48), (.int .i64 x_58), (.int .i64 x_68), (.int .i64 x_78), (.slice x_8_a8 x_8_l8 x_8_c8), (.int .i64 x_98), (.int .i64 x_108), (.int .i64 x_118), (.bool x_128)] ∧
                            (sxStore w37 ⟨b2, 0, none⟩ 0 [(.int .i64 x_010), (.int .i64 x_110), (.int .i64 x_28), (.int .i64 x_38), (.int .i64 x_48), (.int .i64 x_58), (.int .i64 x_68), (.int .i64 x_78), (.slice x_8_a8 x_8_l8 x_8_c8), (.int .i64 x_98), (.int .i64 x_108), (.int .i64 x_118), (.bool x_128)] fun w40 =>
                            (kW .i64 (n + (1 : Int)) fun x13 =>
                            ((I x13).2 w40 ∧ (I x13).1 < (I n).1))))))))))))))))
                      ((∃ x_011 x_119 x_29 x_39 x_49 x_59 x_69 x_79 : Int, ∃ x_8_a9 : Option Addr, ∃ x_8_l9 x_8_c9 : Nat, ∃ x_99 x_109 x_1110 : Int, ∃ x_129 : Bool, cellsAt w37 y 0 [(.int .i64 x_011), (.int .i64 x_119), (.int .i64 x_29), (.int .i64 x_39), (.int .i64 x_49), (.int .i64 x_59), (.int .i64 x_69), (.int .i64 x_79), (.slice x_8_a9 x_8_l9 x_8_c9), (.int .i64 x_99), (.int .i64 x_109), (.int .i64 x_1110), (.bool x_129)] ∧
                        (sxStore w37 ⟨b2, 0, none⟩ 0 [(.int .i64 x_011), (.int .i64 x_119), (.int .i64 x_29), (.int .i64 x_39), (.int .i64 x_49), (.int .i64 x_59), (.int .i64 x_69), (.int .i64 x_79), (.slice x_8_a9 x_8_l9 x_8_c9), (.int .i64 x_99), (.int .i64 x_109), (.int .i64 x_1110), (.bool x_129)] fun w41 =>
                        (kW .i64 (n + (1 : Int)) fun x14 =>
                        ((I x14).2 w41 ∧ (I x14).1 < (I n).1))))))) ∧
                  (bsplit (!decide (f = (0 : Int)))
                    (R (.bool false) w36)
                    ((bsplit (!decide (r16 = (0 : Int)))
                      (R (.bool false) w36)
                      (J2 w36)))))))))))) ∧
              (kDrew w19 fun w20 =>
              (∃ S : Nat → Prop,
              (S b2 ∧
              (∃ x_06 x_16 x_24 x_34 x_44 x_54 x_64 x_74 : Int, ∃ x_8_a4 : Option Addr, ∃ x_8_l4 x_8_c4 : Nat, ∃ x_94 x_104 x_114 : Int, ∃ x_124 : Bool, cellsAt w20 ⟨b2, 0, none⟩ 0 [(.int .i64 x_06), (.int .i64 x_16), (.int .i64 x_24), (.int .i64 x_34), (.int .i64 x_44), (.int .i64 x_54), (.int .i64 x_64), (.int .i64 x_74), (.slice x_8_a4 x_8_l4 x_8_c4), (.int .i64 x_94), (.int .i64 x_104), (.int .i64 x_114), (.bool x_124)] ∧
              ((Calls Try.prog N_made_Dice_Next #[(.pointer r2), (.int .i64 (9 : Int))] w20 fun e_11 w25 =>
              ∃ r12 : Int, e_11 = .returned (.int .i64 r12) ∧
              (KeepsB S w20 w25 ∧ (kW .i64 ((5 : Int) + r12) fun x5 =>
              ((Calls Try.prog N_sender_Build #[(.agg #[.int .i64 x_06, .int .i64 x_16, .int .i64 x_24, .int .i64 x_34, .int .i64 x_44, .int .i64 x_54, .int .i64 x_64, .int .i64 x_74, .slice x_8_a4 x_8_l4 x_8_c4, .int .i64 x_94, .int .i64 x_104, .int .i64 x_114, .bool x_124]), (.int .i64 x5)] w25 fun e_13 w29 =>
              ∃ r_06 r_17 r_25 r_35 r_45 r_55 r_65 r_75 : Int, ∃ r_8_a5 : Option Addr, ∃ r_8_l5 r_8_c5 : Nat, ∃ r_95 r_105 r_115 : Int, ∃ r_125 : Bool, ∃ r_a2 : Option Addr, ∃ r_l2 r_c2 : Nat, ∃ r14 : Int, e_13 = .returned (.tuple #[(.agg #[.int .i64 r_06, .int .i64 r_17, .int .i64 r_25, .int .i64 r_35, .int .i64 r_45, .int .i64 r_55, .int .i64 r_65, .int .i64 r_75, .slice r_8_a5 r_8_l5 r_8_c5, .int .i64 r_95, .int .i64 r_105, .int .i64 r_115, .bool r_125]), (.slice r_a2 r_l2 r_c2), (.int .i64 r14)]) ∧
              (KeepsB S w20 w29 ∧ (kAlloc w29 #[.int .i64 (0 : Int), .int .i64 (0 : Int), .int .i64 (0 : Int), .int .i64 (0 : Int), .int .i64 (0 : Int), .int .i64 (0 : Int), .int .i64 (0 : Int), .int .i64 (0 : Int), .slice none 0 0, .int .i64 (0 : Int), .int .i64 (0 : Int), .int .i64 (0 : Int), .bool false] Ty_api_Sender fun b6 w30 =>
              (KeepsB S w20 w30 ∧ (sxStore w30 ⟨b6, 0, none⟩ 0 [(.int .i64 r_06), (.int .i64 r_17), (.int .i64 r_25), (.int .i64 r_35), (.int .i64 r_45), (.int .i64 r_55), (.int .i64 r_65), (.int .i64 r_75), (.slice r_8_a5 r_8_l5 r_8_c5), (.int .i64 r_95), (.int .i64 r_105), (.int .i64 r_115), (.bool r_125)] fun w31 =>
              J1 ⟨b6, 0, none⟩ r_a2 r_l2 r_c2 r14 w31))))) ∧
              ((kAlloc w25 #[.int .i64 (0 : Int), .int .i64 (0 : Int), .int .i64 (0 : Int), .int .i64 (0 : Int), .int .i64 (0 : Int), .int .i64 (0 : Int), .int .i64 (0 : Int), .int .i64 (0 : Int), .slice none 0 0, .int .i64 (0 : Int), .int .i64 (0 : Int), .int .i64 (0 : Int), .bool false] Ty_api_Sender fun b5 w26 =>
              (KeepsB S w20 w26 ∧ (Calls Try.prog N_sender_Build #[(.agg #[.int .i64 x_06, .int .i64 x_16, .int .i64 x_24, .int .i64 x_34, .int .i64 x_44, .int .i64 x_54, .int .i64 x_64, .int .i64 x_74, .slice x_8_a4 x_8_l4 x_8_c4, .int .i64 x_94, .int .i64 x_104, .int .i64 x_114, .bool x_124]), (.int .i64 x5)] w26 fun e_12 w27 =>
              ∃ r_05 r_16 r_24 r_34 r_44 r_54 r_64 r_74 : Int, ∃ r_8_a4 : Option Addr, ∃ r_8_l4 r_8_c4 : Nat, ∃ r_94 r_104 r_114 : Int, ∃ r_124 : Bool, ∃ r_a1 : Option Addr, ∃ r_l1 r_c1 : Nat, ∃ r13 : Int, e_12 = .returned (.tuple #[(.agg #[.int .i64 r_05, .int .i64 r_16, .int .i64 r_24, .int .i64 r_34, .int .i64 r_44, .int .i64 r_54, .int .i64 r_64, .int .i64 r_74, .slice r_8_a4 r_8_l4 r_8_c4, .int .i64 r_94, .int .i64 r_104, .int .i64 r_114, .bool r_124]), (.slice r_a1 r_l1 r_c1), (.int .i64 r13)]) ∧
              (KeepsB S w20 w27 ∧ (sxStore w27 ⟨b5, 0, none⟩ 0 [(.int .i64 r_05), (.int .i64 r_16), (.int .i64 r_24), (.int .i64 r_34), (.int .i64 r_44), (.int .i64 r_54), (.int .i64 r_64), (.int .i64 r_74), (.slice r_8_a4 r_8_l4 r_8_c4), (.int .i64 r_94), (.int .i64 r_104), (.int .i64 r_114), (.bool r_124)] fun w28 =>
              J1 ⟨b5, 0, none⟩ r_a1 r_l1 r_c1 r13 w28))))) ∧
              True))))) ∧
              ((kAlloc w20 #[.int .i64 (0 : Int), .int .i64 (0 : Int), .int .i64 (0 : Int), .int .i64 (0 : Int), .int .i64 (0 : Int), .int .i64 (0 : Int), .int .i64 (0 : Int), .int .i64 (0 : Int), .slice none 0 0, .int .i64 (0 : Int), .int .i64 (0 : Int), .int .i64 (0 : Int), .bool false] Ty_api_Sender fun b4 w21 =>
              (KeepsB S w20 w21 ∧ (Calls Try.prog N_made_Dice_Next #[(.pointer r2), (.int .i64 (9 : Int))] w21 fun e_9 w22 =>
              ∃ r10 : Int, e_9 = .returned (.int .i64 r10) ∧
              (KeepsB S w20 w22 ∧ (kW .i64 ((5 : Int) + r10) fun x4 =>
              (Calls Try.prog N_sender_Build #[(.agg #[.int .i64 x_06, .int .i64 x_16, .int .i64 x_24, .int .i64 x_34, .int .i64 x_44, .int .i64 x_54, .int .i64 x_64, .int .i64 x_74, .slice x_8_a4 x_8_l4 x_8_c4, .int .i64 x_94, .int .i64 x_104, .int .i64 x_114, .bool x_124]), (.int .i64 x4)] w22 fun e_10 w23 =>
              ∃ r_04 r_15 r_23 r_33 r_43 r_53 r_63 r_73 : Int, ∃ r_8_a3 : Option Addr, ∃ r_8_l3 r_8_c3 : Nat, ∃ r_93 r_103 r_113 : Int, ∃ r_123 : Bool, ∃ r_a : Option Addr, ∃ r_l r_c : Nat, ∃ r11 : Int, e_10 = .returned (.tuple #[(.agg #[.int .i64 r_04, .int .i64 r_15, .int .i64 r_23, .int .i64 r_33, .int .i64 r_43, .int .i64 r_53, .int .i64 r_63, .int .i64 r_73, .slice r_8_a3 r_8_l3 r_8_c3, .int .i64 r_93, .int .i64 r_103, .int .i64 r_113, .bool r_123]), (.slice r_a r_l r_c), (.int .i64 r11)]) ∧
              (KeepsB S w20 w23 ∧ (sxStore w23 ⟨b4, 0, none⟩ 0 [(.int .i64 r_04), (.int .i64 r_15), (.int .i64 r_23), (.int .i64 r_33), (.int .i64 r_43), (.int .i64 r_53), (.int .i64 r_63), (.int .i64 r_73), (.slice r_8_a3 r_8_l3 r_8_c3), (.int .i64 r_93), (.int .i64 r_103), (.int .i64 r_113), (.bool r_123)] fun w24 =>
              J1 ⟨b4, 0, none⟩ r_a r_l r_c r11 w24)))))))) ∧
              True))))))))))
              (R (.bool true) w18))))))) ∧
      (bsplit (!decide (r3 = (0 : Int)))
        (J true w13)
        ((kLdB w13 ⟨b2, 12, none⟩ fun x =>
        J x w13)))))))))))))))))))))))
theorem F_law20_SenderRepeats_eq (t_a : Option Addr) (t_l : Nat) (t_c : Nat) (w : World) (R : Value → World → Prop) : sxFn Try.prog TT h_law20_SenderRepeats Try.f4 #[(.slice t_a t_l t_c)] w R = F_law20_SenderRepeats t_a t_l t_c w R := by kernel_rfl
theorem F_law20_SenderRepeats_ok {R : Ending → World → Prop} (t_a : Option Addr) (t_l : Nat) (t_c : Nat) (w : World) (h : F_law20_SenderRepeats t_a t_l t_c w fun v w' => R (.returned v) w') : Calls Try.prog N_law20_SenderRepeats #[(.slice t_a t_l t_c)] w R :=
  calls_of (f := 4) follows_ok Try.func4 (Eq.mpr (F_law20_SenderRepeats_eq t_a t_l t_c w _) h)

def h_law20_SenderAcks : H := (.seq .reg (.seq (.seq .reg (.cond (.seq .reg .leaf) .leaf)) (.seq .reg (.seq .reg (.seq .reg (.seq .reg (.seq (.seq .reg (.cond (.seq .reg .leaf) .leaf)) (.seq (.seq .reg (.cond (.seq .reg .leaf) .leaf)) (.seq .reg (.seq .reg (.seq (.seq .reg (.block (.loop [(9, .p (.int .i64)), (10, .p (.int .i64))] [2, 9, 10, 11, 12, 13, 61, 62, 63, 64, 65, 66, 67, 68, 69, 70, 71, 72, 73, 74, 75, 76, 77, 78, 79, 80, 81, 82, 83, 84, 85, 86, 87, 88, 89, 90, 91, 92, 93, 94, 95, 96, 97, 98, 99, 100, 101, 102, 103, 104, 105, 106, 107, 108, 109, 110, 111, 112, 113, 114, 115, 116, 117, 118, 119, 120, 121, 122, 123, 124, 125, 126, 127, 128, 129, 130, 131, 132, 133, 134, 135, 136, 137, 138, 139, 140, 141, 142, 143, 144, 145, 146, 147, 148, 149, 150, 151, 152, 153, 154] (.seq (.seq .reg (.cond .leaf .leaf)) (.cut [(9, .p (.int .i64))] [2, 9, 11, 12, 13, 68, 69, 70, 71, 72, 73, 74, 75, 76, 77, 78, 79, 80, 81, 82, 83, 84, 85, 86, 87, 88, 89, 90, 91, 92, 93, 94, 95, 96, 97, 98, 99, 100, 101, 102, 103, 104, 105, 106, 107, 108, 109, 110, 111, 112, 113, 114, 115, 116, 117, 118, 119, 120, 121, 122, 123, 124, 125, 126, 127, 128, 129, 130, 131, 132, 133, 134, 135, 136, 137, 138, 139, 140, 141, 142, 143, 144, 145, 146, 147, 148, 149, 150, 151, 152, 153, 154] (.block (.seq .reg (.seq .reg (.seq (.seq .reg (.block (.loop [(12, .p .bool), (13, .p (.int .i64))] [12, 13, 73, 74, 75, 76, 77, 78, 79, 80, 81, 82, 83, 84, 85, 86, 87, 88, 89, 90, 91] (.seq (.seq .reg (.cond .leaf .leaf)) (.seq (.block (.draw .no (.one 0 .pur (.one 1 .pur (.one 2 .pur (.one 3 .stable (.one 4 .pur (.one 5 .pur (.one 6 .pur (.one 7 .stable (.one 8 .pur (.one 9 .stable (.one 10 .pur (.one 11 .pur (.one 12 .pur .nil))))))))))))))) .reg))))) (.cut [] [92, 93, 94, 95, 96, 97, 98, 99, 100, 101, 102, 103, 104, 105, 106, 107, 108, 109, 110, 111, 112, 113] (.seq .reg (.cond .leaf .leaf)) (.seq (.seq (.draw .no (.one 0 .pur (.one 1 .pur (.one 2 .pre (.one 3 .pur (.one 4 .pur (.one 5 .pur (.one 6 .pur (.one 7 .pre (.one 8 .pur (.one 9 .pur (.one 10 .pur (.one 11 .pre (.one 12 .pur (.one 13 .pre (.one 14 .pur (.one 15 .pur (.one 16 .pur (.one 17 .pur (.one 18 .pre (.one 19 .pur (.one 20 .pur (.one 21 .pur (.one 22 .pre (.one 23 .pur (.one 24 .pre (.one 25 .pur (.one 26 .pur (.one 27 .pur (.one 28 .pur (.one 29 .pre (.one 30 .pur (.one 31 .pur (.one 32 .pur (.one 33 .pre (.one 34 .pur (.one 35 .pre (.one 36 .last (.one 37 .pur (.one 38 .pur .nil)))))))))))))))))))))))))))))))))))))))) (.cond (.seq .reg .leaf) .leaf)) .reg)))))) .reg))))) (.seq .reg .leaf))))))))))))
def F_law20_SenderAcks (t_a : Option Addr) (t_l : Nat) (t_c : Nat) (w : World) (R : Value → World → Prop) : Prop :=
  (Calls Try.prog N_made_Light #[(.slice t_a t_l t_c)] w fun e_ w1 =>
  ∃ r : Bool, e_ = .returned (.bool r) ∧
  (bsplit (!r)
    ((Calls Try.prog N_law20_awake #[] w1 fun e_1 w2 =>
    ∃ r1 : Bool, e_1 = .returned (.bool r1) ∧
    R (.bool r1) w2))
    ((Calls Try.prog N_made_Roll #[(.slice t_a t_l t_c)] w1 fun e_2 w3 =>
    ∃ r2 : Option Addr, e_2 = .returned (.pointer r2) ∧
    (Calls Try.prog N_law20_random #[(.pointer r2)] w3 fun e_3 w4 =>
    ∃ r_0 r_1 r_2 r_3 r_4 r_5 r_6 r_7 : Int, ∃ r_8_a : Option Addr, ∃ r_8_l r_8_c : Nat, ∃ r_9 r_10 r_11 : Int, ∃ r_12 : Bool, e_3 = .returned (.agg #[.int .i64 r_0, .int .i64 r_1, .int .i64 r_2, .int .i64 r_3, .int .i64 r_4, .int .i64 r_5, .int .i64 r_6, .int .i64 r_7, .slice r_8_a r_8_l r_8_c, .int .i64 r_9, .int .i64 r_10, .int .i64 r_11, .bool r_12]) ∧
    (kAlloc w4 #[.int .i64 (0 : Int), .int .i64 (0 : Int), .int .i64 (0 : Int), .int .i64 (0 : Int), .int .i64 (0 : Int), .int .i64 (0 : Int), .int .i64 (0 : Int), .int .i64 (0 : Int), .slice none 0 0, .int .i64 (0 : Int), .int .i64 (0 : Int), .int .i64 (0 : Int), .bool false] Ty_api_Sender fun b w5 =>
    (sxStore w5 ⟨b, 0, none⟩ 0 [(.int .i64 r_0), (.int .i64 r_1), (.int .i64 r_2), (.int .i64 r_3), (.int .i64 r_4), (.int .i64 r_5), (.int .i64 r_6), (.int .i64 r_7), (.slice r_8_a r_8_l r_8_c), (.int .i64 r_9), (.int .i64 r_10), (.int .i64 r_11), (.bool r_12)] fun w6 =>
    (∃ x_0 x_1 x_2 x_3 x_4 x_5 x_6 x_7 : Int, ∃ x_8_a : Option Addr, ∃ x_8_l x_8_c : Nat, ∃ x_9 x_10 x_11 : Int, ∃ x_12 : Bool, cellsAt w6 ⟨b, 0, none⟩ 0 [(.int .i64 x_0), (.int .i64 x_1), (.int .i64 x_2), (.int .i64 x_3), (.int .i64 x_4), (.int .i64 x_5), (.int .i64 x_6), (.int .i64 x_7), (.slice x_8_a x_8_l x_8_c), (.int .i64 x_9), (.int .i64 x_10), (.int .i64 x_11), (.bool x_12)] ∧
    (Calls Try.prog N_law20_report #[(.pointer r2), (.agg #[.int .i64 x_0, .int .i64 x_1, .int .i64 x_2, .int .i64 x_3, .int .i64 x_4, .int .i64 x_5, .int .i64 x_6, .int .i64 x_7, .slice x_8_a x_8_l x_8_c, .int .i64 x_9, .int .i64 x_10, .int .i64 x_11, .bool x_12])] w6 fun e_4 w7 =>
    ∃ r_01 : Int, ∃ r_1_a : Option Addr, ∃ r_1_l r_1_c : Nat, e_4 = .returned (.agg #[.int .i64 r_01, .slice r_1_a r_1_l r_1_c]) ∧
    (kAlloc w7 #[.int .i64 (0 : Int), .slice none 0 0] Ty_api_Status fun b1 w8 =>
    (sxStore w8 ⟨b1, 0, none⟩ 0 [(.int .i64 r_01), (.slice r_1_a r_1_l r_1_c)] fun w9 =>
    (∃ x_01 x_13 x_21 x_31 x_41 x_51 x_61 x_71 : Int, ∃ x_8_a1 : Option Addr, ∃ x_8_l1 x_8_c1 : Nat, ∃ x_91 x_101 x_111 : Int, ∃ x_121 : Bool, cellsAt w9 ⟨b, 0, none⟩ 0 [(.int .i64 x_01), (.int .i64 x_13), (.int .i64 x_21), (.int .i64 x_31), (.int .i64 x_41), (.int .i64 x_51), (.int .i64 x_61), (.int .i64 x_71), (.slice x_8_a1 x_8_l1 x_8_c1), (.int .i64 x_91), (.int .i64 x_101), (.int .i64 x_111), (.bool x_121)] ∧
    (∃ x_02 : Int, ∃ x_1_a : Option Addr, ∃ x_1_l x_1_c : Nat, cellsAt w9 ⟨b1, 0, none⟩ 0 [(.int .i64 x_02), (.slice x_1_a x_1_l x_1_c)] ∧
    (Calls Try.prog N_sender_Report #[(.agg #[.int .i64 x_01, .int .i64 x_13, .int .i64 x_21, .int .i64 x_31, .int .i64 x_41, .int .i64 x_51, .int .i64 x_61, .int .i64 x_71, .slice x_8_a1 x_8_l1 x_8_c1, .int .i64 x_91, .int .i64 x_101, .int .i64 x_111, .bool x_121]), (.agg #[.int .i64 x_02, .slice x_1_a x_1_l x_1_c])] w9 fun e_5 w10 =>
    ∃ r_02 r_13 r_21 r_31 r_41 r_51 r_61 r_71 : Int, ∃ r_8_a1 : Option Addr, ∃ r_8_l1 r_8_c1 : Nat, ∃ r_91 r_101 r_111 : Int, ∃ r_121 : Bool, ∃ r3 : Int, e_5 = .returned (.tuple #[(.agg #[.int .i64 r_02, .int .i64 r_13, .int .i64 r_21, .int .i64 r_31, .int .i64 r_41, .int .i64 r_51, .int .i64 r_61, .int .i64 r_71, .slice r_8_a1 r_8_l1 r_8_c1, .int .i64 r_91, .int .i64 r_101, .int .i64 r_111, .bool r_121]), (.int .i64 r3)]) ∧
    (kAlloc w10 #[.int .i64 (0 : Int), .int .i64 (0 : Int), .int .i64 (0 : Int), .int .i64 (0 : Int), .int .i64 (0 : Int), .int .i64 (0 : Int), .int .i64 (0 : Int), .int .i64 (0 : Int), .slice none 0 0, .int .i64 (0 : Int), .int .i64 (0 : Int), .int .i64 (0 : Int), .bool false] Ty_api_Sender fun b2 w11 =>
    (sxStore w11 ⟨b2, 0, none⟩ 0 [(.int .i64 r_02), (.int .i64 r_13), (.int .i64 r_21), (.int .i64 r_31), (.int .i64 r_41), (.int .i64 r_51), (.int .i64 r_61), (.int .i64 r_71), (.slice r_8_a1 r_8_l1 r_8_c1), (.int .i64 r_91), (.int .i64 r_101), (.int .i64 r_111), (.bool r_121)] fun w12 =>
    (Calls Try.prog N_law20_awake #[] w12 fun e_6 w13 =>
    ∃ r4 : Bool, e_6 = .returned (.bool r4) ∧
    (bsplit (!r4)
      (R (.bool false) w13)
      ((bsplit (!decide (r3 = (0 : Int)))
        ((kLdB w13 ⟨b, 12, none⟩ fun x =>
        (bsplit x
          ((bsplit (decide (r3 = (16 : Int)))
            (R (.bool true) w13)
            ((kLd w13 ⟨b, 0, none⟩ .i64 fun x1 =>
            (∃ x_03 : Int, ∃ x_1_a1 : Option Addr, ∃ x_1_l1 x_1_c1 : Nat, cellsAt w13 ⟨b1, 0, none⟩ 0 [(.int .i64 x_03), (.slice x_1_a1 x_1_l1 x_1_c1)] ∧
            (Calls Try.prog N_ref19_Valid #[(.int .i64 x1), (.agg #[.int .i64 x_03, .slice x_1_a1 x_1_l1 x_1_c1])] w13 fun e_7 w14 =>
            ∃ r5 : Bool, e_7 = .returned (.bool r5) ∧
            (bsplit (!r5)
              ((kLet (decide (r3 = (1 : Int))) fun x2 =>
              R (.bool x2) w14))
              (R (.bool false) w14))))))))
          ((kLd w13 ⟨b, 0, none⟩ .i64 fun x3 =>
          (∃ x_04 : Int, ∃ x_1_a2 : Option Addr, ∃ x_1_l2 x_1_c2 : Nat, cellsAt w13 ⟨b1, 0, none⟩ 0 [(.int .i64 x_04), (.slice x_1_a2 x_1_l2 x_1_c2)] ∧
          (Calls Try.prog N_ref19_Valid #[(.int .i64 x3), (.agg #[.int .i64 x_04, .slice x_1_a2 x_1_l2 x_1_c2])] w13 fun e_8 w15 =>
          ∃ r6 : Bool, e_8 = .returned (.bool r6) ∧
          (bsplit (!r6)
            ((kLet (decide (r3 = (1 : Int))) fun x4 =>
            R (.bool x4) w15))
            (R (.bool false) w15)))))))))
        ((kLd w13 ⟨b, 0, none⟩ .i64 fun x5 =>
        (kLd w13 ⟨b, 6, none⟩ .i64 fun x6 =>
        (kLd w13 ⟨b1, 0, none⟩ .i64 fun x7 =>
        (Calls Try.prog N_ref20_Place #[(.int .i64 x5), (.int .i64 x6), (.int .i64 x7)] w13 fun e_9 w16 =>
        ∃ r7 : Int, e_9 = .returned (.int .i64 r7) ∧
        (∃ I : Int → Int → Nat × (World → Prop), (I (0 : Int) (0 : Int)).2 w16 ∧
        (∀ (_junk : Env) (k : Int) (i : Int) (w17 : World), (I k i).2 w17 →
          (kLdS w17 ⟨b, 8, none⟩ fun _ x_l _ =>
          (bsplit (decide (i < (x_l : Int)))
            ((∃ J : Int → World → Prop,
            (∀ (_junk : Env) (k1 : Int) (w26 : World), J k1 w26 →
              (kW .i64 (i + (1 : Int)) fun x24 =>
              ((I k1 x24).2 w26 ∧ (I k1 x24).1 < (I k i).1))) ∧
            (kLdS w17 ⟨b, 8, none⟩ fun x_a1 x_l1 _ =>
            (kIx x_a1 x_l1 i fun b3 =>
            (∃ x_05 : Int, ∃ x_1_a3 : Option Addr, ∃ x_1_l3 x_1_c3 : Nat, ∃ x_22 x_32 : Int, ∃ x_4_a : Option Addr, ∃ x_4_l x_4_c : Nat, cellsAt w17 (b3.add (i.toNat * 5)) 0 [(.int .i64 x_05), (.slice x_1_a3 x_1_l3 x_1_c3), (.int .i64 x_22), (.int .i64 x_32), (.slice x_4_a x_4_l x_4_c)] ∧
            (kAlloc w17 #[.int .i64 (0 : Int), .slice none 0 0, .int .i64 (0 : Int), .int .i64 (0 : Int), .slice none 0 0] Ty_api_Unit fun b4 w18 =>
            (sxStore w18 ⟨b4, 0, none⟩ 0 [(.int .i64 x_05), (.slice x_1_a3 x_1_l3 x_1_c3), (.int .i64 x_22), (.int .i64 x_32), (.slice x_4_a x_4_l x_4_c)] fun w19 =>
            (∃ I1 : Bool → Int → Nat × (World → Prop), (I1 false (0 : Int)).2 w19 ∧
            (∀ (_junk : Env) (named : Bool) (j : Int) (w20 : World), (I1 named j).2 w20 →
              (kLdS w20 ⟨b1, 1, none⟩ fun _ x_l2 _ =>
              (bsplit (decide (j < (x_l2 : Int)))
                ((kDrew w20 fun w21 =>
                (bsplit named
                  ((kW .i64 (j + (1 : Int)) fun x8 =>
                  ((I1 true x8).2 w21 ∧ (I1 true x8).1 < (I1 named j).1)))
                  ((kLdS w21 ⟨b1, 1, none⟩ fun x_a3 x_l3 _ =>
                  (kIx x_a3 x_l3 j fun b5 =>
                  (kLd w21 (b5.add (j.toNat * 3)) .i64 fun x9 =>
                  (kLd w21 ⟨b4, 0, none⟩ .i64 fun x10 =>
                  (kLet (decide (x9 = x10)) fun named1 =>
                  (kW .i64 (j + (1 : Int)) fun x11 =>
                  ((I1 named1 x11).2 w21 ∧ (I1 named1 x11).1 < (I1 named j).1)))))))))))
                ((∃ J1 : World → Prop,
                (∀ (_junk : Env)  (w23 : World), J1 w23 →
                  (kDrew w23 fun w24 =>
                  (kLdS w24 ⟨b2, 8, none⟩ fun _ x_l5 _ =>
                  (bsplit (decide (k = (x_l5 : Int)))
                    (R (.bool false) w24)
                    ((kLdS w24 ⟨b2, 8, none⟩ fun x_a6 x_l6 _ =>
                    (kIx x_a6 x_l6 k fun b6 =>
                    (kLd w24 (b6.add (k.toNat * 5)) .i64 fun x17 =>
                    (kLd w24 ⟨b4, 0, none⟩ .i64 fun x18 =>
                    (bsplit (!decide (x17 = x18))
                      (R (.bool false) w24)
                      ((kLdS w24 ⟨b2, 8, none⟩ fun x_a7 x_l7 _ =>
                      (kIx x_a7 x_l7 k fun b7 =>
                      (kLd w24 ((b7.add (k.toNat * 5)).add 2) .i64 fun x20 =>
                      (kLd w24 ⟨b4, 2, none⟩ .i64 fun x21 =>
                      (bsplit (!decide (x20 = x21))
                        (R (.bool false) w24)
                        ((kLdS w24 ⟨b2, 8, none⟩ fun x_a8 x_l8 _ =>
                        (kIx x_a8 x_l8 k fun b8 =>
                        (kLdS w24 ((b8.add (k.toNat * 5)).add 1) fun x_a9 x_l9 x_c9 =>
                        (kLdS w24 ⟨b4, 1, none⟩ fun x_a10 x_l10 x_c10 =>
                        (Calls Try.prog N_ref01_Same #[(.slice x_a9 x_l9 x_c9), (.slice x_a10 x_l10 x_c10)] w24 fun e_11 w25 =>
                        ∃ r9 : Bool, e_11 = .returned (.bool r9) ∧
                        (bsplit (!r9)
                          (R (.bool false) w25)
                          ((kW .i64 (k + (1 : Int)) fun x23 =>
                          J x23 w25))))))))))))))))))))))))) ∧
                (kLd w20 ⟨b, 0, none⟩ .i64 fun x12 =>
                (kLd w20 ⟨b, 6, none⟩ .i64 fun x13 =>
                (kLd w20 ⟨b4, 0, none⟩ .i64 fun x14 =>
                (Calls Try.prog N_ref20_Place #[(.int .i64 x12), (.int .i64 x13), (.int .i64 x14)] w20 fun e_10 w22 =>
                ∃ r8 : Int, e_10 = .returned (.int .i64 r8) ∧
                (bsplit (decide (r8 < r7))
                  ((bsplit (!named)
                    ((kLd w22 ⟨b4, 2, none⟩ .i64 fun x15 =>
                    (kLdS w22 ⟨b4, 1, none⟩ fun _ x_l4 _ =>
                    (bsplit (decide (x15 = (x_l4 : Int)))
                      (J k w22)
                      (J1 w22)))))
                    (J1 w22)))
                  (J1 w22)))))))))))))))))))
            ((kLdS w17 ⟨b2, 8, none⟩ fun _ x_l11 _ =>
            (kLet (decide (k = (x_l11 : Int))) fun x25 =>
            R (.bool x25) w17))))))))))))))))))))))))))))))))
theorem F_law20_SenderAcks_eq (t_a : Option Addr) (t_l : Nat) (t_c : Nat) (w : World) (R : Value → World → Prop) : sxFn Try.prog TT h_law20_SenderAcks Try.f5 #[(.slice t_a t_l t_c)] w R = F_law20_SenderAcks t_a t_l t_c w R := by kernel_rfl
theorem F_law20_SenderAcks_ok {R : Ending → World → Prop} (t_a : Option Addr) (t_l : Nat) (t_c : Nat) (w : World) (h : F_law20_SenderAcks t_a t_l t_c w fun v w' => R (.returned v) w') : Calls Try.prog N_law20_SenderAcks #[(.slice t_a t_l t_c)] w R :=
  calls_of (f := 5) follows_ok Try.func5 (Eq.mpr (F_law20_SenderAcks_eq t_a t_l t_c w _) h)

def h_law20_SenderExact : H := (.seq .reg (.cut [] [6, 11, 12, 13, 14, 15, 16, 17, 18, 19, 20, 21, 22, 23, 24, 25, 26] (.seq .reg (.cond (.seq .reg .leaf) .leaf)) (.seq .reg (.seq .reg (.seq (.draw .blk (.one 0 .keep (.one 1 .pur (.one 2 .pur (.one 3 .stable (.one 5 .pur (.one 6 .stable (.one 4 .keep (.one 7 .keep (.one 8 .pur (.one 9 .pur (.one 10 .pur (.one 11 .pur (.one 12 .pur (.one 13 .pur (.one 14 .pur (.one 15 .pur (.one 16 .stable (.one 17 .stable (.one 18 .keep (.one 19 .pur (.one 20 .pur (.one 21 .stable (.one 22 .pur (.one 23 .pur (.one 24 .pur (.one 25 .stable (.one 26 .last (.one 27 .pur (.one 28 .pur .nil)))))))))))))))))))))))))))))) .leaf)))))
def F_law20_SenderExact (s_0 : Int) (s_1 : Int) (s_2 : Int) (s_3 : Int) (s_4 : Int) (s_5 : Int) (s_6 : Int) (s_7 : Int) (s_8_a : Option Addr) (s_8_l : Nat) (s_8_c : Nat) (s_9 : Int) (s_10 : Int) (s_11 : Int) (s_12 : Bool) (data_a : Option Addr) (data_l : Nat) (data_c : Nat) (r_0 : Int) (r_1_a : Option Addr) (r_1_l : Nat) (r_1_c : Nat) (w : World) (R : Value → World → Prop) : Prop :=
  (kAlloc w #[(.int .i64 s_0), (.int .i64 s_1), (.int .i64 s_2), (.int .i64 s_3), (.int .i64 s_4), (.int .i64 s_5), (.int .i64 s_6), (.int .i64 s_7), (.slice s_8_a s_8_l s_8_c), (.int .i64 s_9), (.int .i64 s_10), (.int .i64 s_11), (.bool s_12)] Ty_api_Sender fun b w1 =>
  (kAlloc w1 #[(.int .i64 r_0), (.slice r_1_a r_1_l r_1_c)] Ty_api_Status fun b1 w2 =>
  (∃ J : World → Prop,
  (∀ (_junk : Env)  (w6 : World), J w6 →
    (∃ x_0 x_1 x_2 x_3 x_4 x_5 : Int, cellsAt w6 ⟨b, 0, none⟩ 0 [(.int .i64 x_0), (.int .i64 x_1), (.int .i64 x_2), (.int .i64 x_3), (.int .i64 x_4), (.int .i64 x_5)] ∧
    (Calls Try.prog N_sender_New #[(.agg #[.int .i64 x_0, .int .i64 x_1, .int .i64 x_2, .int .i64 x_3, .int .i64 x_4, .int .i64 x_5])] w6 fun e_3 w7 =>
    ∃ r_01 r_1 r_2 r_3 r_4 r_5 r_6 r_7 : Int, ∃ r_8_a : Option Addr, ∃ r_8_l r_8_c : Nat, ∃ r_9 r_10 r_11 : Int, ∃ r_12 : Bool, ∃ r3 : Int, e_3 = .returned (.tuple #[(.agg #[.int .i64 r_01, .int .i64 r_1, .int .i64 r_2, .int .i64 r_3, .int .i64 r_4, .int .i64 r_5, .int .i64 r_6, .int .i64 r_7, .slice r_8_a r_8_l r_8_c, .int .i64 r_9, .int .i64 r_10, .int .i64 r_11, .bool r_12]), (.int .i64 r3)]) ∧
    (kAlloc w7 #[.int .i64 (0 : Int), .int .i64 (0 : Int), .int .i64 (0 : Int), .int .i64 (0 : Int), .int .i64 (0 : Int), .int .i64 (0 : Int), .int .i64 (0 : Int), .int .i64 (0 : Int), .slice none 0 0, .int .i64 (0 : Int), .int .i64 (0 : Int), .int .i64 (0 : Int), .bool false] Ty_api_Sender fun b2 w8 =>
    (sxStore w8 ⟨b2, 0, none⟩ 0 [(.int .i64 r_01), (.int .i64 r_1), (.int .i64 r_2), (.int .i64 r_3), (.int .i64 r_4), (.int .i64 r_5), (.int .i64 r_6), (.int .i64 r_7), (.slice r_8_a r_8_l r_8_c), (.int .i64 r_9), (.int .i64 r_10), (.int .i64 r_11), (.bool r_12)] fun w9 =>
    (∃ x_01 x_11 x_21 x_31 x_41 x_51 : Int, cellsAt w9 ⟨b, 0, none⟩ 0 [(.int .i64 x_01), (.int .i64 x_11), (.int .i64 x_21), (.int .i64 x_31), (.int .i64 x_41), (.int .i64 x_51)] ∧
    (Calls Try.prog N_ref20_New #[(.agg #[.int .i64 x_01, .int .i64 x_11, .int .i64 x_21, .int .i64 x_31, .int .i64 x_41, .int .i64 x_51])] w9 fun e_4 w10 =>
    ∃ r_02 r_13 r_21 r_31 r_41 r_51 r_61 r_71 : Int, ∃ r_8_a1 : Option Addr, ∃ r_8_l1 r_8_c1 : Nat, ∃ r_91 r_101 r_111 : Int, ∃ r_121 : Bool, ∃ r4 : Int, e_4 = .returned (.tuple #[(.agg #[.int .i64 r_02, .int .i64 r_13, .int .i64 r_21, .int .i64 r_31, .int .i64 r_41, .int .i64 r_51, .int .i64 r_61, .int .i64 r_71, .slice r_8_a1 r_8_l1 r_8_c1, .int .i64 r_91, .int .i64 r_101, .int .i64 r_111, .bool r_121]), (.int .i64 r4)]) ∧
    (kAlloc w10 #[.int .i64 (0 : Int), .int .i64 (0 : Int), .int .i64 (0 : Int), .int .i64 (0 : Int), .int .i64 (0 : Int), .int .i64 (0 : Int), .int .i64 (0 : Int), .int .i64 (0 : Int), .slice none 0 0, .int .i64 (0 : Int), .int .i64 (0 : Int), .int .i64 (0 : Int), .bool false] Ty_api_Sender fun b3 w11 =>
    (sxStore w11 ⟨b3, 0, none⟩ 0 [(.int .i64 r_02), (.int .i64 r_13), (.int .i64 r_21), (.int .i64 r_31), (.int .i64 r_41), (.int .i64 r_51), (.int .i64 r_61), (.int .i64 r_71), (.slice r_8_a1 r_8_l1 r_8_c1), (.int .i64 r_91), (.int .i64 r_101), (.int .i64 r_111), (.bool r_121)] fun w12 =>
    (kDrew w12 fun w13 =>
    (∃ S : Nat → Prop,
    (Calls Try.prog N_law20_awake #[] w13 fun e_5 w14 =>
    ∃ r5 : Bool, e_5 = .returned (.bool r5) ∧
    (KeepsB S w13 w14 ∧ (bsplit r5
      ((S b ∧
      (∃ x_02 x_12 x_22 x_32 x_42 x_52 : Int, cellsAt w13 ⟨b, 0, none⟩ 0 [(.int .i64 x_02), (.int .i64 x_12), (.int .i64 x_22), (.int .i64 x_32), (.int .i64 x_42), (.int .i64 x_52)] ∧
      (S b ∧
      (∃ x_03 x_13 x_23 x_33 x_43 x_53 : Int, cellsAt w13 ⟨b, 0, none⟩ 0 [(.int .i64 x_03), (.int .i64 x_13), (.int .i64 x_23), (.int .i64 x_33), (.int .i64 x_43), (.int .i64 x_53)] ∧
      (Calls Try.prog N_sender_ValidLink #[(.agg #[.int .i64 x_02, .int .i64 x_12, .int .i64 x_22, .int .i64 x_32, .int .i64 x_42, .int .i64 x_52])] w14 fun e_6 w15 =>
      ∃ r6 : Bool, e_6 = .returned (.bool r6) ∧
      (KeepsB S w13 w15 ∧ (Calls Try.prog N_ref20_ValidLink #[(.agg #[.int .i64 x_03, .int .i64 x_13, .int .i64 x_23, .int .i64 x_33, .int .i64 x_43, .int .i64 x_53])] w15 fun e_7 w16 =>
      ∃ r7 : Bool, e_7 = .returned (.bool r7) ∧
      (KeepsB S w13 w16 ∧ (bsplit (r6 == r7)
        ((bsplit (decide (r3 = r4))
          ((S b2 ∧
          (∃ x_04 x_14 x_24 x_34 x_44 x_54 x_6 x_7 : Int, ∃ x_8_a : Option Addr, ∃ x_8_l x_8_c : Nat, ∃ x_9 x_10 x_111 : Int, ∃ x_121 : Bool, cellsAt w13 ⟨b2, 0, none⟩ 0 [(.int .i64 x_04), (.int .i64 x_14), (.int .i64 x_24), (.int .i64 x_34), (.int .i64 x_44), (.int .i64 x_54), (.int .i64 x_6), (.int .i64 x_7), (.slice x_8_a x_8_l x_8_c), (.int .i64 x_9), (.int .i64 x_10), (.int .i64 x_111), (.bool x_121)] ∧
          (S b3 ∧
          (∃ x_05 x_15 x_25 x_35 x_45 x_55 x_61 x_71 : Int, ∃ x_8_a1 : Option Addr, ∃ x_8_l1 x_8_c1 : Nat, ∃ x_91 x_101 x_112 : Int, ∃ x_122 : Bool, cellsAt w13 ⟨b3, 0, none⟩ 0 [(.int .i64 x_05), (.int .i64 x_15), (.int .i64 x_25), (.int .i64 x_35), (.int .i64 x_45), (.int .i64 x_55), (.int .i64 x_61), (.int .i64 x_71), (.slice x_8_a1 x_8_l1 x_8_c1), (.int .i64 x_91), (.int .i64 x_101), (.int .i64 x_112), (.bool x_122)] ∧
          (Calls Try.prog N_ref20_Same #[(.agg #[.int .i64 x_04, .int .i64 x_14, .int .i64 x_24, .int .i64 x_34, .int .i64 x_44, .int .i64 x_54, .int .i64 x_6, .int .i64 x_7, .slice x_8_a x_8_l x_8_c, .int .i64 x_9, .int .i64 x_10, .int .i64 x_111, .bool x_121]), (.agg #[.int .i64 x_05, .int .i64 x_15, .int .i64 x_25, .int .i64 x_35, .int .i64 x_45, .int .i64 x_55, .int .i64 x_61, .int .i64 x_71, .slice x_8_a1 x_8_l1 x_8_c1, .int .i64 x_91, .int .i64 x_101, .int .i64 x_112, .bool x_122])] w16 fun e_8 w17 =>
          ∃ r8 : Bool, e_8 = .returned (.bool r8) ∧
          (KeepsB S w13 w17 ∧ (bsplit r8
            ((S b ∧
            (∃ x_06 x_16 x_26 x_36 x_46 x_56 x_62 x_72 : Int, ∃ x_8_a2 : Option Addr, ∃ x_8_l2 x_8_c2 : Nat, ∃ x_92 x_102 x_113 : Int, ∃ x_123 : Bool, cellsAt w13 ⟨b, 0, none⟩ 0 [(.int .i64 x_06), (.int .i64 x_16), (.int .i64 x_26), (.int .i64 x_36), (.int .i64 x_46), (.int .i64 x_56), (.int .i64 x_62), (.int .i64 x_72), (.slice x_8_a2 x_8_l2 x_8_c2), (.int .i64 x_92), (.int .i64 x_102), (.int .i64 x_113), (.bool x_123)] ∧
            (S b1 ∧
            (∃ x_07 : Int, ∃ x_1_a : Option Addr, ∃ x_1_l x_1_c : Nat, cellsAt w13 ⟨b1, 0, none⟩ 0 [(.int .i64 x_07), (.slice x_1_a x_1_l x_1_c)] ∧
            (Calls Try.prog N_law20_agree #[(.agg #[.int .i64 x_06, .int .i64 x_16, .int .i64 x_26, .int .i64 x_36, .int .i64 x_46, .int .i64 x_56, .int .i64 x_62, .int .i64 x_72, .slice x_8_a2 x_8_l2 x_8_c2, .int .i64 x_92, .int .i64 x_102, .int .i64 x_113, .bool x_123]), (.slice data_a data_l data_c), (.int .i64 (data_l : Int)), (.agg #[.int .i64 x_07, .slice x_1_a x_1_l x_1_c])] w17 fun e_9 w18 =>
            ∃ r9 : Bool, e_9 = .returned (.bool r9) ∧
            R (.bool r9) w18))))))
            (R (.bool false) w17)))))))))
          (R (.bool false) w16)))
        (R (.bool false) w16)))))))))))
      (R (.bool false) w14))))))))))))))) ∧
  (kLdS w2 ⟨b, 8, none⟩ fun _ x_l _ =>
  (bsplit (decide ((x_l : Int) > (300 : Int)))
    ((Calls Try.prog N_law20_awake #[] w2 fun e_ w3 =>
      ∃ r : Bool, e_ = .returned (.bool r) ∧
      R (.bool r) w3))
    ((kLdS w2 ⟨b1, 1, none⟩ fun _ x_l1 _ =>
    (bsplit (decide ((x_l1 : Int) > (200 : Int)))
      ((Calls Try.prog N_law20_awake #[] w2 fun e_1 w4 =>
        ∃ r1 : Bool, e_1 = .returned (.bool r1) ∧
        R (.bool r1) w4))
      ((bsplit (decide ((data_l : Int) > (3000 : Int)))
        ((Calls Try.prog N_law20_awake #[] w2 fun e_2 w5 =>
        ∃ r2 : Bool, e_2 = .returned (.bool r2) ∧
        R (.bool r2) w5))
        (J w2)))))))))))
theorem F_law20_SenderExact_eq (s_0 : Int) (s_1 : Int) (s_2 : Int) (s_3 : Int) (s_4 : Int) (s_5 : Int) (s_6 : Int) (s_7 : Int) (s_8_a : Option Addr) (s_8_l : Nat) (s_8_c : Nat) (s_9 : Int) (s_10 : Int) (s_11 : Int) (s_12 : Bool) (data_a : Option Addr) (data_l : Nat) (data_c : Nat) (r_0 : Int) (r_1_a : Option Addr) (r_1_l : Nat) (r_1_c : Nat) (w : World) (R : Value → World → Prop) : sxFn Try.prog TT h_law20_SenderExact Try.f6 #[(.agg #[.int .i64 s_0, .int .i64 s_1, .int .i64 s_2, .int .i64 s_3, .int .i64 s_4, .int .i64 s_5, .int .i64 s_6, .int .i64 s_7, .slice s_8_a s_8_l s_8_c, .int .i64 s_9, .int .i64 s_10, .int .i64 s_11, .bool s_12]), (.slice data_a data_l data_c), (.agg #[.int .i64 r_0, .slice r_1_a r_1_l r_1_c])] w R = F_law20_SenderExact s_0 s_1 s_2 s_3 s_4 s_5 s_6 s_7 s_8_a s_8_l s_8_c s_9 s_10 s_11 s_12 data_a data_l data_c r_0 r_1_a r_1_l r_1_c w R := by kernel_rfl
theorem F_law20_SenderExact_ok {R : Ending → World → Prop} (s_0 : Int) (s_1 : Int) (s_2 : Int) (s_3 : Int) (s_4 : Int) (s_5 : Int) (s_6 : Int) (s_7 : Int) (s_8_a : Option Addr) (s_8_l : Nat) (s_8_c : Nat) (s_9 : Int) (s_10 : Int) (s_11 : Int) (s_12 : Bool) (data_a : Option Addr) (data_l : Nat) (data_c : Nat) (r_0 : Int) (r_1_a : Option Addr) (r_1_l : Nat) (r_1_c : Nat) (w : World) (h : F_law20_SenderExact s_0 s_1 s_2 s_3 s_4 s_5 s_6 s_7 s_8_a s_8_l s_8_c s_9 s_10 s_11 s_12 data_a data_l data_c r_0 r_1_a r_1_l r_1_c w fun v w' => R (.returned v) w') : Calls Try.prog N_law20_SenderExact #[(.agg #[.int .i64 s_0, .int .i64 s_1, .int .i64 s_2, .int .i64 s_3, .int .i64 s_4, .int .i64 s_5, .int .i64 s_6, .int .i64 s_7, .slice s_8_a s_8_l s_8_c, .int .i64 s_9, .int .i64 s_10, .int .i64 s_11, .bool s_12]), (.slice data_a data_l data_c), (.agg #[.int .i64 r_0, .slice r_1_a r_1_l r_1_c])] w R :=
  calls_of (f := 6) follows_ok Try.func6 (Eq.mpr (F_law20_SenderExact_eq s_0 s_1 s_2 s_3 s_4 s_5 s_6 s_7 s_8_a s_8_l s_8_c s_9 s_10 s_11 s_12 data_a data_l data_c r_0 r_1_a r_1_l r_1_c w _) h)

def h_law20_SenderMade : H := (.seq .reg (.seq (.seq .reg (.cond (.seq .reg .leaf) .leaf)) (.seq .reg (.seq .reg (.seq .reg (.cut [] [22, 23, 24, 25, 26, 27, 28] (.seq .reg (.cond .reg .leaf)) (.cut [] [6, 7, 8, 9, 29, 30, 31, 32, 33, 34, 35, 36, 37, 38, 39, 40, 41, 42, 43, 44, 45, 46, 47, 48, 49, 50, 51, 52, 53, 54, 55, 56, 57, 58, 59, 60, 61, 62, 63, 64, 65, 66, 67, 68, 69, 70, 71, 72, 73, 74, 75, 76, 77, 78, 79, 80, 81, 82, 83, 84, 85, 86, 87, 88, 89, 90, 91, 92, 93, 94, 95, 96, 97, 98, 99, 100, 101, 102, 103, 104, 105, 106, 107, 108, 109, 110, 111, 112, 113, 114, 115, 116, 117, 118, 119, 120, 121, 122, 123, 124, 125, 126, 127, 128, 129, 130] (.seq .reg (.cond (.seq .reg (.block (.seq .reg (.cond .reg (.seq .reg (.cond (.draw .blk (.one 0 .pur (.one 1 .stable (.one 2 .pur (.one 3 .keep (.one 4 .pur (.one 5 .pur (.one 6 .pur (.one 7 .last .nil))))))))) (.seq .reg (.cond (.draw .blk (.one 0 .pur (.one 1 .stable (.one 2 .pur (.one 3 .keep (.one 4 .pur (.one 5 .pur (.one 6 .pur (.one 7 .last .nil))))))))) (.seq .reg (.cond .reg (.seq .reg (.cond .reg (.seq .reg (.cond .reg (.seq .reg (.cond .reg (.seq .reg (.cond (.seq .reg (.seq .reg (.cond (.seq (.draw .blk (.one 0 .pur (.one 1 .stable (.one 2 .pur (.one 3 .pur (.one 4 .keep (.one 5 .pur (.one 6 .pur .nil)))))))) (.draw .blk (.one 0 .pur (.one 1 .pur (.one 2 .pur (.one 3 .stable (.one 4 .pur (.one 5 .keep (.one 6 .pur (.one 7 .pur (.one 8 .pur (.one 9 .pur (.one 10 .last .nil))))))))))))) .leaf))) (.seq .reg (.seq .reg (.cond (.seq (.draw .blk (.one 0 .pur (.one 1 .stable (.one 2 .pur (.one 3 .pur (.one 4 .keep (.one 5 .pur (.one 6 .pur .nil)))))))) (.draw .blk (.one 0 .pur (.one 1 .pur (.one 2 .pur (.one 3 .pur (.one 4 .stable (.one 5 .pur (.one 6 .pur (.one 7 .pur (.one 8 .stable (.one 9 .pur (.one 11 .pur (.one 10 .keep (.one 12 .keep (.one 13 .keep (.one 14 .keep (.one 15 .last (.one 16 .pur (.one 17 .pur (.one 18 .last .nil))))))))))))))))))))) .leaf))))))))))))))))))))) .leaf)) (.seq .reg (.seq (.seq .reg (.cond .reg .leaf)) (.seq (.draw .blk (.one 0 .keep (.one 1 .pur (.one 2 .stable (.one 3 .pur (.one 4 .pur (.one 7 .stable (.one 5 .keep (.one 6 .pur (.one 8 .last (.one 9 .pur (.one 10 .pur .nil)))))))))))) .leaf))))))))))
def F_law20_SenderMade (t_a : Option Addr) (t_l : Nat) (t_c : Nat) (w : World) (R : Value → World → Prop) : Prop :=
  (Calls Try.prog N_made_Light #[(.slice t_a t_l t_c)] w fun e_ w1 =>
  ∃ r : Bool, e_ = .returned (.bool r) ∧
  (bsplit (!r)
    ((Calls Try.prog N_law20_awake #[] w1 fun e_1 w2 =>
    ∃ r1 : Bool, e_1 = .returned (.bool r1) ∧
    R (.bool r1) w2))
    ((Calls Try.prog N_made_Roll #[(.slice t_a t_l t_c)] w1 fun e_2 w3 =>
    ∃ r2 : Option Addr, e_2 = .returned (.pointer r2) ∧
    (Calls Try.prog N_law20_random #[(.pointer r2)] w3 fun e_3 w4 =>
    ∃ r_0 r_1 r_2 r_3 r_4 r_5 r_6 r_7 : Int, ∃ r_8_a : Option Addr, ∃ r_8_l r_8_c : Nat, ∃ r_9 r_10 r_11 : Int, ∃ r_12 : Bool, e_3 = .returned (.agg #[.int .i64 r_0, .int .i64 r_1, .int .i64 r_2, .int .i64 r_3, .int .i64 r_4, .int .i64 r_5, .int .i64 r_6, .int .i64 r_7, .slice r_8_a r_8_l r_8_c, .int .i64 r_9, .int .i64 r_10, .int .i64 r_11, .bool r_12]) ∧
    (kAlloc w4 #[.int .i64 (0 : Int), .int .i64 (0 : Int), .int .i64 (0 : Int), .int .i64 (0 : Int), .int .i64 (0 : Int), .int .i64 (0 : Int), .int .i64 (0 : Int), .int .i64 (0 : Int), .slice none 0 0, .int .i64 (0 : Int), .int .i64 (0 : Int), .int .i64 (0 : Int), .bool false] Ty_api_Sender fun b w5 =>
    (sxStore w5 ⟨b, 0, none⟩ 0 [(.int .i64 r_0), (.int .i64 r_1), (.int .i64 r_2), (.int .i64 r_3), (.int .i64 r_4), (.int .i64 r_5), (.int .i64 r_6), (.int .i64 r_7), (.slice r_8_a r_8_l r_8_c), (.int .i64 r_9), (.int .i64 r_10), (.int .i64 r_11), (.bool r_12)] fun w6 =>
    (∃ x_0 x_1 x_2 x_3 x_4 x_5 x_6 x_7 : Int, ∃ x_8_a : Option Addr, ∃ x_8_l x_8_c : Nat, ∃ x_9 x_10 x_11 : Int, ∃ x_12 : Bool, cellsAt w6 ⟨b, 0, none⟩ 0 [(.int .i64 x_0), (.int .i64 x_1), (.int .i64 x_2), (.int .i64 x_3), (.int .i64 x_4), (.int .i64 x_5), (.int .i64 x_6), (.int .i64 x_7), (.slice x_8_a x_8_l x_8_c), (.int .i64 x_9), (.int .i64 x_10), (.int .i64 x_11), (.bool x_12)] ∧
    (Calls Try.prog N_law20_report #[(.pointer r2), (.agg #[.int .i64 x_0, .int .i64 x_1, .int .i64 x_2, .int .i64 x_3, .int .i64 x_4, .int .i64 x_5, .int .i64 x_6, .int .i64 x_7, .slice x_8_a x_8_l x_8_c, .int .i64 x_9, .int .i64 x_10, .int .i64 x_11, .bool x_12])] w6 fun e_4 w7 =>
    ∃ r_01 : Int, ∃ r_1_a : Option Addr, ∃ r_1_l r_1_c : Nat, e_4 = .returned (.agg #[.int .i64 r_01, .slice r_1_a r_1_l r_1_c]) ∧
    (kAlloc w7 #[.int .i64 (0 : Int), .slice none 0 0] Ty_api_Status fun b1 w8 =>
    (sxStore w8 ⟨b1, 0, none⟩ 0 [(.int .i64 r_01), (.slice r_1_a r_1_l r_1_c)] fun w9 =>
    (∃ J : World → Prop,
    (∀ (_junk : Env)  (w13 : World), J w13 →
      (∃ J1 : World → Prop,
      (∀ (_junk : Env)  (w44 : World), J1 w44 →
        (Calls Try.prog N_made_Dice_Bytes #[(.pointer r2), (.int .i64 (9 : Int))] w44 fun e_20 w45 =>
        ∃ r_a : Option Addr, ∃ r_l r_c : Nat, e_20 = .returned (.slice r_a r_l r_c) ∧
        (Calls Try.prog N_made_Dice_One #[(.pointer r2), (.int .i64 (8 : Int))] w45 fun e_21 w46 =>
        ∃ r16 : Bool, e_21 = .returned (.bool r16) ∧
        (bsplit r16
          ((Calls Try.prog N_made_Dice_Next #[(.pointer r2), (.int .i64 (3 : Int))] w46 fun e_22 w47 =>
          ∃ r17 : Int, e_22 = .returned (.int .i64 r17) ∧
          (kW .i64 ((2053 : Int) + r17) fun x22 =>
          (Calls Try.prog N_made_Filled #[(.int .i64 x22), (.int .i64 (1 : Int))] w47 fun e_23 w48 =>
          ∃ r_a1 : Option Addr, ∃ r_l1 r_c1 : Nat, e_23 = .returned (.slice r_a1 r_l1 r_c1) ∧
          (kDrew w48 fun w49 =>
          (∃ S6 : Nat → Prop,
          (Calls Try.prog N_law20_awake #[] w49 fun e_24 w50 =>
          ∃ r18 : Bool, e_24 = .returned (.bool r18) ∧
          (KeepsB S6 w49 w50 ∧ (bsplit r18
            ((S6 b ∧
            (∃ x_02 x_14 x_22 x_32 x_42 x_52 x_61 x_71 : Int, ∃ x_8_a1 : Option Addr, ∃ x_8_l1 x_8_c1 : Nat, ∃ x_91 x_101 x_111 : Int, ∃ x_121 : Bool, cellsAt w49 ⟨b, 0, none⟩ 0 [(.int .i64 x_02), (.int .i64 x_14), (.int .i64 x_22), (.int .i64 x_32), (.int .i64 x_42), (.int .i64 x_52), (.int .i64 x_61), (.int .i64 x_71), (.slice x_8_a1 x_8_l1 x_8_c1), (.int .i64 x_91), (.int .i64 x_101), (.int .i64 x_111), (.bool x_121)] ∧
            (S6 b1 ∧
            (∃ x_03 : Int, ∃ x_1_a : Option Addr, ∃ x_1_l x_1_c : Nat, cellsAt w49 ⟨b1, 0, none⟩ 0 [(.int .i64 x_03), (.slice x_1_a x_1_l x_1_c)] ∧
            (Calls Try.prog N_made_Dice_Next #[(.pointer r2), (.int .i64 (20 : Int))] w50 fun e_25 w51 =>
            ∃ r19 : Int, e_25 = .returned (.int .i64 r19) ∧
            (KeepsB S6 w49 w51 ∧ (kW .i64 (r19 - (1 : Int)) fun x23 =>
            (Calls Try.prog N_law20_agree #[(.agg #[.int .i64 x_02, .int .i64 x_14, .int .i64 x_22, .int .i64 x_32, .int .i64 x_42, .int .i64 x_52, .int .i64 x_61, .int .i64 x_71, .slice x_8_a1 x_8_l1 x_8_c1, .int .i64 x_91, .int .i64 x_101, .int .i64 x_111, .bool x_121]), (.slice r_a1 r_l1 r_c1), (.int .i64 x23), (.agg #[.int .i64 x_03, .slice x_1_a x_1_l x_1_c])] w51 fun e_26 w52 =>
            ∃ r20 : Bool, e_26 = .returned (.bool r20) ∧
            R (.bool r20) w52)))))))))
            (R (.bool false) w50))))))))))
          ((kDrew w46 fun w53 =>
          (∃ S7 : Nat → Prop,
          (Calls Try.prog N_law20_awake #[] w53 fun e_27 w54 =>
          ∃ r21 : Bool, e_27 = .returned (.bool r21) ∧
          (KeepsB S7 w53 w54 ∧ (bsplit r21
            ((S7 b ∧
            (∃ x_04 x_15 x_23 x_33 x_43 x_53 x_62 x_72 : Int, ∃ x_8_a2 : Option Addr, ∃ x_8_l2 x_8_c2 : Nat, ∃ x_92 x_102 x_112 : Int, ∃ x_122 : Bool, cellsAt w53 ⟨b, 0, none⟩ 0 [(.int .i64 x_04), (.int .i64 x_15), (.int .i64 x_23), (.int .i64 x_33), (.int .i64 x_43), (.int .i64 x_53), (.int .i64 x_62), (.int .i64 x_72), (.slice x_8_a2 x_8_l2 x_8_c2), (.int .i64 x_92), (.int .i64 x_102), (.int .i64 x_112), (.bool x_122)] ∧
            (S7 b1 ∧
            (∃ x_05 : Int, ∃ x_1_a1 : Option Addr, ∃ x_1_l1 x_1_c1 : Nat, cellsAt w53 ⟨b1, 0, none⟩ 0 [(.int .i64 x_05), (.slice x_1_a1 x_1_l1 x_1_c1)] ∧
            (Calls Try.prog N_made_Dice_Next #[(.pointer r2), (.int .i64 (20 : Int))] w54 fun e_28 w55 =>
            ∃ r22 : Int, e_28 = .returned (.int .i64 r22) ∧
            (KeepsB S7 w53 w55 ∧ (kW .i64 (r22 - (1 : Int)) fun x24 =>
            (Calls Try.prog N_law20_agree #[(.agg #[.int .i64 x_04, .int .i64 x_15, .int .i64 x_23, .int .i64 x_33, .int .i64 x_43, .int .i64 x_53, .int .i64 x_62, .int .i64 x_72, .slice x_8_a2 x_8_l2 x_8_c2, .int .i64 x_92, .int .i64 x_102, .int .i64 x_112, .bool x_122]), (.slice r_a r_l r_c), (.int .i64 x24), (.agg #[.int .i64 x_05, .slice x_1_a1 x_1_l1 x_1_c1])] w55 fun e_29 w56 =>
            ∃ r23 : Bool, e_29 = .returned (.bool r23) ∧
            R (.bool r23) w56)))))))))
            (R (.bool false) w54))))))))))) ∧
      (Calls Try.prog N_made_Dice_One #[(.pointer r2), (.int .i64 (3 : Int))] w13 fun e_7 w14 =>
      ∃ r4 : Bool, e_7 = .returned (.bool r4) ∧
      (bsplit r4
        ((Calls Try.prog N_made_Dice_Next #[(.pointer r2), (.int .i64 (9 : Int))] w14 fun e_8 w15 =>
        ∃ r5 : Int, e_8 = .returned (.int .i64 r5) ∧
        (kLet (decide (r5 = (0 : Int))) fun x1 =>
        (bsplit x1
          ((∃ x_01 x_13 x_21 x_31 x_41 x_51 : Int, cellsAt w15 ⟨b, 0, none⟩ 0 [(.int .i64 x_01), (.int .i64 x_13), (.int .i64 x_21), (.int .i64 x_31), (.int .i64 x_41), (.int .i64 x_51)] ∧
          (Calls Try.prog N_made_Dice_OddLink #[(.pointer r2), (.agg #[.int .i64 x_01, .int .i64 x_13, .int .i64 x_21, .int .i64 x_31, .int .i64 x_41, .int .i64 x_51])] w15 fun e_9 w16 =>
          ∃ r_03 r_13 r_21 r_31 r_41 r_51 : Int, e_9 = .returned (.agg #[.int .i64 r_03, .int .i64 r_13, .int .i64 r_21, .int .i64 r_31, .int .i64 r_41, .int .i64 r_51]) ∧
          (sxStore w16 ⟨b, 0, none⟩ 0 [(.int .i64 r_03), (.int .i64 r_13), (.int .i64 r_21), (.int .i64 r_31), (.int .i64 r_41), (.int .i64 r_51)] fun w17 =>
          J1 w17))))
          ((kLet (decide (r5 = (1 : Int))) fun x2 =>
          (bsplit x2
            ((kDrew w15 fun w18 =>
            (∃ S : Nat → Prop,
            (S b ∧
            (kLd w18 ⟨b, 6, none⟩ .i64 fun x3 =>
            (Calls Try.prog N_made_Dice_Next #[(.pointer r2), (.int .i64 (3 : Int))] w18 fun e_10 w19 =>
            ∃ r6 : Int, e_10 = .returned (.int .i64 r6) ∧
            (KeepsB S w18 w19 ∧ (kW .i64 (r6 - (1 : Int)) fun x4 =>
            (kW .i64 (x3 + x4) fun x5 =>
            (kSet w19 ⟨b, 6, none⟩ (.int .i64 x5) fun w20 =>
            J1 w20))))))))))
            ((kLet (decide (r5 = (2 : Int))) fun x6 =>
            (bsplit x6
              ((kDrew w15 fun w21 =>
              (∃ S1 : Nat → Prop,
              (S1 b ∧
              (kLd w21 ⟨b, 7, none⟩ .i64 fun x7 =>
              (Calls Try.prog N_made_Dice_Next #[(.pointer r2), (.int .i64 (3 : Int))] w21 fun e_11 w22 =>
              ∃ r7 : Int, e_11 = .returned (.int .i64 r7) ∧
              (KeepsB S1 w21 w22 ∧ (kW .i64 (r7 - (1 : Int)) fun x8 =>
              (kW .i64 (x7 + x8) fun x9 =>
              (kSet w22 ⟨b, 7, none⟩ (.int .i64 x9) fun w23 =>
              J1 w23))))))))))
              ((kLet (decide (r5 = (3 : Int))) fun x10 =>
              (bsplit x10
                ((Calls Try.prog N_made_Dice_Next #[(.pointer r2), (.int .i64 (34 : Int))] w15 fun e_12 w24 =>
                ∃ r8 : Int, e_12 = .returned (.int .i64 r8) ∧
                (kW .i64 (r8 - (2 : Int)) fun x11 =>
                (kSet w24 ⟨b, 10, none⟩ (.int .i64 x11) fun w25 =>
                J1 w25))))
                ((kLet (decide (r5 = (4 : Int))) fun x12 =>
                (bsplit x12
                  ((Calls Try.prog N_made_Dice_Next #[(.pointer r2), (.int .i64 (8 : Int))] w15 fun e_13 w26 =>
                  ∃ r9 : Int, e_13 = .returned (.int .i64 r9) ∧
                  (kW .i64 (r9 - (1 : Int)) fun x13 =>
                  (kSet w26 ⟨b, 11, none⟩ (.int .i64 x13) fun w27 =>
                  J1 w27))))
                  ((kLet (decide (r5 = (5 : Int))) fun x14 =>
                  (bsplit x14
                    ((Calls Try.prog N_made_Dice_Next #[(.pointer r2), (.int .i64 (8 : Int))] w15 fun e_14 w28 =>
                    ∃ r10 : Int, e_14 = .returned (.int .i64 r10) ∧
                    (kW .i64 (r10 - (1 : Int)) fun x15 =>
                    (kSet w28 ⟨b, 9, none⟩ (.int .i64 x15) fun w29 =>
                    J1 w29))))
                    ((kLet (decide (r5 = (6 : Int))) fun x16 =>
                    (bsplit x16
                      ((kSet w15 ⟨b, 12, none⟩ (.bool true) fun w30 =>
                      J1 w30))
                      ((kLet (decide (r5 = (7 : Int))) fun x17 =>
                      (bsplit x17
                        ((kLdS w15 ⟨b, 8, none⟩ fun _ x_l _ =>
                        (bsplit (decide ((x_l : Int) > (0 : Int)))
                          ((kDrew w15 fun w31 =>
                          (∃ S2 : Nat → Prop,
                          (S2 b ∧
                          (kLdS w31 ⟨b, 8, none⟩ fun x_a1 x_l1 _ =>
                          (Calls Try.prog N_made_Dice_Next #[(.pointer r2), (.int .i64 (x_l : Int))] w31 fun e_15 w32 =>
                          ∃ r11 : Int, e_15 = .returned (.int .i64 r11) ∧
                          (KeepsB S2 w31 w32 ∧ (kIx x_a1 x_l1 r11 fun b2 =>
                          (kDrew w32 fun w33 =>
                          (∃ S3 : Nat → Prop,
                          (S3 ((b2.add (r11.toNat * 5)).add 2).block ∧
                          (kLd w33 ((b2.add (r11.toNat * 5)).add 2) .i64 fun x18 =>
                          (Calls Try.prog N_made_Dice_Next #[(.pointer r2), (.int .i64 (3 : Int))] w33 fun e_16 w34 =>
                          ∃ r12 : Int, e_16 = .returned (.int .i64 r12) ∧
                          (KeepsB S3 w33 w34 ∧ (kW .i64 (r12 - (1 : Int)) fun x19 =>
                          (kW .i64 (x18 + x19) fun x20 =>
                          (kSet w34 ((b2.add (r11.toNat * 5)).add 2) (.int .i64 x20) fun w35 =>
                          J1 w35)))))))))))))))))
                          (J1 w15))))
                        ((kLdS w15 ⟨b, 8, none⟩ fun _ x_l2 _ =>
                        (bsplit (decide ((x_l2 : Int) > (0 : Int)))
                          ((kDrew w15 fun w36 =>
                          (∃ S4 : Nat → Prop,
                          (S4 b ∧
                          (kLdS w36 ⟨b, 8, none⟩ fun x_a3 x_l3 _ =>
                          (Calls Try.prog N_made_Dice_Next #[(.pointer r2), (.int .i64 (x_l2 : Int))] w36 fun e_17 w37 =>
                          ∃ r13 : Int, e_17 = .returned (.int .i64 r13) ∧
                          (KeepsB S4 w36 w37 ∧ (kIx x_a3 x_l3 r13 fun b3 =>
                          (kDrew w37 fun w38 =>
                          (∃ S5 : Nat → Prop,
                          (S5 ((b3.add (r13.toNat * 5)).add 4).block ∧
                          (kLdS w38 ((b3.add (r13.toNat * 5)).add 4) fun x_a4 x_l4 x_c4 =>
                          (S5 (b3.add (r13.toNat * 5)).block ∧
                          (kLd w38 (b3.add (r13.toNat * 5)) .i64 fun x21 =>
                          (Calls Try.prog N_made_Dice_Next #[(.pointer r2), (.int .i64 (5 : Int))] w38 fun e_18 w39 =>
                          ∃ r14 : Int, e_18 = .returned (.int .i64 r14) ∧
                          (KeepsB S5 w38 w39 ∧ (Calls Try.prog N_made_Dice_Next #[(.pointer r2), (.int .i64 (8 : Int))] w39 fun e_19 w40 =>
                          ∃ r15 : Int, e_19 = .returned (.int .i64 r15) ∧
                          (KeepsB S5 w38 w40 ∧ (KeepsB S5 w38 w40 ∧ (kAlloc w40 #[(.int .i64 x21), (.int .i64 r14), (.int .i64 r15)] Ty_api_Range fun b4 w41 =>
                          (KeepsB S5 w38 w41 ∧ (AppP Try.prog #[Ty_S_api_Range, Ty_S_api_Range] Ty_S_api_Range #[(.slice x_a4 x_l4 x_c4), (.slice (some ⟨b4, 0, none⟩) 1 1)] w41 fun x_a5 x_l5 x_c5 w42 =>
                          (kSet w42 ((b3.add (r13.toNat * 5)).add 4) (.slice x_a5 x_l5 x_c5) fun w43 =>
                          J1 w43)))))))))))))))))))))))
                          (J1 w15)))))))))))))))))))))))))))))
        (J1 w14))))) ∧
    (Calls Try.prog N_made_Dice_One #[(.pointer r2), (.int .i64 (4 : Int))] w9 fun e_5 w10 =>
    ∃ r3 : Bool, e_5 = .returned (.bool r3) ∧
    (bsplit r3
      ((kLd w10 ⟨b, 0, none⟩ .i64 fun x =>
      (Calls Try.prog N_made_Dice_Status #[(.pointer r2), (.int .i64 x)] w10 fun e_6 w11 =>
      ∃ r_02 : Int, ∃ r_1_a1 : Option Addr, ∃ r_1_l1 r_1_c1 : Nat, e_6 = .returned (.agg #[.int .i64 r_02, .slice r_1_a1 r_1_l1 r_1_c1]) ∧
      (sxStore w11 ⟨b1, 0, none⟩ 0 [(.int .i64 r_02), (.slice r_1_a1 r_1_l1 r_1_c1)] fun w12 =>
      J w12))))
      (J w10)))))))))))))))
theorem F_law20_SenderMade_eq (t_a : Option Addr) (t_l : Nat) (t_c : Nat) (w : World) (R : Value → World → Prop) : sxFn Try.prog TT h_law20_SenderMade Try.f7 #[(.slice t_a t_l t_c)] w R = F_law20_SenderMade t_a t_l t_c w R := by kernel_rfl
theorem F_law20_SenderMade_ok {R : Ending → World → Prop} (t_a : Option Addr) (t_l : Nat) (t_c : Nat) (w : World) (h : F_law20_SenderMade t_a t_l t_c w fun v w' => R (.returned v) w') : Calls Try.prog N_law20_SenderMade #[(.slice t_a t_l t_c)] w R :=
  calls_of (f := 7) follows_ok Try.func7 (Eq.mpr (F_law20_SenderMade_eq t_a t_l t_c w _) h)

def h_law20_SenderStays : H := (.seq .reg (.seq (.seq .reg (.cond (.seq .reg .leaf) .leaf)) (.seq .reg (.seq .reg (.cut [] [2, 20, 21, 22, 23, 24, 25] (.seq .reg (.cond (.seq .reg .leaf) .leaf)) (.seq (.seq .reg (.block (.loop [(6, .p (.int .i64))] [2, 5, 6, 7, 28, 29, 30, 31, 32, 33, 34, 35, 36, 37, 38, 39, 40, 41, 42, 43, 44, 45, 46, 47, 48, 49, 50, 51, 52, 53, 54, 55, 56, 57, 58, 59, 60, 61, 62, 63, 64, 65, 66, 67, 68, 69, 70, 71, 72, 73, 74, 75, 76, 77] (.seq (.seq .reg (.cond .leaf .leaf)) (.seq (.block (.seq .reg (.cut [(5, .p (.int .i64))] [5, 33, 34, 35, 36, 37, 38, 39, 40, 41, 42, 43, 44, 45, 46, 47, 48, 49, 50, 51, 52, 53, 54, 55, 56, 57, 58, 59, 60, 61, 62, 63, 64, 65, 66, 67, 68, 69, 70, 71] (.seq .reg (.block (.cut [(40, .p .bool)] [40, 41, 42] (.seq .reg (.cond .leaf .reg)) (.cond (.draw .blk (.one 0 .stable (.one 1 .pur (.one 2 .keep (.one 3 .last (.one 4 .pur (.one 5 .pur (.one 6 .pur (.one 7 .last (.one 8 .pur .nil)))))))))) (.cut [(50, .p .bool)] [50, 51, 52] (.seq .reg (.cond .leaf .reg)) (.cond (.draw .blk (.one 0 .stable (.one 1 .pur (.one 2 .keep (.one 3 .pur (.one 4 .last (.one 5 .pur (.one 6 .pur (.one 7 .pur (.one 8 .pur (.one 9 .last (.one 10 .pur .nil)))))))))))) (.seq .reg (.cond (.draw .blk (.one 0 .stable (.one 1 .pur (.one 2 .pre (.one 3 .keep (.one 4 .last (.one 5 .pur (.one 6 .pur (.one 7 .pur (.one 8 .last (.one 9 .pur .nil))))))))))) .reg)))))))) (.seq (.seq .reg (.cond .leaf .leaf)) (.seq .reg (.seq .reg (.cond (.seq .reg .leaf) .leaf))))))) .reg))))) (.seq (.seq .reg (.cond (.seq .reg .leaf) .leaf)) (.seq .reg .leaf))))))))
def F_law20_SenderStays (t_a : Option Addr) (t_l : Nat) (t_c : Nat) (w : World) (R : Value → World → Prop) : Prop :=
  (Calls Try.prog N_made_Light #[(.slice t_a t_l t_c)] w fun e_ w1 =>
  ∃ r : Bool, e_ = .returned (.bool r) ∧
  (bsplit (!r)
    ((Calls Try.prog N_law20_awake #[] w1 fun e_1 w2 =>
    ∃ r1 : Bool, e_1 = .returned (.bool r1) ∧
    R (.bool r1) w2))
    ((Calls Try.prog N_made_Roll #[(.slice t_a t_l t_c)] w1 fun e_2 w3 =>
    ∃ r2 : Option Addr, e_2 = .returned (.pointer r2) ∧
    (Calls Try.prog N_made_Dice_Link #[(.pointer r2)] w3 fun e_3 w4 =>
    ∃ r_0 r_1 r_2 r_3 r_4 r_5 : Int, e_3 = .returned (.agg #[.int .i64 r_0, .int .i64 r_1, .int .i64 r_2, .int .i64 r_3, .int .i64 r_4, .int .i64 r_5]) ∧
    (Calls Try.prog N_sender_New #[(.agg #[.int .i64 r_0, .int .i64 r_1, .int .i64 r_2, .int .i64 r_3, .int .i64 r_4, .int .i64 r_5])] w4 fun e_4 w5 =>
    ∃ r_01 r_11 r_21 r_31 r_41 r_51 r_6 r_7 : Int, ∃ r_8_a : Option Addr, ∃ r_8_l r_8_c : Nat, ∃ r_9 r_10 r_111 : Int, ∃ r_12 : Bool, ∃ r3 : Int, e_4 = .returned (.tuple #[(.agg #[.int .i64 r_01, .int .i64 r_11, .int .i64 r_21, .int .i64 r_31, .int .i64 r_41, .int .i64 r_51, .int .i64 r_6, .int .i64 r_7, .slice r_8_a r_8_l r_8_c, .int .i64 r_9, .int .i64 r_10, .int .i64 r_111, .bool r_12]), (.int .i64 r3)]) ∧
    (kAlloc w5 #[.int .i64 (0 : Int), .int .i64 (0 : Int), .int .i64 (0 : Int), .int .i64 (0 : Int), .int .i64 (0 : Int), .int .i64 (0 : Int), .int .i64 (0 : Int), .int .i64 (0 : Int), .slice none 0 0, .int .i64 (0 : Int), .int .i64 (0 : Int), .int .i64 (0 : Int), .bool false] Ty_api_Sender fun b w6 =>
    (sxStore w6 ⟨b, 0, none⟩ 0 [(.int .i64 r_01), (.int .i64 r_11), (.int .i64 r_21), (.int .i64 r_31), (.int .i64 r_41), (.int .i64 r_51), (.int .i64 r_6), (.int .i64 r_7), (.slice r_8_a r_8_l r_8_c), (.int .i64 r_9), (.int .i64 r_10), (.int .i64 r_111), (.bool r_12)] fun w7 =>
    (∃ J : World → Prop,
    (∀ (_junk : Env)  (w9 : World), J w9 →
      (Calls Try.prog N_made_Dice_Next #[(.pointer r2), (.int .i64 (70 : Int))] w9 fun e_6 w10 =>
      ∃ r5 : Int, e_6 = .returned (.int .i64 r5) ∧
      (∃ I : Int → Nat × (World → Prop), (I r5).2 w10 ∧
      (∀ (_junk : Env) (n : Int) (w11 : World), (I n).2 w11 →
        (bsplit (decide (n > (0 : Int)))
          ((∃ x_0 x_1 x_2 x_3 x_4 x_5 x_6 x_7 : Int, ∃ x_8_a : Option Addr, ∃ x_8_l x_8_c : Nat, ∃ x_9 x_10 x_11 : Int, ∃ x_12 : Bool, cellsAt w11 ⟨b, 0, none⟩ 0 [(.int .i64 x_0), (.int .i64 x_1), (.int .i64 x_2), (.int .i64 x_3), (.int .i64 x_4), (.int .i64 x_5), (.int .i64 x_6), (.int .i64 x_7), (.slice x_8_a x_8_l x_8_c), (.int .i64 x_9), (.int .i64 x_10), (.int .i64 x_11), (.bool x_12)] ∧
          (kAlloc w11 #[.int .i64 (0 : Int), .int .i64 (0 : Int), .int .i64 (0 : Int), .int .i64 (0 : Int), .int .i64 (0 : Int), .int .i64 (0 : Int), .int .i64 (0 : Int), .int .i64 (0 : Int), .slice none 0 0, .int .i64 (0 : Int), .int .i64 (0 : Int), .int .i64 (0 : Int), .bool false] Ty_api_Sender fun b1 w12 =>
          (sxStore w12 ⟨b1, 0, none⟩ 0 [(.int .i64 x_0), (.int .i64 x_1), (.int .i64 x_2), (.int .i64 x_3), (.int .i64 x_4), (.int .i64 x_5), (.int .i64 x_6), (.int .i64 x_7), (.slice x_8_a x_8_l x_8_c), (.int .i64 x_9), (.int .i64 x_10), (.int .i64 x_11), (.bool x_12)] fun w13 =>
          (∃ J1 : Int → World → Prop,
          (∀ (_junk : Env) (e1 : Int) (w31 : World), J1 e1 w31 →
            (bsplit (!decide (e1 = (0 : Int)))
              ((kW .i64 (n - (1 : Int)) fun x8 =>
              ((I x8).2 w31 ∧ (I x8).1 < (I n).1)))
              ((∃ x_06 x_18 x_26 x_36 x_46 x_56 x_66 x_76 : Int, ∃ x_8_a6 : Option Addr, ∃ x_8_l6 x_8_c6 : Nat, ∃ x_96 x_106 x_116 : Int, ∃ x_126 : Bool, cellsAt w31 ⟨b1, 0, none⟩ 0 [(.int .i64 x_06), (.int .i64 x_18), (.int .i64 x_26), (.int .i64 x_36), (.int .i64 x_46), (.int .i64 x_56), (.int .i64 x_66), (.int .i64 x_76), (.slice x_8_a6 x_8_l6 x_8_c6), (.int .i64 x_96), (.int .i64 x_106), (.int .i64 x_116), (.bool x_126)] ∧
              (sxStore w31 ⟨b, 0, none⟩ 0 [(.int .i64 x_06), (.int .i64 x_18), (.int .i64 x_26), (.int .i64 x_36), (.int .i64 x_46), (.int .i64 x_56), (.int .i64 x_66), (.int .i64 x_76), (.slice x_8_a6 x_8_l6 x_8_c6), (.int .i64 x_96), (.int .i64 x_106), (.int .i64 x_116), (.bool x_126)] fun w32 =>
              (∃ x_07 x_19 x_27 x_37 x_47 x_57 x_67 x_77 : Int, ∃ x_8_a7 : Option Addr, ∃ x_8_l7 x_8_c7 : Nat, ∃ x_97 x_107 x_117 : Int, ∃ x_127 : Bool, cellsAt w32 ⟨b, 0, none⟩ 0 [(.int .i64 x_07), (.int .i64 x_19), (.int .i64 x_27), (.int .i64 x_37), (.int .i64 x_47), (.int .i64 x_57), (.int .i64 x_67), (.int .i64 x_77), (.slice x_8_a7 x_8_l7 x_8_c7), (.int .i64 x_97), (.int .i64 x_107), (.int .i64 x_117), (.bool x_127)] ∧
              (Calls Try.prog N_sender_Valid #[(.agg #[.int .i64 x_07, .int .i64 x_19, .int .i64 x_27, .int .i64 x_37, .int .i64 x_47, .int .i64 x_57, .int .i64 x_67, .int .i64 x_77, .slice x_8_a7 x_8_l7 x_8_c7, .int .i64 x_97, .int .i64 x_107, .int .i64 x_117, .bool x_127])] w32 fun e_15 w33 =>
              ∃ r12 : Bool, e_15 = .returned (.bool r12) ∧
              (bsplit (!r12)
                (R (.bool false) w33)
                ((kW .i64 (n - (1 : Int)) fun x9 =>
                ((I x9).2 w33 ∧ (I x9).1 < (I n).1))))))))))) ∧
          (Calls Try.prog N_made_Dice_Next #[(.pointer r2), (.int .i64 (6 : Int))] w13 fun e_7 w14 =>
          ∃ r6 : Int, e_7 = .returned (.int .i64 r6) ∧
          (∃ J2 : Bool → World → Prop,
          (∀ (_junk : Env) (x2 : Bool) (w15 : World), J2 x2 w15 →
            (bsplit x2
              ((kDrew w15 fun w16 =>
              (∃ S : Nat → Prop,
              (S b ∧
              (∃ x_01 x_13 x_21 x_31 x_41 x_51 x_61 x_71 : Int, ∃ x_8_a1 : Option Addr, ∃ x_8_l1 x_8_c1 : Nat, ∃ x_91 x_101 x_111 : Int, ∃ x_121 : Bool, cellsAt w16 ⟨b, 0, none⟩ 0 [(.int .i64 x_01), (.int .i64 x_13), (.int .i64 x_21), (.int .i64 x_31), (.int .i64 x_41), (.int .i64 x_51), (.int .i64 x_61), (.int .i64 x_71), (.slice x_8_a1 x_8_l1 x_8_c1), (.int .i64 x_91), (.int .i64 x_101), (.int .i64 x_111), (.bool x_121)] ∧
              (Calls Try.prog N_made_Dice_Some #[(.pointer r2), (.int .i64 (14 : Int))] w16 fun e_8 w17 =>
              ∃ r_a : Option Addr, ∃ r_l r_c : Nat, e_8 = .returned (.slice r_a r_l r_c) ∧
              (KeepsB S w16 w17 ∧ (Calls Try.prog N_sender_Submit #[(.agg #[.int .i64 x_01, .int .i64 x_13, .int .i64 x_21, .int .i64 x_31, .int .i64 x_41, .int .i64 x_51, .int .i64 x_61, .int .i64 x_71, .slice x_8_a1 x_8_l1 x_8_c1, .int .i64 x_91, .int .i64 x_101, .int .i64 x_111, .bool x_121]), (.slice r_a r_l r_c)] w17 fun e_9 w18 =>
              ∃ r_02 r_13 r_22 r_32 r_42 r_52 r_61 r_71 : Int, ∃ r_8_a1 : Option Addr, ∃ r_8_l1 r_8_c1 : Nat, ∃ r_91 r_101 r_112 : Int, ∃ r_121 : Bool, ∃ r7 : Int, e_9 = .returned (.tuple #[(.agg #[.int .i64 r_02, .int .i64 r_13, .int .i64 r_22, .int .i64 r_32, .int .i64 r_42, .int .i64 r_52, .int .i64 r_61, .int .i64 r_71, .slice r_8_a1 r_8_l1 r_8_c1, .int .i64 r_91, .int .i64 r_101, .int .i64 r_112, .bool r_121]), (.int .i64 r7)]) ∧
              (sxStore w18 ⟨b1, 0, none⟩ 0 [(.int .i64 r_02), (.int .i64 r_13), (.int .i64 r_22), (.int .i64 r_32), (.int .i64 r_42), (.int .i64 r_52), (.int .i64 r_61), (.int .i64 r_71), (.slice r_8_a1 r_8_l1 r_8_c1), (.int .i64 r_91), (.int .i64 r_101), (.int .i64 r_112), (.bool r_121)] fun w19 =>
              J1 r7 w19)))))))))
              ((∃ J3 : Bool → World → Prop,
              (∀ (_junk : Env) (x5 : Bool) (w20 : World), J3 x5 w20 →
                (bsplit x5
                  ((kDrew w20 fun w21 =>
                  (∃ S1 : Nat → Prop,
                  (S1 b ∧
                  (∃ x_02 x_14 x_22 x_32 x_42 x_52 x_62 x_72 : Int, ∃ x_8_a2 : Option Addr, ∃ x_8_l2 x_8_c2 : Nat, ∃ x_92 x_102 x_112 : Int, ∃ x_122 : Bool, cellsAt w21 ⟨b, 0, none⟩ 0 [(.int .i64 x_02), (.int .i64 x_14), (.int .i64 x_22), (.int .i64 x_32), (.int .i64 x_42), (.int .i64 x_52), (.int .i64 x_62), (.int .i64 x_72), (.slice x_8_a2 x_8_l2 x_8_c2), (.int .i64 x_92), (.int .i64 x_102), (.int .i64 x_112), (.bool x_122)] ∧
                  (Calls Try.prog N_made_Dice_Next #[(.pointer r2), (.int .i64 (12 : Int))] w21 fun e_10 w22 =>
                  ∃ r8 : Int, e_10 = .returned (.int .i64 r8) ∧
                  (KeepsB S1 w21 w22 ∧ (kW .i64 ((3 : Int) + r8) fun x6 =>
                  (Calls Try.prog N_sender_Build #[(.agg #[.int .i64 x_02, .int .i64 x_14, .int .i64 x_22, .int .i64 x_32, .int .i64 x_42, .int .i64 x_52, .int .i64 x_62, .int .i64 x_72, .slice x_8_a2 x_8_l2 x_8_c2, .int .i64 x_92, .int .i64 x_102, .int .i64 x_112, .bool x_122]), (.int .i64 x6)] w22 fun e_11 w23 =>
                  ∃ r_03 r_14 r_23 r_33 r_43 r_53 r_62 r_72 : Int, ∃ r_8_a2 : Option Addr, ∃ r_8_l2 r_8_c2 : Nat, ∃ r_92 r_102 r_113 : Int, ∃ r_122 : Bool, ∃ r_a1 : Option Addr, ∃ r_l1 r_c1 : Nat, ∃ r9 : Int, e_11 = .returned (.tuple #[(.agg #[.int .i64 r_03, .int .i64 r_14, .int .i64 r_23, .int .i64 r_33, .int .i64 r_43, .int .i64 r_53, .int .i64 r_62, .int .i64 r_72, .slice r_8_a2 r_8_l2 r_8_c2, .int .i64 r_92, .int .i64 r_102, .int .i64 r_113, .bool r_122]), (.slice r_a1 r_l1 r_c1), (.int .i64 r9)]) ∧
                  (sxStore w23 ⟨b1, 0, none⟩ 0 [(.int .i64 r_03), (.int .i64 r_14), (.int .i64 r_23), (.int .i64 r_33), (.int .i64 r_43), (.int .i64 r_53), (.int .i64 r_62), (.int .i64 r_72), (.slice r_8_a2 r_8_l2 r_8_c2), (.int .i64 r_92), (.int .i64 r_102), (.int .i64 r_113), (.bool r_122)] fun w24 =>
                  J1 r9 w24))))))))))
                  ((kLet (decide (r6 = (4 : Int))) fun x7 =>
                  (bsplit x7
                    ((kDrew w20 fun w25 =>
                    (∃ S2 : Nat → Prop,
                    (S2 b ∧
                    (∃ x_03 x_15 x_23 x_33 x_43 x_53 x_63 x_73 : Int, ∃ x_8_a3 : Option Addr, ∃ x_8_l3 x_8_c3 : Nat, ∃ x_93 x_103 x_113 : Int, ∃ x_123 : Bool, cellsAt w25 ⟨b, 0, none⟩ 0 [(.int .i64 x_03), (.int .i64 x_15), (.int .i64 x_23), (.int .i64 x_33), (.int .i64 x_43), (.int .i64 x_53), (.int .i64 x_63), (.int .i64 x_73), (.slice x_8_a3 x_8_l3 x_8_c3), (.int .i64 x_93), (.int .i64 x_103), (.int .i64 x_113), (.bool x_123)] ∧
                    (∃ x_04 x_16 x_24 x_34 x_44 x_54 x_64 x_74 : Int, ∃ x_8_a4 : Option Addr, ∃ x_8_l4 x_8_c4 : Nat, ∃ x_94 x_104 x_114 : Int, ∃ x_124 : Bool, cellsAt w25 ⟨b, 0, none⟩ 0 [(.int .i64 x_04), (.int .i64 x_16), (.int .i64 x_24), (.int .i64 x_34), (.int .i64 x_44), (.int .i64 x_54), (.int .i64 x_64), (.int .i64 x_74), (.slice x_8_a4 x_8_l4 x_8_c4), (.int .i64 x_94), (.int .i64 x_104), (.int .i64 x_114), (.bool x_124)] ∧
                    (Calls Try.prog N_law20_whole #[(.pointer r2), (.agg #[.int .i64 x_04, .int .i64 x_16, .int .i64 x_24, .int .i64 x_34, .int .i64 x_44, .int .i64 x_54, .int .i64 x_64, .int .i64 x_74, .slice x_8_a4 x_8_l4 x_8_c4, .int .i64 x_94, .int .i64 x_104, .int .i64 x_114, .bool x_124])] w25 fun e_12 w26 =>
                    ∃ r_04 : Int, ∃ r_1_a : Option Addr, ∃ r_1_l r_1_c : Nat, e_12 = .returned (.agg #[.int .i64 r_04, .slice r_1_a r_1_l r_1_c]) ∧
                    (KeepsB S2 w25 w26 ∧ (Calls Try.prog N_sender_Report #[(.agg #[.int .i64 x_03, .int .i64 x_15, .int .i64 x_23, .int .i64 x_33, .int .i64 x_43, .int .i64 x_53, .int .i64 x_63, .int .i64 x_73, .slice x_8_a3 x_8_l3 x_8_c3, .int .i64 x_93, .int .i64 x_103, .int .i64 x_113, .bool x_123]), (.agg #[.int .i64 r_04, .slice r_1_a r_1_l r_1_c])] w26 fun e_13 w27 =>
                    ∃ r_05 r_15 r_24 r_34 r_44 r_54 r_63 r_73 : Int, ∃ r_8_a3 : Option Addr, ∃ r_8_l3 r_8_c3 : Nat, ∃ r_93 r_103 r_114 : Int, ∃ r_123 : Bool, ∃ r10 : Int, e_13 = .returned (.tuple #[(.agg #[.int .i64 r_05, .int .i64 r_15, .int .i64 r_24, .int .i64 r_34, .int .i64 r_44, .int .i64 r_54, .int .i64 r_63, .int .i64 r_73, .slice r_8_a3 r_8_l3 r_8_c3, .int .i64 r_93, .int .i64 r_103, .int .i64 r_114, .bool r_123]), (.int .i64 r10)]) ∧
                    (sxStore w27 ⟨b1, 0, none⟩ 0 [(.int .i64 r_05), (.int .i64 r_15), (.int .i64 r_24), (.int .i64 r_34), (.int .i64 r_44), (.int .i64 r_54), (.int .i64 r_63), (.int .i64 r_73), (.slice r_8_a3 r_8_l3 r_8_c3), (.int .i64 r_93), (.int .i64 r_103), (.int .i64 r_114), (.bool r_123)] fun w28 =>
                    J1 r10 w28))))))))))
                    ((∃ x_05 x_17 x_25 x_35 x_45 x_55 x_65 x_75 : Int, ∃ x_8_a5 : Option Addr, ∃ x_8_l5 x_8_c5 : Nat, ∃ x_95 x_105 x_115 : Int, ∃ x_125 : Bool, cellsAt w20 ⟨b, 0, none⟩ 0 [(.int .i64 x_05), (.int .i64 x_17), (.int .i64 x_25), (.int .i64 x_35), (.int .i64 x_45), (.int .i64 x_55), (.int .i64 x_65), (.int .i64 x_75), (.slice x_8_a5 x_8_l5 x_8_c5), (.int .i64 x_95), (.int .i64 x_105), (.int .i64 x_115), (.bool x_125)] ∧
                    (Calls Try.prog N_sender_Tick #[(.agg #[.int .i64 x_05, .int .i64 x_17, .int .i64 x_25, .int .i64 x_35, .int .i64 x_45, .int .i64 x_55, .int .i64 x_65, .int .i64 x_75, .slice x_8_a5 x_8_l5 x_8_c5, .int .i64 x_95, .int .i64 x_105, .int .i64 x_115, .bool x_125])] w20 fun e_14 w29 =>
                    ∃ r_06 r_16 r_25 r_35 r_45 r_55 r_64 r_74 : Int, ∃ r_8_a4 : Option Addr, ∃ r_8_l4 r_8_c4 : Nat, ∃ r_94 r_104 r_115 : Int, ∃ r_124 : Bool, ∃ r11 : Int, e_14 = .returned (.tuple #[(.agg #[.int .i64 r_06, .int .i64 r_16, .int .i64 r_25, .int .i64 r_35, .int .i64 r_45, .int .i64 r_55, .int .i64 r_64, .int .i64 r_74, .slice r_8_a4 r_8_l4 r_8_c4, .int .i64 r_94, .int .i64 r_104, .int .i64 r_115, .bool r_124]), (.int .i64 r11)]) ∧
                    (sxStore w29 ⟨b1, 0, none⟩ 0 [(.int .i64 r_06), (.int .i64 r_16), (.int .i64 r_25), (.int .i64 r_35), (.int .i64 r_45), (.int .i64 r_55), (.int .i64 r_64), (.int .i64 r_74), (.slice r_8_a4 r_8_l4 r_8_c4), (.int .i64 r_94), (.int .i64 r_104), (.int .i64 r_115), (.bool r_124)] fun w30 =>
                    J1 r11 w30))))))))) ∧
              (kLet (decide (r6 = (2 : Int))) fun x3 =>
              (bsplit x3
                (J3 x3 w15)
                ((kLet (decide (r6 = (3 : Int))) fun x4 =>
                J3 x4 w15)))))))) ∧
          (kLet (decide (r6 = (0 : Int))) fun x =>
          (bsplit x
            (J2 x w14)
            ((kLet (decide (r6 = (1 : Int))) fun x1 =>
            J2 x1 w14)))))))))))
          ((kLdB w11 ⟨b, 12, none⟩ fun x10 =>
          (bsplit x10
            (R (.bool true) w11)
            ((∃ x_08 x_110 x_28 x_38 x_48 x_58 x_68 x_78 : Int, ∃ x_8_a8 : Option Addr, ∃ x_8_l8 x_8_c8 : Nat, ∃ x_98 x_108 x_118 : Int, ∃ x_128 : Bool, cellsAt w11 ⟨b, 0, none⟩ 0 [(.int .i64 x_08), (.int .i64 x_110), (.int .i64 x_28), (.int .i64 x_38), (.int .i64 x_48), (.int .i64 x_58), (.int .i64 x_68), (.int .i64 x_78), (.slice x_8_a8 x_8_l8 x_8_c8), (.int .i64 x_98), (.int .i64 x_108), (.int .i64 x_118), (.bool x_128)] ∧
            (Calls Try.prog N_ref20_Left #[(.agg #[.int .i64 x_08, .int .i64 x_110, .int .i64 x_28, .int .i64 x_38, .int .i64 x_48, .int .i64 x_58, .int .i64 x_68, .int .i64 x_78, .slice x_8_a8 x_8_l8 x_8_c8, .int .i64 x_98, .int .i64 x_108, .int .i64 x_118, .bool x_128])] w11 fun e_16 w34 =>
            ∃ r13 : Bool, e_16 = .returned (.bool r13) ∧
            (bsplit r13
              (R (.bool true) w34)
              ((kLdS w34 ⟨b, 8, none⟩ fun _ x_l _ =>
              (bsplit (decide ((x_l : Int) = (0 : Int)))
                (R (.bool true) w34)
                ((kLd w34 ⟨b, 11, none⟩ .i64 fun x15 =>
                (kLet (decide (x15 > (0 : Int))) fun x16 =>
                R (.bool x16) w34)))))))))))))))))) ∧
    (Calls Try.prog N_law20_awake #[] w7 fun e_5 w8 =>
    ∃ r4 : Bool, e_5 = .returned (.bool r4) ∧
    (bsplit (!r4)
      (R (.bool false) w8)
      ((bsplit (!decide (r3 = (0 : Int)))
        (R (.bool false) w8)
        (J w8))))))))))))))
theorem F_law20_SenderStays_eq (t_a : Option Addr) (t_l : Nat) (t_c : Nat) (w : World) (R : Value → World → Prop) : sxFn Try.prog TT h_law20_SenderStays Try.f8 #[(.slice t_a t_l t_c)] w R = F_law20_SenderStays t_a t_l t_c w R := by kernel_rfl
theorem F_law20_SenderStays_ok {R : Ending → World → Prop} (t_a : Option Addr) (t_l : Nat) (t_c : Nat) (w : World) (h : F_law20_SenderStays t_a t_l t_c w fun v w' => R (.returned v) w') : Calls Try.prog N_law20_SenderStays #[(.slice t_a t_l t_c)] w R :=
  calls_of (f := 8) follows_ok Try.func8 (Eq.mpr (F_law20_SenderStays_eq t_a t_l t_c w _) h)

def h_made_Light : H := (.seq .reg (.seq .reg .leaf))
def F_made_Light (t_a : Option Addr) (t_l : Nat) (t_c : Nat) (w : World) (R : Value → World → Prop) : Prop :=
  (kLet (decide ((t_l : Int) ≤ (400 : Int))) fun x =>
  R (.bool x) w)
theorem F_made_Light_eq (t_a : Option Addr) (t_l : Nat) (t_c : Nat) (w : World) (R : Value → World → Prop) : sxFn Try.prog TT h_made_Light Try.f9 #[(.slice t_a t_l t_c)] w R = F_made_Light t_a t_l t_c w R := by kernel_rfl
theorem F_made_Light_ok {R : Ending → World → Prop} (t_a : Option Addr) (t_l : Nat) (t_c : Nat) (w : World) (h : F_made_Light t_a t_l t_c w fun v w' => R (.returned v) w') : Calls Try.prog N_made_Light #[(.slice t_a t_l t_c)] w R :=
  calls_of (f := 9) follows_ok Try.func9 (Eq.mpr (F_made_Light_eq t_a t_l t_c w _) h)

def h_law20_awake : H := (.seq .reg (.seq .reg (.seq (.draw .blk (.one 0 .stable (.one 1 .keep (.one 2 .last (.one 3 .pur (.one 4 .pur (.one 5 .pur (.one 6 .last (.one 7 .pur .nil))))))))) (.seq .reg (.seq .reg (.seq .reg (.seq .reg .leaf)))))))
def F_law20_awake  (w : World) (R : Value → World → Prop) : Prop :=
  (Calls Try.prog N_law20_link #[] w fun e_ w1 =>
  ∃ r_0 r_1 r_2 r_3 r_4 r_5 : Int, e_ = .returned (.agg #[.int .i64 r_0, .int .i64 r_1, .int .i64 r_2, .int .i64 r_3, .int .i64 r_4, .int .i64 r_5]) ∧
  (Calls Try.prog N_sender_New #[(.agg #[.int .i64 r_0, .int .i64 r_1, .int .i64 r_2, .int .i64 r_3, .int .i64 r_4, .int .i64 r_5])] w1 fun e_1 w2 =>
  ∃ r_01 r_11 r_21 r_31 r_41 r_51 r_6 r_7 : Int, ∃ r_8_a : Option Addr, ∃ r_8_l r_8_c : Nat, ∃ r_9 r_10 r_111 : Int, ∃ r_12 : Bool, ∃ r : Int, e_1 = .returned (.tuple #[(.agg #[.int .i64 r_01, .int .i64 r_11, .int .i64 r_21, .int .i64 r_31, .int .i64 r_41, .int .i64 r_51, .int .i64 r_6, .int .i64 r_7, .slice r_8_a r_8_l r_8_c, .int .i64 r_9, .int .i64 r_10, .int .i64 r_111, .bool r_12]), (.int .i64 r)]) ∧
  (kAlloc w2 #[.int .i64 (0 : Int), .int .i64 (0 : Int), .int .i64 (0 : Int), .int .i64 (0 : Int), .int .i64 (0 : Int), .int .i64 (0 : Int), .int .i64 (0 : Int), .int .i64 (0 : Int), .slice none 0 0, .int .i64 (0 : Int), .int .i64 (0 : Int), .int .i64 (0 : Int), .bool false] Ty_api_Sender fun b w3 =>
  (sxStore w3 ⟨b, 0, none⟩ 0 [(.int .i64 r_01), (.int .i64 r_11), (.int .i64 r_21), (.int .i64 r_31), (.int .i64 r_41), (.int .i64 r_51), (.int .i64 r_6), (.int .i64 r_7), (.slice r_8_a r_8_l r_8_c), (.int .i64 r_9), (.int .i64 r_10), (.int .i64 r_111), (.bool r_12)] fun w4 =>
  (kDrew w4 fun w5 =>
  (∃ S : Nat → Prop,
  (S b ∧
  (∃ x_0 x_1 x_2 x_3 x_4 x_5 x_6 x_7 : Int, ∃ x_8_a : Option Addr, ∃ x_8_l x_8_c : Nat, ∃ x_9 x_10 x_11 : Int, ∃ x_12 : Bool, cellsAt w5 ⟨b, 0, none⟩ 0 [(.int .i64 x_0), (.int .i64 x_1), (.int .i64 x_2), (.int .i64 x_3), (.int .i64 x_4), (.int .i64 x_5), (.int .i64 x_6), (.int .i64 x_7), (.slice x_8_a x_8_l x_8_c), (.int .i64 x_9), (.int .i64 x_10), (.int .i64 x_11), (.bool x_12)] ∧
  (Calls Try.prog N_made_Filled #[(.int .i64 (5 : Int)), (.int .i64 (1 : Int))] w5 fun e_2 w6 =>
  ∃ r_a : Option Addr, ∃ r_l r_c : Nat, e_2 = .returned (.slice r_a r_l r_c) ∧
  (KeepsB S w5 w6 ∧ (Calls Try.prog N_sender_Submit #[(.agg #[.int .i64 x_0, .int .i64 x_1, .int .i64 x_2, .int .i64 x_3, .int .i64 x_4, .int .i64 x_5, .int .i64 x_6, .int .i64 x_7, .slice x_8_a x_8_l x_8_c, .int .i64 x_9, .int .i64 x_10, .int .i64 x_11, .bool x_12]), (.slice r_a r_l r_c)] w6 fun e_3 w7 =>
  ∃ r_02 r_13 r_22 r_32 r_42 r_52 r_61 r_71 : Int, ∃ r_8_a1 : Option Addr, ∃ r_8_l1 r_8_c1 : Nat, ∃ r_91 r_101 r_112 : Int, ∃ r_121 : Bool, ∃ r1 : Int, e_3 = .returned (.tuple #[(.agg #[.int .i64 r_02, .int .i64 r_13, .int .i64 r_22, .int .i64 r_32, .int .i64 r_42, .int .i64 r_52, .int .i64 r_61, .int .i64 r_71, .slice r_8_a1 r_8_l1 r_8_c1, .int .i64 r_91, .int .i64 r_101, .int .i64 r_112, .bool r_121]), (.int .i64 r1)]) ∧
  (sxStore w7 ⟨b, 0, none⟩ 0 [(.int .i64 r_02), (.int .i64 r_13), (.int .i64 r_22), (.int .i64 r_32), (.int .i64 r_42), (.int .i64 r_52), (.int .i64 r_61), (.int .i64 r_71), (.slice r_8_a1 r_8_l1 r_8_c1), (.int .i64 r_91), (.int .i64 r_101), (.int .i64 r_112), (.bool r_121)] fun w8 =>
  (∃ x_01 x_13 x_21 x_31 x_41 x_51 x_61 x_71 : Int, ∃ x_8_a1 : Option Addr, ∃ x_8_l1 x_8_c1 : Nat, ∃ x_91 x_101 x_111 : Int, ∃ x_121 : Bool, cellsAt w8 ⟨b, 0, none⟩ 0 [(.int .i64 x_01), (.int .i64 x_13), (.int .i64 x_21), (.int .i64 x_31), (.int .i64 x_41), (.int .i64 x_51), (.int .i64 x_61), (.int .i64 x_71), (.slice x_8_a1 x_8_l1 x_8_c1), (.int .i64 x_91), (.int .i64 x_101), (.int .i64 x_111), (.bool x_121)] ∧
  (Calls Try.prog N_sender_Build #[(.agg #[.int .i64 x_01, .int .i64 x_13, .int .i64 x_21, .int .i64 x_31, .int .i64 x_41, .int .i64 x_51, .int .i64 x_61, .int .i64 x_71, .slice x_8_a1 x_8_l1 x_8_c1, .int .i64 x_91, .int .i64 x_101, .int .i64 x_111, .bool x_121]), (.int .i64 (5 : Int))] w8 fun e_4 w9 =>
  ∃ r_03 r_14 r_23 r_33 r_43 r_53 r_62 r_72 : Int, ∃ r_8_a2 : Option Addr, ∃ r_8_l2 r_8_c2 : Nat, ∃ r_92 r_102 r_113 : Int, ∃ r_122 : Bool, ∃ r_a1 : Option Addr, ∃ r_l1 r_c1 : Nat, ∃ r2 : Int, e_4 = .returned (.tuple #[(.agg #[.int .i64 r_03, .int .i64 r_14, .int .i64 r_23, .int .i64 r_33, .int .i64 r_43, .int .i64 r_53, .int .i64 r_62, .int .i64 r_72, .slice r_8_a2 r_8_l2 r_8_c2, .int .i64 r_92, .int .i64 r_102, .int .i64 r_113, .bool r_122]), (.slice r_a1 r_l1 r_c1), (.int .i64 r2)]) ∧
  (sxStore w9 ⟨b, 0, none⟩ 0 [(.int .i64 r_03), (.int .i64 r_14), (.int .i64 r_23), (.int .i64 r_33), (.int .i64 r_43), (.int .i64 r_53), (.int .i64 r_62), (.int .i64 r_72), (.slice r_8_a2 r_8_l2 r_8_c2), (.int .i64 r_92), (.int .i64 r_102), (.int .i64 r_113), (.bool r_122)] fun w10 =>
  (∃ x_02 x_14 x_22 x_32 x_42 x_52 x_62 x_72 : Int, ∃ x_8_a2 : Option Addr, ∃ x_8_l2 x_8_c2 : Nat, ∃ x_92 x_102 x_112 : Int, ∃ x_122 : Bool, cellsAt w10 ⟨b, 0, none⟩ 0 [(.int .i64 x_02), (.int .i64 x_14), (.int .i64 x_22), (.int .i64 x_32), (.int .i64 x_42), (.int .i64 x_52), (.int .i64 x_62), (.int .i64 x_72), (.slice x_8_a2 x_8_l2 x_8_c2), (.int .i64 x_92), (.int .i64 x_102), (.int .i64 x_112), (.bool x_122)] ∧
  (Calls Try.prog N_sender_Build #[(.agg #[.int .i64 x_02, .int .i64 x_14, .int .i64 x_22, .int .i64 x_32, .int .i64 x_42, .int .i64 x_52, .int .i64 x_62, .int .i64 x_72, .slice x_8_a2 x_8_l2 x_8_c2, .int .i64 x_92, .int .i64 x_102, .int .i64 x_112, .bool x_122]), (.int .i64 (9 : Int))] w10 fun e_5 w11 =>
  ∃ r_04 r_15 r_24 r_34 r_44 r_54 r_63 r_73 : Int, ∃ r_8_a3 : Option Addr, ∃ r_8_l3 r_8_c3 : Nat, ∃ r_93 r_103 r_114 : Int, ∃ r_123 : Bool, ∃ r_a2 : Option Addr, ∃ r_l2 r_c2 : Nat, ∃ r3 : Int, e_5 = .returned (.tuple #[(.agg #[.int .i64 r_04, .int .i64 r_15, .int .i64 r_24, .int .i64 r_34, .int .i64 r_44, .int .i64 r_54, .int .i64 r_63, .int .i64 r_73, .slice r_8_a3 r_8_l3 r_8_c3, .int .i64 r_93, .int .i64 r_103, .int .i64 r_114, .bool r_123]), (.slice r_a2 r_l2 r_c2), (.int .i64 r3)]) ∧
  (sxStore w11 ⟨b, 0, none⟩ 0 [(.int .i64 r_04), (.int .i64 r_15), (.int .i64 r_24), (.int .i64 r_34), (.int .i64 r_44), (.int .i64 r_54), (.int .i64 r_63), (.int .i64 r_73), (.slice r_8_a3 r_8_l3 r_8_c3), (.int .i64 r_93), (.int .i64 r_103), (.int .i64 r_114), (.bool r_123)] fun w12 =>
  (∃ x_03 x_15 x_23 x_33 x_43 x_53 x_63 x_73 : Int, ∃ x_8_a3 : Option Addr, ∃ x_8_l3 x_8_c3 : Nat, ∃ x_93 x_103 x_113 : Int, ∃ x_123 : Bool, cellsAt w12 ⟨b, 0, none⟩ 0 [(.int .i64 x_03), (.int .i64 x_15), (.int .i64 x_23), (.int .i64 x_33), (.int .i64 x_43), (.int .i64 x_53), (.int .i64 x_63), (.int .i64 x_73), (.slice x_8_a3 x_8_l3 x_8_c3), (.int .i64 x_93), (.int .i64 x_103), (.int .i64 x_113), (.bool x_123)] ∧
  (Calls Try.prog N_sender_Report #[(.agg #[.int .i64 x_03, .int .i64 x_15, .int .i64 x_23, .int .i64 x_33, .int .i64 x_43, .int .i64 x_53, .int .i64 x_63, .int .i64 x_73, .slice x_8_a3 x_8_l3 x_8_c3, .int .i64 x_93, .int .i64 x_103, .int .i64 x_113, .bool x_123]), (.agg #[.int .i64 (1 : Int), .slice none 0 0])] w12 fun e_6 w13 =>
  ∃ r_05 r_16 r_25 r_35 r_45 r_55 r_64 r_74 : Int, ∃ r_8_a4 : Option Addr, ∃ r_8_l4 r_8_c4 : Nat, ∃ r_94 r_104 r_115 : Int, ∃ r_124 : Bool, ∃ r4 : Int, e_6 = .returned (.tuple #[(.agg #[.int .i64 r_05, .int .i64 r_16, .int .i64 r_25, .int .i64 r_35, .int .i64 r_45, .int .i64 r_55, .int .i64 r_64, .int .i64 r_74, .slice r_8_a4 r_8_l4 r_8_c4, .int .i64 r_94, .int .i64 r_104, .int .i64 r_115, .bool r_124]), (.int .i64 r4)]) ∧
  (kAlloc w13 #[.int .i64 (0 : Int), .int .i64 (0 : Int), .int .i64 (0 : Int), .int .i64 (0 : Int), .int .i64 (0 : Int), .int .i64 (0 : Int), .int .i64 (0 : Int), .int .i64 (0 : Int), .slice none 0 0, .int .i64 (0 : Int), .int .i64 (0 : Int), .int .i64 (0 : Int), .bool false] Ty_api_Sender fun b1 w14 =>
  (sxStore w14 ⟨b1, 0, none⟩ 0 [(.int .i64 r_05), (.int .i64 r_16), (.int .i64 r_25), (.int .i64 r_35), (.int .i64 r_45), (.int .i64 r_55), (.int .i64 r_64), (.int .i64 r_74), (.slice r_8_a4 r_8_l4 r_8_c4), (.int .i64 r_94), (.int .i64 r_104), (.int .i64 r_115), (.bool r_124)] fun w15 =>
  (bsplit (decide (r = (0 : Int)))
    ((bsplit (decide (r1 = (0 : Int)))
      ((bsplit (decide (r2 = (0 : Int)))
        ((bsplit (decide (r3 = (0 : Int)))
          ((bsplit (decide (r4 = (0 : Int)))
            ((bsplit (decide ((r_l1 : Int) = (5 : Int)))
              ((bsplit (decide ((r_l2 : Int) = (6 : Int)))
                ((kIx r_a2 r_l2 (0 : Int) fun b2 =>
                (kLd w15 (b2.add ((0 : Int).toNat * 1)) .u8 fun x =>
                (kLet (bAnd .u8 x (64 : Int)) fun x1 =>
                (bsplit (!decide (x1 = (0 : Int)))
                  ((kLd w15 ⟨b, 11, none⟩ .i64 fun x2 =>
                  (bsplit (decide (x2 = (3 : Int)))
                    ((kLdS w15 ⟨b1, 8, none⟩ fun _ x_l _ =>
                    (bsplit (decide ((x_l : Int) = (0 : Int)))
                      ((kLd w15 ⟨b1, 6, none⟩ .i64 fun x3 =>
                      (bsplit (decide (x3 = (1 : Int)))
                        ((∃ x_04 x_16 x_24 x_34 x_44 x_54 x_64 x_74 : Int, ∃ x_8_a4 : Option Addr, ∃ x_8_l4 x_8_c4 : Nat, ∃ x_94 x_104 x_114 : Int, ∃ x_124 : Bool, cellsAt w15 ⟨b1, 0, none⟩ 0 [(.int .i64 x_04), (.int .i64 x_16), (.int .i64 x_24), (.int .i64 x_34), (.int .i64 x_44), (.int .i64 x_54), (.int .i64 x_64), (.int .i64 x_74), (.slice x_8_a4 x_8_l4 x_8_c4), (.int .i64 x_94), (.int .i64 x_104), (.int .i64 x_114), (.bool x_124)] ∧
                        (Calls Try.prog N_sender_Valid #[(.agg #[.int .i64 x_04, .int .i64 x_16, .int .i64 x_24, .int .i64 x_34, .int .i64 x_44, .int .i64 x_54, .int .i64 x_64, .int .i64 x_74, .slice x_8_a4 x_8_l4 x_8_c4, .int .i64 x_94, .int .i64 x_104, .int .i64 x_114, .bool x_124])] w15 fun e_7 w16 =>
                        ∃ r5 : Bool, e_7 = .returned (.bool r5) ∧
                        R (.bool r5) w16)))
                        (R (.bool false) w15))))
                      (R (.bool false) w15))))
                    (R (.bool false) w15))))
                  (R (.bool false) w15))))))
                (R (.bool false) w15)))
              (R (.bool false) w15)))
            (R (.bool false) w15)))
          (R (.bool false) w15)))
        (R (.bool false) w15)))
      (R (.bool false) w15)))
    (R (.bool false) w15))))))))))))))))))))))))
theorem F_law20_awake_eq  (w : World) (R : Value → World → Prop) : sxFn Try.prog TT h_law20_awake Try.f10 #[] w R = F_law20_awake  w R := by kernel_rfl
theorem F_law20_awake_ok {R : Ending → World → Prop}  (w : World) (h : F_law20_awake  w fun v w' => R (.returned v) w') : Calls Try.prog N_law20_awake #[] w R :=
  calls_of (f := 10) follows_ok Try.func10 (Eq.mpr (F_law20_awake_eq  w _) h)

def h_made_Roll : H := (.seq .reg (.seq .reg .leaf))
def F_made_Roll (t_a : Option Addr) (t_l : Nat) (t_c : Nat) (w : World) (R : Value → World → Prop) : Prop :=
  (kAlloc w #[(.slice t_a t_l t_c), (.int .i64 (0 : Int))] Ty_radiolinkmade_Dice fun b w1 =>
  R (.pointer (some ⟨b, 0, none⟩)) w1)
theorem F_made_Roll_eq (t_a : Option Addr) (t_l : Nat) (t_c : Nat) (w : World) (R : Value → World → Prop) : sxFn Try.prog TT h_made_Roll Try.f11 #[(.slice t_a t_l t_c)] w R = F_made_Roll t_a t_l t_c w R := by kernel_rfl
theorem F_made_Roll_ok {R : Ending → World → Prop} (t_a : Option Addr) (t_l : Nat) (t_c : Nat) (w : World) (h : F_made_Roll t_a t_l t_c w fun v w' => R (.returned v) w') : Calls Try.prog N_made_Roll #[(.slice t_a t_l t_c)] w R :=
  calls_of (f := 11) follows_ok Try.func11 (Eq.mpr (F_made_Roll_eq t_a t_l t_c w _) h)

def h_sender_New : H := (.seq .reg (.seq (.seq .reg (.cond (.seq .reg .leaf) .leaf)) (.seq .reg .leaf)))
def F_sender_New (l_0 : Int) (l_1 : Int) (l_2 : Int) (l_3 : Int) (l_4 : Int) (l_5 : Int) (w : World) (R : Value → World → Prop) : Prop :=
  (kAlloc w #[(.int .i64 l_0), (.int .i64 l_1), (.int .i64 l_2), (.int .i64 l_3), (.int .i64 l_4), (.int .i64 l_5)] Ty_api_Link fun b w1 =>
  (kAlloc w1 #[.int .i64 (0 : Int), .int .i64 (0 : Int), .int .i64 (0 : Int), .int .i64 (0 : Int), .int .i64 (0 : Int), .int .i64 (0 : Int), .int .i64 (0 : Int), .int .i64 (0 : Int), .slice none 0 0, .int .i64 (0 : Int), .int .i64 (0 : Int), .int .i64 (0 : Int), .bool false] Ty_api_Sender fun b1 w2 =>
  (∃ x_0 x_1 x_2 x_3 x_4 x_5 : Int, cellsAt w2 ⟨b, 0, none⟩ 0 [(.int .i64 x_0), (.int .i64 x_1), (.int .i64 x_2), (.int .i64 x_3), (.int .i64 x_4), (.int .i64 x_5)] ∧
  (Calls Try.prog N_sender_ValidLink #[(.agg #[.int .i64 x_0, .int .i64 x_1, .int .i64 x_2, .int .i64 x_3, .int .i64 x_4, .int .i64 x_5])] w2 fun e_ w3 =>
  ∃ r : Bool, e_ = .returned (.bool r) ∧
  (bsplit (!r)
    ((sxStore w3 ⟨b1, 0, none⟩ 0 [(.int .i64 (0 : Int)), (.int .i64 (0 : Int)), (.int .i64 (0 : Int)), (.int .i64 (0 : Int)), (.int .i64 (0 : Int)), (.int .i64 (0 : Int)), (.int .i64 (0 : Int)), (.int .i64 (0 : Int)), (.slice none 0 0), (.int .i64 (0 : Int)), (.int .i64 (0 : Int)), (.int .i64 (0 : Int)), (.bool false)] fun w4 =>
    (∃ r_0 r_1 r_2 r_3 r_4 r_5 r_6 r_7 : Int, ∃ r_8_a : Option Addr, ∃ r_8_l r_8_c : Nat, ∃ r_9 r_10 r_11 : Int, ∃ r_12 : Bool, cellsAt w4 ⟨b1, 0, none⟩ 0 [(.int .i64 r_0), (.int .i64 r_1), (.int .i64 r_2), (.int .i64 r_3), (.int .i64 r_4), (.int .i64 r_5), (.int .i64 r_6), (.int .i64 r_7), (.slice r_8_a r_8_l r_8_c), (.int .i64 r_9), (.int .i64 r_10), (.int .i64 r_11), (.bool r_12)] ∧
    R (.tuple #[(.agg #[.int .i64 r_0, .int .i64 r_1, .int .i64 r_2, .int .i64 r_3, .int .i64 r_4, .int .i64 r_5, .int .i64 r_6, .int .i64 r_7, .slice r_8_a r_8_l r_8_c, .int .i64 r_9, .int .i64 r_10, .int .i64 r_11, .bool r_12]), (.int .i64 (3 : Int))]) w4)))
    ((∃ x_01 x_11 x_21 x_31 x_41 x_51 : Int, cellsAt w3 ⟨b, 0, none⟩ 0 [(.int .i64 x_01), (.int .i64 x_11), (.int .i64 x_21), (.int .i64 x_31), (.int .i64 x_41), (.int .i64 x_51)] ∧
    (sxStore w3 ⟨b1, 0, none⟩ 0 [(.int .i64 x_01), (.int .i64 x_11), (.int .i64 x_21), (.int .i64 x_31), (.int .i64 x_41), (.int .i64 x_51), (.int .i64 (0 : Int)), (.int .i64 (0 : Int)), (.slice none 0 0), (.int .i64 (0 : Int)), (.int .i64 (-1 : Int)), (.int .i64 (0 : Int)), (.bool false)] fun w5 =>
    (∃ r_01 r_13 r_21 r_31 r_41 r_51 r_61 r_71 : Int, ∃ r_8_a1 : Option Addr, ∃ r_8_l1 r_8_c1 : Nat, ∃ r_91 r_101 r_111 : Int, ∃ r_121 : Bool, cellsAt w5 ⟨b1, 0, none⟩ 0 [(.int .i64 r_01), (.int .i64 r_13), (.int .i64 r_21), (.int .i64 r_31), (.int .i64 r_41), (.int .i64 r_51), (.int .i64 r_61), (.int .i64 r_71), (.slice r_8_a1 r_8_l1 r_8_c1), (.int .i64 r_91), (.int .i64 r_101), (.int .i64 r_111), (.bool r_121)] ∧
    R (.tuple #[(.agg #[.int .i64 r_01, .int .i64 r_13, .int .i64 r_21, .int .i64 r_31, .int .i64 r_41, .int .i64 r_51, .int .i64 r_61, .int .i64 r_71, .slice r_8_a1 r_8_l1 r_8_c1, .int .i64 r_91, .int .i64 r_101, .int .i64 r_111, .bool r_121]), (.int .i64 (0 : Int))]) w5)))))))))
theorem F_sender_New_eq (l_0 : Int) (l_1 : Int) (l_2 : Int) (l_3 : Int) (l_4 : Int) (l_5 : Int) (w : World) (R : Value → World → Prop) : sxFn Try.prog TT h_sender_New Try.f12 #[(.agg #[.int .i64 l_0, .int .i64 l_1, .int .i64 l_2, .int .i64 l_3, .int .i64 l_4, .int .i64 l_5])] w R = F_sender_New l_0 l_1 l_2 l_3 l_4 l_5 w R := by kernel_rfl
theorem F_sender_New_ok {R : Ending → World → Prop} (l_0 : Int) (l_1 : Int) (l_2 : Int) (l_3 : Int) (l_4 : Int) (l_5 : Int) (w : World) (h : F_sender_New l_0 l_1 l_2 l_3 l_4 l_5 w fun v w' => R (.returned v) w') : Calls Try.prog N_sender_New #[(.agg #[.int .i64 l_0, .int .i64 l_1, .int .i64 l_2, .int .i64 l_3, .int .i64 l_4, .int .i64 l_5])] w R :=
  calls_of (f := 12) follows_ok Try.func12 (Eq.mpr (F_sender_New_eq l_0 l_1 l_2 l_3 l_4 l_5 w _) h)

def h_made_Dice_Link : H := (.seq .reg (.seq .reg .leaf))
def F_made_Dice_Link (d_b : Nat) (d_o : Nat) (w : World) (R : Value → World → Prop) : Prop :=
  (kAlloc w #[.int .i64 (0 : Int), .int .i64 (0 : Int), .int .i64 (0 : Int), .int .i64 (0 : Int), .int .i64 (0 : Int), .int .i64 (0 : Int)] Ty_api_Link fun b w1 =>
  (Calls Try.prog N_made_Dice_Bits #[(.pointer (some ⟨d_b, d_o, none⟩))] w1 fun e_ w2 =>
  ∃ r : Int, e_ = .returned (.int .i64 r) ∧
  (Calls Try.prog N_made_Dice_Next #[(.pointer (some ⟨d_b, d_o, none⟩)), (.int .i64 (6 : Int))] w2 fun e_1 w3 =>
  ∃ r1 : Int, e_1 = .returned (.int .i64 r1) ∧
  (kW .i64 ((1 : Int) + r1) fun x =>
  (Calls Try.prog N_made_Dice_Next #[(.pointer (some ⟨d_b, d_o, none⟩)), (.int .i64 (6 : Int))] w3 fun e_2 w4 =>
  ∃ r2 : Int, e_2 = .returned (.int .i64 r2) ∧
  (kW .i64 ((1 : Int) + r2) fun x1 =>
  (Calls Try.prog N_made_Dice_Next #[(.pointer (some ⟨d_b, d_o, none⟩)), (.int .i64 (5 : Int))] w4 fun e_3 w5 =>
  ∃ r3 : Int, e_3 = .returned (.int .i64 r3) ∧
  (kW .i64 ((1 : Int) + r3) fun x2 =>
  (Calls Try.prog N_made_Dice_Next #[(.pointer (some ⟨d_b, d_o, none⟩)), (.int .i64 (3 : Int))] w5 fun e_4 w6 =>
  ∃ r4 : Int, e_4 = .returned (.int .i64 r4) ∧
  (Calls Try.prog N_made_Dice_Next #[(.pointer (some ⟨d_b, d_o, none⟩)), (.int .i64 (6 : Int))] w6 fun e_5 w7 =>
  ∃ r5 : Int, e_5 = .returned (.int .i64 r5) ∧
  (kW .i64 ((1 : Int) + r5) fun x3 =>
  (sxStore w7 ⟨b, 0, none⟩ 0 [(.int .i64 r), (.int .i64 x), (.int .i64 x1), (.int .i64 x2), (.int .i64 r4), (.int .i64 x3)] fun w8 =>
  (∃ r_0 r_1 r_2 r_3 r_4 r_5 : Int, cellsAt w8 ⟨b, 0, none⟩ 0 [(.int .i64 r_0), (.int .i64 r_1), (.int .i64 r_2), (.int .i64 r_3), (.int .i64 r_4), (.int .i64 r_5)] ∧
  R (.agg #[.int .i64 r_0, .int .i64 r_1, .int .i64 r_2, .int .i64 r_3, .int .i64 r_4, .int .i64 r_5]) w8)))))))))))))
theorem F_made_Dice_Link_eq (d_b : Nat) (d_o : Nat) (w : World) (R : Value → World → Prop) : sxFn Try.prog TT h_made_Dice_Link Try.f13 #[(.pointer (some ⟨d_b, d_o, none⟩))] w R = F_made_Dice_Link d_b d_o w R := by kernel_rfl
theorem F_made_Dice_Link_ok {R : Ending → World → Prop} (d_b : Nat) (d_o : Nat) (w : World) (h : F_made_Dice_Link d_b d_o w fun v w' => R (.returned v) w') : Calls Try.prog N_made_Dice_Link #[(.pointer (some ⟨d_b, d_o, none⟩))] w R :=
  calls_of (f := 13) follows_ok Try.func13 (Eq.mpr (F_made_Dice_Link_eq d_b d_o w _) h)

def h_made_Dice_Next : H := (.seq .reg (.seq (.seq (.draw .no (.one 0 .stable (.one 1 .stable (.one 2 .stable (.one 3 .stable (.one 4 .stable (.one 5 .stable (.one 6 .stable (.one 7 .stable (.one 8 .stable (.one 9 .stable .nil))))))))))) (.cond (.seq .reg .leaf) .leaf)) (.seq .reg (.seq (.draw .blk (.one 0 .pre (.one 1 .pre (.one 2 .pre (.one 3 .pre (.one 4 .pre (.one 5 .pre (.one 6 .pre (.one 7 .pre (.one 8 .pre (.one 9 .pre (.one 10 .pre (.one 11 .pre (.one 12 .keep (.one 13 .stable .nil))))))))))))))) .leaf))))
def F_made_Dice_Next (d_b : Nat) (d_o : Nat) (n : Int) (w : World) (R : Value → World → Prop) : Prop :=
  (kDrew w fun w1 =>
  (kLd w1 ⟨d_b, d_o + 1, none⟩ .i64 fun x =>
  (kLdS w1 ⟨d_b, d_o, none⟩ fun _ x_l _ =>
  (bsplit (decide (x ≥ (x_l : Int)))
    (R (.int .i64 (0 : Int)) w1)
    ((kLd w1 ⟨d_b, d_o + 1, none⟩ .i64 fun x1 =>
    (kW .i64 (x1 + (1 : Int)) fun x2 =>
    (kSet w1 ⟨d_b, d_o + 1, none⟩ (.int .i64 x2) fun w2 =>
    (kDrew w2 fun w3 =>
    (∃ S : Nat → Prop,
    (kLdS w3 ⟨d_b, d_o, none⟩ fun x_a1 x_l1 _ =>
    (kLd w3 ⟨d_b, d_o + 1, none⟩ .i64 fun x3 =>
    (kW .i64 (x3 - (1 : Int)) fun x4 =>
    (kIx x_a1 x_l1 x4 fun b =>
    (kLd w3 (b.add (x4.toNat * 1)) .i64 fun x5 =>
    (Calls Try.prog N_made_Mod #[(.int .i64 x5), (.int .i64 n)] w3 fun e_ w4 =>
    ∃ r : Int, e_ = .returned (.int .i64 r) ∧
    (KeepsB S w3 w4 ∧ R (.int .i64 r) w4)))))))))))))))))
theorem F_made_Dice_Next_eq (d_b : Nat) (d_o : Nat) (n : Int) (w : World) (R : Value → World → Prop) : sxFn Try.prog TT h_made_Dice_Next Try.f14 #[(.pointer (some ⟨d_b, d_o, none⟩)), (.int .i64 n)] w R = F_made_Dice_Next d_b d_o n w R := by kernel_rfl
theorem F_made_Dice_Next_ok {R : Ending → World → Prop} (d_b : Nat) (d_o : Nat) (n : Int) (w : World) (h : F_made_Dice_Next d_b d_o n w fun v w' => R (.returned v) w') : Calls Try.prog N_made_Dice_Next #[(.pointer (some ⟨d_b, d_o, none⟩)), (.int .i64 n)] w R :=
  calls_of (f := 14) follows_ok Try.func14 (Eq.mpr (F_made_Dice_Next_eq d_b d_o n w _) h)

def h_made_Dice_Some : H := (.seq .reg (.seq .reg .leaf))
def F_made_Dice_Some (d_b : Nat) (d_o : Nat) (most : Int) (w : World) (R : Value → World → Prop) : Prop :=
  (Calls Try.prog N_made_Dice_Next #[(.pointer (some ⟨d_b, d_o, none⟩)), (.int .i64 (256 : Int))] w fun e_ w1 =>
  ∃ r : Int, e_ = .returned (.int .i64 r) ∧
  (kW .u8 (r) fun x =>
  (kAlloc w1 #[(.int .u8 x)] Ty_uint8 fun b w2 =>
  (kW .i64 (most - (1 : Int)) fun x1 =>
  (Calls Try.prog N_made_Dice_Bytes #[(.pointer (some ⟨d_b, d_o, none⟩)), (.int .i64 x1)] w2 fun e_1 w3 =>
  ∃ r_a : Option Addr, ∃ r_l r_c : Nat, e_1 = .returned (.slice r_a r_l r_c) ∧
  (AppP Try.prog #[Ty_S_uint8, Ty_S_uint8] Ty_S_uint8 #[(.slice (some ⟨b, 0, none⟩) 1 1), (.slice r_a r_l r_c)] w3 fun x_a x_l x_c w4 =>
  R (.slice x_a x_l x_c) w4))))))
theorem F_made_Dice_Some_eq (d_b : Nat) (d_o : Nat) (most : Int) (w : World) (R : Value → World → Prop) : sxFn Try.prog TT h_made_Dice_Some Try.f15 #[(.pointer (some ⟨d_b, d_o, none⟩)), (.int .i64 most)] w R = F_made_Dice_Some d_b d_o most w R := by kernel_rfl
theorem F_made_Dice_Some_ok {R : Ending → World → Prop} (d_b : Nat) (d_o : Nat) (most : Int) (w : World) (h : F_made_Dice_Some d_b d_o most w fun v w' => R (.returned v) w') : Calls Try.prog N_made_Dice_Some #[(.pointer (some ⟨d_b, d_o, none⟩)), (.int .i64 most)] w R :=
  calls_of (f := 15) follows_ok Try.func15 (Eq.mpr (F_made_Dice_Some_eq d_b d_o most w _) h)

def h_sender_Submit : H := (.seq .reg (.seq .reg (.seq (.block (.seq .reg (.cond (.seq .reg .leaf) (.seq .reg (.cond (.seq .reg .leaf) (.seq (.draw .blk (.one 0 .pre (.one 1 .pre (.one 2 .pre (.one 3 .pre (.one 4 .pre (.one 5 .pre (.one 7 .stable (.one 8 .stable (.one 9 .stable (.one 10 .stable (.one 11 .stable (.one 12 .stable (.one 13 .stable (.one 14 .stable (.one 6 .keep (.one 15 .stable (.one 16 .stable .nil)))))))))))))))))) (.cond (.seq .reg .leaf) .leaf))))))) (.seq (.draw .blk (.one 0 .stable (.one 1 .stable (.one 2 .stable (.one 3 .stable (.one 4 .stable (.one 5 .stable (.one 6 .stable (.one 7 .stable (.one 8 .stable (.one 9 .stable (.one 10 .stable (.one 11 .pre (.one 12 .keep (.one 13 .keep (.one 14 .keep (.one 15 .keep (.one 16 .stable (.one 17 .stable (.one 18 .stable (.one 19 .last .nil))))))))))))))))))))) (.seq (.draw .blk (.one 0 .stable (.one 1 .pre (.one 2 .pre (.one 3 .pre (.one 4 .pre (.one 5 .pre (.one 6 .pre (.one 7 .pre (.one 8 .pre (.one 9 .pre (.one 10 .pre (.one 11 .pre (.one 12 .pre (.one 13 .keep (.one 14 .stable (.one 15 .stable (.one 16 .stable (.one 17 .last .nil))))))))))))))))))) (.seq .reg .leaf))))))
def F_sender_Submit (x_0 : Int) (x_1 : Int) (x_2 : Int) (x_3 : Int) (x_4 : Int) (x_5 : Int) (x_6 : Int) (x_7 : Int) (x_8_a : Option Addr) (x_8_l : Nat) (x_8_c : Nat) (x_9 : Int) (x_10 : Int) (x_11 : Int) (x_12 : Bool) (data_a : Option Addr) (data_l : Nat) (data_c : Nat) (w : World) (R : Value → World → Prop) : Prop :=
  (kAlloc w #[(.int .i64 x_0), (.int .i64 x_1), (.int .i64 x_2), (.int .i64 x_3), (.int .i64 x_4), (.int .i64 x_5), (.int .i64 x_6), (.int .i64 x_7), (.slice x_8_a x_8_l x_8_c), (.int .i64 x_9), (.int .i64 x_10), (.int .i64 x_11), (.bool x_12)] Ty_api_Sender fun b w1 =>
  (kAlloc w1 #[.int .i64 (0 : Int), .int .i64 (0 : Int), .int .i64 (0 : Int), .int .i64 (0 : Int), .int .i64 (0 : Int), .int .i64 (0 : Int), .int .i64 (0 : Int), .int .i64 (0 : Int), .slice none 0 0, .int .i64 (0 : Int), .int .i64 (0 : Int), .int .i64 (0 : Int), .bool false] Ty_api_Sender fun b1 w2 =>
  (∃ x_01 x_13 x_21 x_31 x_41 x_51 x_61 x_71 : Int, ∃ x_8_a1 : Option Addr, ∃ x_8_l1 x_8_c1 : Nat, ∃ x_91 x_101 x_111 : Int, ∃ x_121 : Bool, cellsAt w2 ⟨b, 0, none⟩ 0 [(.int .i64 x_01), (.int .i64 x_13), (.int .i64 x_21), (.int .i64 x_31), (.int .i64 x_41), (.int .i64 x_51), (.int .i64 x_61), (.int .i64 x_71), (.slice x_8_a1 x_8_l1 x_8_c1), (.int .i64 x_91), (.int .i64 x_101), (.int .i64 x_111), (.bool x_121)] ∧
  (Calls Try.prog N_sender_begin #[(.agg #[.int .i64 x_01, .int .i64 x_13, .int .i64 x_21, .int .i64 x_31, .int .i64 x_41, .int .i64 x_51, .int .i64 x_61, .int .i64 x_71, .slice x_8_a1 x_8_l1 x_8_c1, .int .i64 x_91, .int .i64 x_101, .int .i64 x_111, .bool x_121])] w2 fun e_ w3 =>
  ∃ r : Option Addr, ∃ r1 : Int, e_ = .returned (.tuple #[(.pointer r), (.int .i64 r1)]) ∧
  (kLet (!decide (r1 = (0 : Int))) fun x =>
  (bsplit x
    ((sxStore w3 ⟨b1, 0, none⟩ 0 [(.int .i64 (0 : Int)), (.int .i64 (0 : Int)), (.int .i64 (0 : Int)), (.int .i64 (0 : Int)), (.int .i64 (0 : Int)), (.int .i64 (0 : Int)), (.int .i64 (0 : Int)), (.int .i64 (0 : Int)), (.slice none 0 0), (.int .i64 (0 : Int)), (.int .i64 (0 : Int)), (.int .i64 (0 : Int)), (.bool false)] fun w4 =>
    (∃ r_0 r_1 r_2 r_3 r_4 r_5 r_6 r_7 : Int, ∃ r_8_a : Option Addr, ∃ r_8_l r_8_c : Nat, ∃ r_9 r_10 r_11 : Int, ∃ r_12 : Bool, cellsAt w4 ⟨b1, 0, none⟩ 0 [(.int .i64 r_0), (.int .i64 r_1), (.int .i64 r_2), (.int .i64 r_3), (.int .i64 r_4), (.int .i64 r_5), (.int .i64 r_6), (.int .i64 r_7), (.slice r_8_a r_8_l r_8_c), (.int .i64 r_9), (.int .i64 r_10), (.int .i64 r_11), (.bool r_12)] ∧
    R (.tuple #[(.agg #[.int .i64 r_0, .int .i64 r_1, .int .i64 r_2, .int .i64 r_3, .int .i64 r_4, .int .i64 r_5, .int .i64 r_6, .int .i64 r_7, .slice r_8_a r_8_l r_8_c, .int .i64 r_9, .int .i64 r_10, .int .i64 r_11, .bool r_12]), (.int .i64 r1)]) w4)))
    ((Calls Try.prog N_sender_between #[(.int .i64 (data_l : Int)), (.int .i64 (1 : Int)), (.int .i64 (2054 : Int))] w3 fun e_1 w5 =>
    ∃ r2 : Bool, e_1 = .returned (.bool r2) ∧
    (bsplit (!r2)
      ((sxStore w5 ⟨b1, 0, none⟩ 0 [(.int .i64 (0 : Int)), (.int .i64 (0 : Int)), (.int .i64 (0 : Int)), (.int .i64 (0 : Int)), (.int .i64 (0 : Int)), (.int .i64 (0 : Int)), (.int .i64 (0 : Int)), (.int .i64 (0 : Int)), (.slice none 0 0), (.int .i64 (0 : Int)), (.int .i64 (0 : Int)), (.int .i64 (0 : Int)), (.bool false)] fun w6 =>
      (∃ r_01 r_13 r_21 r_31 r_41 r_51 r_61 r_71 : Int, ∃ r_8_a1 : Option Addr, ∃ r_8_l1 r_8_c1 : Nat, ∃ r_91 r_101 r_111 : Int, ∃ r_121 : Bool, cellsAt w6 ⟨b1, 0, none⟩ 0 [(.int .i64 r_01), (.int .i64 r_13), (.int .i64 r_21), (.int .i64 r_31), (.int .i64 r_41), (.int .i64 r_51), (.int .i64 r_61), (.int .i64 r_71), (.slice r_8_a1 r_8_l1 r_8_c1), (.int .i64 r_91), (.int .i64 r_101), (.int .i64 r_111), (.bool r_121)] ∧
      R (.tuple #[(.agg #[.int .i64 r_01, .int .i64 r_13, .int .i64 r_21, .int .i64 r_31, .int .i64 r_41, .int .i64 r_51, .int .i64 r_61, .int .i64 r_71, .slice r_8_a1 r_8_l1 r_8_c1, .int .i64 r_91, .int .i64 r_101, .int .i64 r_111, .bool r_121]), (.int .i64 (2 : Int))]) w6)))
      ((kDrew w5 fun w7 =>
      (∃ S : Nat → Prop,
      (kNil r fun x1 =>
      (kLd w7 (x1.add 7) .i64 fun x2 =>
      (kNil r fun x3 =>
      (S x3.block ∧
      (kLd w7 x3 .i64 fun x4 =>
      (kW .i64 (x4 - (1 : Int)) fun x5 =>
      (0 ≤ x5 ∧ (kW .i64 ((1 : Int) * 2 ^ (min x5.toNat (IntKind.bits .i64))) fun x6 =>
      (Calls Try.prog N_sender_side_place #[(.pointer r), (.int .i64 x2)] w7 fun e_2 w8 =>
      ∃ r3 : Int, e_2 = .returned (.int .i64 r3) ∧
      (KeepsB S w7 w8 ∧ (kLet (decide (r3 = x6)) fun x7 =>
      (bsplit x7
        ((sxStore w8 ⟨b1, 0, none⟩ 0 [(.int .i64 (0 : Int)), (.int .i64 (0 : Int)), (.int .i64 (0 : Int)), (.int .i64 (0 : Int)), (.int .i64 (0 : Int)), (.int .i64 (0 : Int)), (.int .i64 (0 : Int)), (.int .i64 (0 : Int)), (.slice none 0 0), (.int .i64 (0 : Int)), (.int .i64 (0 : Int)), (.int .i64 (0 : Int)), (.bool false)] fun w9 =>
        (∃ r_02 r_14 r_22 r_32 r_42 r_52 r_62 r_72 : Int, ∃ r_8_a2 : Option Addr, ∃ r_8_l2 r_8_c2 : Nat, ∃ r_92 r_102 r_112 : Int, ∃ r_122 : Bool, cellsAt w9 ⟨b1, 0, none⟩ 0 [(.int .i64 r_02), (.int .i64 r_14), (.int .i64 r_22), (.int .i64 r_32), (.int .i64 r_42), (.int .i64 r_52), (.int .i64 r_62), (.int .i64 r_72), (.slice r_8_a2 r_8_l2 r_8_c2), (.int .i64 r_92), (.int .i64 r_102), (.int .i64 r_112), (.bool r_122)] ∧
        R (.tuple #[(.agg #[.int .i64 r_02, .int .i64 r_14, .int .i64 r_22, .int .i64 r_32, .int .i64 r_42, .int .i64 r_52, .int .i64 r_62, .int .i64 r_72, .slice r_8_a2 r_8_l2 r_8_c2, .int .i64 r_92, .int .i64 r_102, .int .i64 r_112, .bool r_122]), (.int .i64 (13 : Int))]) w9)))
        ((kDrew w8 fun w10 =>
        (∃ S1 : Nat → Prop,
        (kNil r fun x8 =>
        (S1 (x8.add 8).block ∧
        (kLdS w10 (x8.add 8) fun x_a x_l x_c =>
        (kNil r fun x9 =>
        (S1 (x9.add 7).block ∧
        (kLd w10 (x9.add 7) .i64 fun x10 =>
        (Calls Try.prog N_slices_Clone_Sbyte_byte #[(.slice data_a data_l data_c)] w10 fun e_3 w11 =>
        ∃ r_a : Option Addr, ∃ r_l r_c : Nat, e_3 = .returned (.slice r_a r_l r_c) ∧
        (KeepsB S1 w10 w11 ∧ (KeepsB S1 w10 w11 ∧ (kAlloc w11 #[(.int .i64 x10), (.slice r_a r_l r_c), (.int .i64 (0 : Int)), (.int .i64 (0 : Int)), (.slice none 0 0)] Ty_api_Unit fun b2 w12 =>
        (KeepsB S1 w10 w12 ∧ (AppP Try.prog #[Ty_S_api_Unit, Ty_S_api_Unit] Ty_S_api_Unit #[(.slice x_a x_l x_c), (.slice (some ⟨b2, 0, none⟩) 1 1)] w12 fun x_a1 x_l1 x_c1 w13 =>
        (KeepsB S1 w10 w13 ∧ (kNil r fun x11 =>
        (kSet w13 (x11.add 8) (.slice x_a1 x_l1 x_c1) fun w14 =>
        (kDrew w14 fun w15 =>
        (∃ S2 : Nat → Prop,
        (kNil r fun x12 =>
        (kLd w15 x12 .i64 fun x13 =>
        (kNil r fun x14 =>
        (kLd w15 (x14.add 7) .i64 fun x15 =>
        (kW .i64 (x15 + (1 : Int)) fun x16 =>
        (Calls Try.prog N_serial_Low #[(.int .i64 x13), (.int .i64 x16)] w15 fun e_4 w16 =>
        ∃ r4 : Int, e_4 = .returned (.int .i64 r4) ∧
        (KeepsB S2 w15 w16 ∧ (kNil r fun x17 =>
        (kSet w16 (x17.add 7) (.int .i64 r4) fun w17 =>
        (kNil r fun x18 =>
        (∃ x_02 x_14 x_22 x_32 x_42 x_52 x_62 x_72 : Int, ∃ x_8_a2 : Option Addr, ∃ x_8_l2 x_8_c2 : Nat, ∃ x_92 x_102 x_112 : Int, ∃ x_122 : Bool, cellsAt w17 x18 0 [(.int .i64 x_02), (.int .i64 x_14), (.int .i64 x_22), (.int .i64 x_32), (.int .i64 x_42), (.int .i64 x_52), (.int .i64 x_62), (.int .i64 x_72), (.slice x_8_a2 x_8_l2 x_8_c2), (.int .i64 x_92), (.int .i64 x_102), (.int .i64 x_112), (.bool x_122)] ∧
        (sxStore w17 ⟨b1, 0, none⟩ 0 [(.int .i64 x_02), (.int .i64 x_14), (.int .i64 x_22), (.int .i64 x_32), (.int .i64 x_42), (.int .i64 x_52), (.int .i64 x_62), (.int .i64 x_72), (.slice x_8_a2 x_8_l2 x_8_c2), (.int .i64 x_92), (.int .i64 x_102), (.int .i64 x_112), (.bool x_122)] fun w18 =>
        (∃ r_03 r_15 r_23 r_33 r_43 r_53 r_63 r_73 : Int, ∃ r_8_a3 : Option Addr, ∃ r_8_l3 r_8_c3 : Nat, ∃ r_93 r_103 r_113 : Int, ∃ r_123 : Bool, cellsAt w18 ⟨b1, 0, none⟩ 0 [(.int .i64 r_03), (.int .i64 r_15), (.int .i64 r_23), (.int .i64 r_33), (.int .i64 r_43), (.int .i64 r_53), (.int .i64 r_63), (.int .i64 r_73), (.slice r_8_a3 r_8_l3 r_8_c3), (.int .i64 r_93), (.int .i64 r_103), (.int .i64 r_113), (.bool r_123)] ∧
        R (.tuple #[(.agg #[.int .i64 r_03, .int .i64 r_15, .int .i64 r_23, .int .i64 r_33, .int .i64 r_43, .int .i64 r_53, .int .i64 r_63, .int .i64 r_73, .slice r_8_a3 r_8_l3 r_8_c3, .int .i64 r_93, .int .i64 r_103, .int .i64 r_113, .bool r_123]), (.int .i64 (0 : Int))]) w18)))))))))))))))))))))))))))))))))))))))))))))))))))))))))
theorem F_sender_Submit_eq (x_0 : Int) (x_1 : Int) (x_2 : Int) (x_3 : Int) (x_4 : Int) (x_5 : Int) (x_6 : Int) (x_7 : Int) (x_8_a : Option Addr) (x_8_l : Nat) (x_8_c : Nat) (x_9 : Int) (x_10 : Int) (x_11 : Int) (x_12 : Bool) (data_a : Option Addr) (data_l : Nat) (data_c : Nat) (w : World) (R : Value → World → Prop) : sxFn Try.prog TT h_sender_Submit Try.f16 #[(.agg #[.int .i64 x_0, .int .i64 x_1, .int .i64 x_2, .int .i64 x_3, .int .i64 x_4, .int .i64 x_5, .int .i64 x_6, .int .i64 x_7, .slice x_8_a x_8_l x_8_c, .int .i64 x_9, .int .i64 x_10, .int .i64 x_11, .bool x_12]), (.slice data_a data_l data_c)] w R = F_sender_Submit x_0 x_1 x_2 x_3 x_4 x_5 x_6 x_7 x_8_a x_8_l x_8_c x_9 x_10 x_11 x_12 data_a data_l data_c w R := by kernel_rfl
theorem F_sender_Submit_ok {R : Ending → World → Prop} (x_0 : Int) (x_1 : Int) (x_2 : Int) (x_3 : Int) (x_4 : Int) (x_5 : Int) (x_6 : Int) (x_7 : Int) (x_8_a : Option Addr) (x_8_l : Nat) (x_8_c : Nat) (x_9 : Int) (x_10 : Int) (x_11 : Int) (x_12 : Bool) (data_a : Option Addr) (data_l : Nat) (data_c : Nat) (w : World) (h : F_sender_Submit x_0 x_1 x_2 x_3 x_4 x_5 x_6 x_7 x_8_a x_8_l x_8_c x_9 x_10 x_11 x_12 data_a data_l data_c w fun v w' => R (.returned v) w') : Calls Try.prog N_sender_Submit #[(.agg #[.int .i64 x_0, .int .i64 x_1, .int .i64 x_2, .int .i64 x_3, .int .i64 x_4, .int .i64 x_5, .int .i64 x_6, .int .i64 x_7, .slice x_8_a x_8_l x_8_c, .int .i64 x_9, .int .i64 x_10, .int .i64 x_11, .bool x_12]), (.slice data_a data_l data_c)] w R :=
  calls_of (f := 16) follows_ok Try.func16 (Eq.mpr (F_sender_Submit_eq x_0 x_1 x_2 x_3 x_4 x_5 x_6 x_7 x_8_a x_8_l x_8_c x_9 x_10 x_11 x_12 data_a data_l data_c w _) h)

def h_sender_Build : H := (.seq .reg (.seq .reg (.seq (.seq .reg (.cond (.seq .reg .leaf) .leaf)) (.seq .reg (.seq (.block (.seq .reg (.cond (.seq .reg .leaf) (.seq .reg (.cond (.seq .reg .leaf) .leaf))))) (.seq .reg (.seq .reg (.cut [(12, .p .addr)] [12, 47, 48, 49, 50, 51, 52, 53, 54, 55, 56, 57, 58, 59, 60, 61, 62, 63, 64, 65, 66, 67, 68, 69, 70, 71, 72, 73, 74] (.draw .blk (.one 0 .stable (.one 1 .stable (.one 2 .stable (.one 3 .stable (.one 4 .stable (.one 5 .stable (.one 6 .stable (.one 7 .stable (.one 8 .stable (.one 9 .stable (.one 10 .stable (.one 11 .stable (.one 12 .stable (.one 13 .stable (.one 14 .stable (.one 16 .stable (.one 17 .stable (.one 18 .stable (.one 19 .stable (.one 20 .stable (.one 21 .stable (.one 22 .stable (.one 23 .stable (.one 24 .stable (.one 25 .stable (.one 26 .stable (.alt 15 (.alt 27 (.one 28 .keep (.one 29 .last .nil)) (.alt 28 (.one 27 .keep (.one 29 .last .nil)) .endAlt)) (.alt 28 (.one 15 .keep (.one 27 .keep (.one 29 .last .nil))) .endAlt))))))))))))))))))))))))))))) (.cut [(8, .p (.int .i64)), (13, .p .addr)] [8, 13, 14, 75, 76, 77, 78, 79, 80, 81, 82, 83, 84, 85, 86, 87] (.draw .blk (.one 0 .stable (.one 1 .stable (.one 2 .stable (.one 3 .stable (.one 4 .stable (.one 5 .stable (.one 6 .stable (.one 7 .stable (.alt 8 (.one 9 .stable (.one 10 .stable (.one 11 .stable (.one 12 .stable (.alt 13 (.one 14 .keep (.one 15 .keep (.one 16 .keep (.one 17 .stable .nil)))) (.alt 14 (.one 13 .keep (.one 15 .keep (.one 16 .keep (.one 17 .stable .nil)))) .endAlt)))))) (.alt 13 (.alt 8 (.one 9 .stable (.one 10 .stable (.one 11 .stable (.one 12 .stable (.one 14 .keep (.one 15 .keep (.one 16 .keep (.one 17 .stable .nil)))))))) (.alt 14 (.one 8 .keep (.one 9 .stable (.one 10 .stable (.one 11 .stable (.one 12 .stable (.one 15 .keep (.one 16 .keep (.one 17 .stable .nil)))))))) .endAlt)) (.alt 14 (.alt 8 (.one 9 .stable (.one 10 .stable (.one 11 .stable (.one 12 .stable (.one 13 .keep (.one 15 .keep (.one 16 .keep (.one 17 .stable .nil)))))))) (.alt 13 (.one 8 .keep (.one 9 .stable (.one 10 .stable (.one 11 .stable (.one 12 .stable (.one 15 .keep (.one 16 .keep (.one 17 .stable .nil)))))))) .endAlt)) .endAlt)))))))))))) (.seq (.seq .reg (.cond (.seq .reg .leaf) .leaf)) (.seq .reg (.seq .reg (.cut [] [106, 107, 108, 109, 110, 111, 112, 113, 114, 115, 116, 117, 118, 119, 120, 121, 122, 123, 124] (.seq (.draw .blk (.one 0 .pre (.one 1 .pre (.one 2 .pre (.one 3 .pre (.one 4 .pre (.one 5 .pre (.one 6 .pre (.one 7 .pre (.one 8 .pre (.one 9 .pre (.one 10 .pre (.one 11 .pre (.one 12 .pre (.one 13 .pre (.one 14 .keep (.one 15 .stable (.one 16 .stable .nil)))))))))))))))))) (.cond .reg .leaf)) (.seq (.draw .blk (.one 0 .pre (.one 1 .pre (.one 2 .pre (.one 3 .pre (.one 4 .pre (.one 5 .pre (.one 6 .pre (.one 7 .keep (.one 8 .stable (.one 9 .stable (.one 10 .stable (.one 11 .stable (.one 12 .stable .nil)))))))))))))) (.seq .reg .leaf)))))))))))))))
def F_sender_Build (x_0 : Int) (x_1 : Int) (x_2 : Int) (x_3 : Int) (x_4 : Int) (x_5 : Int) (x_6 : Int) (x_7 : Int) (x_8_a : Option Addr) (x_8_l : Nat) (x_8_c : Nat) (x_9 : Int) (x_10 : Int) (x_11 : Int) (x_12 : Bool) (size : Int) (w : World) (R : Value → World → Prop) : Prop :=
  (kAlloc w #[(.int .i64 x_0), (.int .i64 x_1), (.int .i64 x_2), (.int .i64 x_3), (.int .i64 x_4), (.int .i64 x_5), (.int .i64 x_6), (.int .i64 x_7), (.slice x_8_a x_8_l x_8_c), (.int .i64 x_9), (.int .i64 x_10), (.int .i64 x_11), (.bool x_12)] Ty_api_Sender fun b w1 =>
  (kAlloc w1 #[.int .i64 (0 : Int), .int .i64 (0 : Int), .int .i64 (0 : Int), .int .i64 (0 : Int), .int .i64 (0 : Int), .int .i64 (0 : Int), .int .i64 (0 : Int), .int .i64 (0 : Int), .slice none 0 0, .int .i64 (0 : Int), .int .i64 (0 : Int), .int .i64 (0 : Int), .bool false] Ty_api_Sender fun b1 w2 =>
  (∃ x_01 x_13 x_21 x_31 x_41 x_51 x_61 x_71 : Int, ∃ x_8_a1 : Option Addr, ∃ x_8_l1 x_8_c1 : Nat, ∃ x_91 x_101 x_111 : Int, ∃ x_121 : Bool, cellsAt w2 ⟨b, 0, none⟩ 0 [(.int .i64 x_01), (.int .i64 x_13), (.int .i64 x_21), (.int .i64 x_31), (.int .i64 x_41), (.int .i64 x_51), (.int .i64 x_61), (.int .i64 x_71), (.slice x_8_a1 x_8_l1 x_8_c1), (.int .i64 x_91), (.int .i64 x_101), (.int .i64 x_111), (.bool x_121)] ∧
  (Calls Try.prog N_sender_begin #[(.agg #[.int .i64 x_01, .int .i64 x_13, .int .i64 x_21, .int .i64 x_31, .int .i64 x_41, .int .i64 x_51, .int .i64 x_61, .int .i64 x_71, .slice x_8_a1 x_8_l1 x_8_c1, .int .i64 x_91, .int .i64 x_101, .int .i64 x_111, .bool x_121])] w2 fun e_ w3 =>
  ∃ r : Option Addr, ∃ r1 : Int, e_ = .returned (.tuple #[(.pointer r), (.int .i64 r1)]) ∧
  (bsplit (!decide (r1 = (0 : Int)))
    ((sxStore w3 ⟨b1, 0, none⟩ 0 [(.int .i64 (0 : Int)), (.int .i64 (0 : Int)), (.int .i64 (0 : Int)), (.int .i64 (0 : Int)), (.int .i64 (0 : Int)), (.int .i64 (0 : Int)), (.int .i64 (0 : Int)), (.int .i64 (0 : Int)), (.slice none 0 0), (.int .i64 (0 : Int)), (.int .i64 (0 : Int)), (.int .i64 (0 : Int)), (.bool false)] fun w4 =>
    (∃ r_0 r_1 r_2 r_3 r_4 r_5 r_6 r_7 : Int, ∃ r_8_a : Option Addr, ∃ r_8_l r_8_c : Nat, ∃ r_9 r_10 r_11 : Int, ∃ r_12 : Bool, cellsAt w4 ⟨b1, 0, none⟩ 0 [(.int .i64 r_0), (.int .i64 r_1), (.int .i64 r_2), (.int .i64 r_3), (.int .i64 r_4), (.int .i64 r_5), (.int .i64 r_6), (.int .i64 r_7), (.slice r_8_a r_8_l r_8_c), (.int .i64 r_9), (.int .i64 r_10), (.int .i64 r_11), (.bool r_12)] ∧
    R (.tuple #[(.agg #[.int .i64 r_0, .int .i64 r_1, .int .i64 r_2, .int .i64 r_3, .int .i64 r_4, .int .i64 r_5, .int .i64 r_6, .int .i64 r_7, .slice r_8_a r_8_l r_8_c, .int .i64 r_9, .int .i64 r_10, .int .i64 r_11, .bool r_12]), (.slice none 0 0), (.int .i64 r1)]) w4)))
    ((Calls Try.prog N_sender_side_left #[(.pointer r)] w3 fun e_1 w5 =>
    ∃ r2 : Int, e_1 = .returned (.int .i64 r2) ∧
    (Calls Try.prog N_sender_between #[(.int .i64 size), (.int .i64 (0 : Int)), (.int .i64 (4096 : Int))] w5 fun e_2 w6 =>
    ∃ r3 : Bool, e_2 = .returned (.bool r3) ∧
    (bsplit (!r3)
      ((sxStore w6 ⟨b1, 0, none⟩ 0 [(.int .i64 (0 : Int)), (.int .i64 (0 : Int)), (.int .i64 (0 : Int)), (.int .i64 (0 : Int)), (.int .i64 (0 : Int)), (.int .i64 (0 : Int)), (.int .i64 (0 : Int)), (.int .i64 (0 : Int)), (.slice none 0 0), (.int .i64 (0 : Int)), (.int .i64 (0 : Int)), (.int .i64 (0 : Int)), (.bool false)] fun w7 =>
      (∃ r_01 r_13 r_21 r_31 r_41 r_51 r_61 r_71 : Int, ∃ r_8_a1 : Option Addr, ∃ r_8_l1 r_8_c1 : Nat, ∃ r_91 r_101 r_111 : Int, ∃ r_121 : Bool, cellsAt w7 ⟨b1, 0, none⟩ 0 [(.int .i64 r_01), (.int .i64 r_13), (.int .i64 r_21), (.int .i64 r_31), (.int .i64 r_41), (.int .i64 r_51), (.int .i64 r_61), (.int .i64 r_71), (.slice r_8_a1 r_8_l1 r_8_c1), (.int .i64 r_91), (.int .i64 r_101), (.int .i64 r_111), (.bool r_121)] ∧
      R (.tuple #[(.agg #[.int .i64 r_01, .int .i64 r_13, .int .i64 r_21, .int .i64 r_31, .int .i64 r_41, .int .i64 r_51, .int .i64 r_61, .int .i64 r_71, .slice r_8_a1 r_8_l1 r_8_c1, .int .i64 r_91, .int .i64 r_101, .int .i64 r_111, .bool r_121]), (.slice none 0 0), (.int .i64 (3 : Int))]) w7)))
      ((kLet (decide (r2 < (0 : Int))) fun x =>
      (bsplit x
        ((sxStore w6 ⟨b1, 0, none⟩ 0 [(.int .i64 (0 : Int)), (.int .i64 (0 : Int)), (.int .i64 (0 : Int)), (.int .i64 (0 : Int)), (.int .i64 (0 : Int)), (.int .i64 (0 : Int)), (.int .i64 (0 : Int)), (.int .i64 (0 : Int)), (.slice none 0 0), (.int .i64 (0 : Int)), (.int .i64 (0 : Int)), (.int .i64 (0 : Int)), (.bool false)] fun w8 =>
        (∃ r_02 r_14 r_22 r_32 r_42 r_52 r_62 r_72 : Int, ∃ r_8_a2 : Option Addr, ∃ r_8_l2 r_8_c2 : Nat, ∃ r_92 r_102 r_112 : Int, ∃ r_122 : Bool, cellsAt w8 ⟨b1, 0, none⟩ 0 [(.int .i64 r_02), (.int .i64 r_14), (.int .i64 r_22), (.int .i64 r_32), (.int .i64 r_42), (.int .i64 r_52), (.int .i64 r_62), (.int .i64 r_72), (.slice r_8_a2 r_8_l2 r_8_c2), (.int .i64 r_92), (.int .i64 r_102), (.int .i64 r_112), (.bool r_122)] ∧
        R (.tuple #[(.agg #[.int .i64 r_02, .int .i64 r_14, .int .i64 r_22, .int .i64 r_32, .int .i64 r_42, .int .i64 r_52, .int .i64 r_62, .int .i64 r_72, .slice r_8_a2 r_8_l2 r_8_c2, .int .i64 r_92, .int .i64 r_102, .int .i64 r_112, .bool r_122]), (.slice none 0 0), (.int .i64 (14 : Int))]) w8)))
        ((kNil r fun x1 =>
        (kLdS w6 (x1.add 8) fun x_a x_l _ =>
        (kIx x_a x_l r2 fun b2 =>
        (∃ x_02 : Int, ∃ x_1_a : Option Addr, ∃ x_1_l x_1_c : Nat, ∃ x_22 x_32 : Int, ∃ x_4_a : Option Addr, ∃ x_4_l x_4_c : Nat, cellsAt w6 (b2.add (r2.toNat * 5)) 0 [(.int .i64 x_02), (.slice x_1_a x_1_l x_1_c), (.int .i64 x_22), (.int .i64 x_32), (.slice x_4_a x_4_l x_4_c)] ∧
        (Calls Try.prog N_sender_part #[(.agg #[.int .i64 x_02, .slice x_1_a x_1_l x_1_c, .int .i64 x_22, .int .i64 x_32, .slice x_4_a x_4_l x_4_c])] w6 fun e_3 w9 =>
        ∃ r_03 r_15 r_23 : Int, e_3 = .returned (.agg #[.int .i64 r_03, .int .i64 r_15, .int .i64 r_23]) ∧
        (kAlloc w9 #[.int .i64 (0 : Int), .int .i64 (0 : Int), .int .i64 (0 : Int)] Ty_api_Range fun b3 w10 =>
        (sxStore w10 ⟨b3, 0, none⟩ 0 [(.int .i64 r_03), (.int .i64 r_15), (.int .i64 r_23)] fun w11 =>
        (∃ J : Addr → World → Prop,
        (∀ (_junk : Env) (whole : Addr) (w21 : World), J whole w21 →
          (∃ J1 : Int → Addr → World → Prop,
          (∀ (_junk : Env) (e1 : Int) (p : Addr) (w50 : World), J1 e1 p w50 →
            (bsplit (!decide (e1 = (0 : Int)))
              ((sxStore w50 ⟨b1, 0, none⟩ 0 [(.int .i64 (0 : Int)), (.int .i64 (0 : Int)), (.int .i64 (0 : Int)), (.int .i64 (0 : Int)), (.int .i64 (0 : Int)), (.int .i64 (0 : Int)), (.int .i64 (0 : Int)), (.int .i64 (0 : Int)), (.slice none 0 0), (.int .i64 (0 : Int)), (.int .i64 (0 : Int)), (.int .i64 (0 : Int)), (.bool false)] fun w51 =>
              (∃ r_014 r_118 r_214 r_313 r_43 r_53 r_63 r_73 : Int, ∃ r_8_a3 : Option Addr, ∃ r_8_l3 r_8_c3 : Nat, ∃ r_93 r_103 r_119 : Int, ∃ r_123 : Bool, cellsAt w51 ⟨b1, 0, none⟩ 0 [(.int .i64 r_014), (.int .i64 r_118), (.int .i64 r_214), (.int .i64 r_313), (.int .i64 r_43), (.int .i64 r_53), (.int .i64 r_63), (.int .i64 r_73), (.slice r_8_a3 r_8_l3 r_8_c3), (.int .i64 r_93), (.int .i64 r_103), (.int .i64 r_119), (.bool r_123)] ∧
              R (.tuple #[(.agg #[.int .i64 r_014, .int .i64 r_118, .int .i64 r_214, .int .i64 r_313, .int .i64 r_43, .int .i64 r_53, .int .i64 r_63, .int .i64 r_73, .slice r_8_a3 r_8_l3 r_8_c3, .int .i64 r_93, .int .i64 r_103, .int .i64 r_119, .bool r_123]), (.slice none 0 0), (.int .i64 e1)]) w51)))
              ((kLdS w50 (p.add 4) fun _ x_l3 _ =>
              (Calls Try.prog N_sender_take #[(.pointer (some (b2.add (r2.toNat * 5)))), (.int .i64 (x_l3 : Int))] w50 fun e_11 w52 =>
              e_11 = .returned (.tuple #[]) ∧
              (kNil r fun x10 =>
              (kLd w52 (x10.add 9) .i64 fun x11 =>
              (kW .i64 (x11 + (1 : Int)) fun x12 =>
              (kNil r fun x13 =>
              (kSet w52 (x13.add 9) (.int .i64 x12) fun w53 =>
              (∃ J2 : World → Prop,
              (∀ (_junk : Env)  (w58 : World), J2 w58 →
                (kDrew w58 fun w59 =>
                (∃ S3 : Nat → Prop,
                (kNil r fun x18 =>
                (kLd w59 x18 .i64 fun x19 =>
                (∃ x_04 x_15 x_24 x_34 : Int, ∃ x_4_a2 : Option Addr, ∃ x_4_l2 x_4_c2 : Nat, cellsAt w59 p 0 [(.int .i64 x_04), (.int .i64 x_15), (.int .i64 x_24), (.int .i64 x_34), (.slice x_4_a2 x_4_l2 x_4_c2)] ∧
                (Calls Try.prog N_segment_Encode #[(.int .i64 x19), (.agg #[.int .i64 x_04, .int .i64 x_15, .int .i64 x_24, .int .i64 x_34, .slice x_4_a2 x_4_l2 x_4_c2])] w59 fun e_15 w60 =>
                ∃ r_a : Option Addr, ∃ r_l r_c : Nat, ∃ r12 : Int, e_15 = .returned (.tuple #[(.slice r_a r_l r_c), (.int .i64 r12)]) ∧
                (KeepsB S3 w59 w60 ∧ (kNil r fun x20 =>
                (∃ x_05 x_16 x_25 x_35 x_42 x_52 x_62 x_72 : Int, ∃ x_8_a2 : Option Addr, ∃ x_8_l2 x_8_c2 : Nat, ∃ x_92 x_102 x_112 : Int, ∃ x_122 : Bool, cellsAt w60 x20 0 [(.int .i64 x_05), (.int .i64 x_16), (.int .i64 x_25), (.int .i64 x_35), (.int .i64 x_42), (.int .i64 x_52), (.int .i64 x_62), (.int .i64 x_72), (.slice x_8_a2 x_8_l2 x_8_c2), (.int .i64 x_92), (.int .i64 x_102), (.int .i64 x_112), (.bool x_122)] ∧
                (sxStore w60 ⟨b1, 0, none⟩ 0 [(.int .i64 x_05), (.int .i64 x_16), (.int .i64 x_25), (.int .i64 x_35), (.int .i64 x_42), (.int .i64 x_52), (.int .i64 x_62), (.int .i64 x_72), (.slice x_8_a2 x_8_l2 x_8_c2), (.int .i64 x_92), (.int .i64 x_102), (.int .i64 x_112), (.bool x_122)] fun w61 =>
                (∃ r_015 r_120 r_215 r_314 r_44 r_54 r_64 r_74 : Int, ∃ r_8_a4 : Option Addr, ∃ r_8_l4 r_8_c4 : Nat, ∃ r_94 r_104 r_1110 : Int, ∃ r_124 : Bool, cellsAt w61 ⟨b1, 0, none⟩ 0 [(.int .i64 r_015), (.int .i64 r_120), (.int .i64 r_215), (.int .i64 r_314), (.int .i64 r_44), (.int .i64 r_54), (.int .i64 r_64), (.int .i64 r_74), (.slice r_8_a4 r_8_l4 r_8_c4), (.int .i64 r_94), (.int .i64 r_104), (.int .i64 r_1110), (.bool r_124)] ∧
                R (.tuple #[(.agg #[.int .i64 r_015, .int .i64 r_120, .int .i64 r_215, .int .i64 r_314, .int .i64 r_44, .int .i64 r_54, .int .i64 r_64, .int .i64 r_74, .slice r_8_a4 r_8_l4 r_8_c4, .int .i64 r_94, .int .i64 r_104, .int .i64 r_1110, .bool r_124]), (.slice r_a r_l r_c), (.int .i64 r12)]) w61)))))))))))) ∧
              (kDrew w53 fun w54 =>
              (∃ S2 : Nat → Prop,
              (kNil r fun x14 =>
              (kLd w54 (x14.add 9) .i64 fun x15 =>
              (kNil r fun x16 =>
              (kLd w54 (x16.add 1) .i64 fun x17 =>
              (bsplit (decide (x15 = x17))
                ((Calls Try.prog N_sender_side_ask #[(.pointer r), (.pointer (some p))] w54 fun e_12 w55 =>
                  e_12 = .returned (.tuple #[]) ∧
                  J2 w55))
                ((Calls Try.prog N_sender_side_left #[(.pointer r)] w54 fun e_13 w56 =>
                ∃ r11 : Int, e_13 = .returned (.int .i64 r11) ∧
                (KeepsB S2 w54 w56 ∧ (bsplit (decide (r11 < (0 : Int)))
                  ((Calls Try.prog N_sender_side_ask #[(.pointer r), (.pointer (some p))] w56 fun e_14 w57 =>
                  e_14 = .returned (.tuple #[]) ∧
                  J2 w57))
                  (J2 w56))))))))))))))))))))))) ∧
          (kDrew w21 fun w22 =>
          (∃ S1 : Nat → Prop,
          (kNil r fun x8 =>
          (S1 x8.block ∧
          (kLd w22 x8 .i64 fun x9 =>
          (S1 whole.block ∧
          (∃ x_03 x_14 x_23 x_33 : Int, ∃ x_4_a1 : Option Addr, ∃ x_4_l1 x_4_c1 : Nat, cellsAt w22 whole 0 [(.int .i64 x_03), (.int .i64 x_14), (.int .i64 x_23), (.int .i64 x_33), (.slice x_4_a1 x_4_l1 x_4_c1)] ∧
          ((Calls Try.prog N_segment_Cut #[(.int .i64 x9), (.agg #[.int .i64 x_03, .int .i64 x_14, .int .i64 x_23, .int .i64 x_33, .slice x_4_a1 x_4_l1 x_4_c1]), (.int .i64 size)] w22 fun e_10 w41 =>
          ∃ r_012 r_116 r_212 r_311 : Int, ∃ r_4_a8 : Option Addr, ∃ r_4_l8 r_4_c8 : Nat, ∃ r_013 r_117 r_213 r_312 : Int, ∃ r_4_a9 : Option Addr, ∃ r_4_l9 r_4_c9 : Nat, ∃ r10 : Int, e_10 = .returned (.tuple #[(.agg #[.int .i64 r_012, .int .i64 r_116, .int .i64 r_212, .int .i64 r_311, .slice r_4_a8 r_4_l8 r_4_c8]), (.agg #[.int .i64 r_013, .int .i64 r_117, .int .i64 r_213, .int .i64 r_312, .slice r_4_a9 r_4_l9 r_4_c9]), (.int .i64 r10)]) ∧
          (KeepsB S1 w22 w41 ∧ ((kAlloc w41 #[.int .i64 (0 : Int), .int .i64 (0 : Int), .int .i64 (0 : Int), .int .i64 (0 : Int), .slice none 0 0] Ty_api_Piece fun b15 w46 =>
          (KeepsB S1 w22 w46 ∧ (kAlloc w46 #[.int .i64 (0 : Int), .int .i64 (0 : Int), .int .i64 (0 : Int), .int .i64 (0 : Int), .slice none 0 0] Ty_api_Piece fun b16 w47 =>
          (KeepsB S1 w22 w47 ∧ (sxStore w47 ⟨b15, 0, none⟩ 0 [(.int .i64 r_012), (.int .i64 r_116), (.int .i64 r_212), (.int .i64 r_311), (.slice r_4_a8 r_4_l8 r_4_c8)] fun w48 =>
          (KeepsB S1 w22 w48 ∧ (sxStore w48 ⟨b16, 0, none⟩ 0 [(.int .i64 r_013), (.int .i64 r_117), (.int .i64 r_213), (.int .i64 r_312), (.slice r_4_a9 r_4_l9 r_4_c9)] fun w49 =>
          (KeepsB S1 w22 w49 ∧ J1 r10 ⟨b15, 0, none⟩ w49)))))))) ∧
          ((kAlloc w41 #[.int .i64 (0 : Int), .int .i64 (0 : Int), .int .i64 (0 : Int), .int .i64 (0 : Int), .slice none 0 0] Ty_api_Piece fun b13 w42 =>
          (KeepsB S1 w22 w42 ∧ (kAlloc w42 #[.int .i64 (0 : Int), .int .i64 (0 : Int), .int .i64 (0 : Int), .int .i64 (0 : Int), .slice none 0 0] Ty_api_Piece fun b14 w43 =>
          (KeepsB S1 w22 w43 ∧ (sxStore w43 ⟨b14, 0, none⟩ 0 [(.int .i64 r_012), (.int .i64 r_116), (.int .i64 r_212), (.int .i64 r_311), (.slice r_4_a8 r_4_l8 r_4_c8)] fun w44 =>
          (KeepsB S1 w22 w44 ∧ (sxStore w44 ⟨b13, 0, none⟩ 0 [(.int .i64 r_013), (.int .i64 r_117), (.int .i64 r_213), (.int .i64 r_312), (.slice r_4_a9 r_4_l9 r_4_c9)] fun w45 =>
          (KeepsB S1 w22 w45 ∧ J1 r10 ⟨b14, 0, none⟩ w45)))))))) ∧
          True)))) ∧
          ((kAlloc w22 #[.int .i64 (0 : Int), .int .i64 (0 : Int), .int .i64 (0 : Int), .int .i64 (0 : Int), .slice none 0 0] Ty_api_Piece fun b10 w32 =>
          (KeepsB S1 w22 w32 ∧ ((Calls Try.prog N_segment_Cut #[(.int .i64 x9), (.agg #[.int .i64 x_03, .int .i64 x_14, .int .i64 x_23, .int .i64 x_33, .slice x_4_a1 x_4_l1 x_4_c1]), (.int .i64 size)] w32 fun e_9 w37 =>
          ∃ r_010 r_114 r_210 r_39 : Int, ∃ r_4_a6 : Option Addr, ∃ r_4_l6 r_4_c6 : Nat, ∃ r_011 r_115 r_211 r_310 : Int, ∃ r_4_a7 : Option Addr, ∃ r_4_l7 r_4_c7 : Nat, ∃ r9 : Int, e_9 = .returned (.tuple #[(.agg #[.int .i64 r_010, .int .i64 r_114, .int .i64 r_210, .int .i64 r_39, .slice r_4_a6 r_4_l6 r_4_c6]), (.agg #[.int .i64 r_011, .int .i64 r_115, .int .i64 r_211, .int .i64 r_310, .slice r_4_a7 r_4_l7 r_4_c7]), (.int .i64 r9)]) ∧
          (KeepsB S1 w22 w37 ∧ (kAlloc w37 #[.int .i64 (0 : Int), .int .i64 (0 : Int), .int .i64 (0 : Int), .int .i64 (0 : Int), .slice none 0 0] Ty_api_Piece fun b12 w38 =>
          (KeepsB S1 w22 w38 ∧ (sxStore w38 ⟨b10, 0, none⟩ 0 [(.int .i64 r_010), (.int .i64 r_114), (.int .i64 r_210), (.int .i64 r_39), (.slice r_4_a6 r_4_l6 r_4_c6)] fun w39 =>
          (KeepsB S1 w22 w39 ∧ (sxStore w39 ⟨b12, 0, none⟩ 0 [(.int .i64 r_011), (.int .i64 r_115), (.int .i64 r_211), (.int .i64 r_310), (.slice r_4_a7 r_4_l7 r_4_c7)] fun w40 =>
          (KeepsB S1 w22 w40 ∧ J1 r9 ⟨b10, 0, none⟩ w40)))))))) ∧
          ((kAlloc w32 #[.int .i64 (0 : Int), .int .i64 (0 : Int), .int .i64 (0 : Int), .int .i64 (0 : Int), .slice none 0 0] Ty_api_Piece fun b11 w33 =>
          (KeepsB S1 w22 w33 ∧ (Calls Try.prog N_segment_Cut #[(.int .i64 x9), (.agg #[.int .i64 x_03, .int .i64 x_14, .int .i64 x_23, .int .i64 x_33, .slice x_4_a1 x_4_l1 x_4_c1]), (.int .i64 size)] w33 fun e_8 w34 =>
          ∃ r_08 r_110 r_28 r_37 : Int, ∃ r_4_a4 : Option Addr, ∃ r_4_l4 r_4_c4 : Nat, ∃ r_09 r_113 r_29 r_38 : Int, ∃ r_4_a5 : Option Addr, ∃ r_4_l5 r_4_c5 : Nat, ∃ r8 : Int, e_8 = .returned (.tuple #[(.agg #[.int .i64 r_08, .int .i64 r_110, .int .i64 r_28, .int .i64 r_37, .slice r_4_a4 r_4_l4 r_4_c4]), (.agg #[.int .i64 r_09, .int .i64 r_113, .int .i64 r_29, .int .i64 r_38, .slice r_4_a5 r_4_l5 r_4_c5]), (.int .i64 r8)]) ∧
          (KeepsB S1 w22 w34 ∧ (sxStore w34 ⟨b10, 0, none⟩ 0 [(.int .i64 r_08), (.int .i64 r_110), (.int .i64 r_28), (.int .i64 r_37), (.slice r_4_a4 r_4_l4 r_4_c4)] fun w35 =>
          (KeepsB S1 w22 w35 ∧ (sxStore w35 ⟨b11, 0, none⟩ 0 [(.int .i64 r_09), (.int .i64 r_113), (.int .i64 r_29), (.int .i64 r_38), (.slice r_4_a5 r_4_l5 r_4_c5)] fun w36 =>
          (KeepsB S1 w22 w36 ∧ J1 r8 ⟨b10, 0, none⟩ w36)))))))) ∧
          True)))) ∧
          ((kAlloc w22 #[.int .i64 (0 : Int), .int .i64 (0 : Int), .int .i64 (0 : Int), .int .i64 (0 : Int), .slice none 0 0] Ty_api_Piece fun b7 w23 =>
          (KeepsB S1 w22 w23 ∧ ((Calls Try.prog N_segment_Cut #[(.int .i64 x9), (.agg #[.int .i64 x_03, .int .i64 x_14, .int .i64 x_23, .int .i64 x_33, .slice x_4_a1 x_4_l1 x_4_c1]), (.int .i64 size)] w23 fun e_7 w28 =>
          ∃ r_06 r_18 r_26 r_35 : Int, ∃ r_4_a2 : Option Addr, ∃ r_4_l2 r_4_c2 : Nat, ∃ r_07 r_19 r_27 r_36 : Int, ∃ r_4_a3 : Option Addr, ∃ r_4_l3 r_4_c3 : Nat, ∃ r7 : Int, e_7 = .returned (.tuple #[(.agg #[.int .i64 r_06, .int .i64 r_18, .int .i64 r_26, .int .i64 r_35, .slice r_4_a2 r_4_l2 r_4_c2]), (.agg #[.int .i64 r_07, .int .i64 r_19, .int .i64 r_27, .int .i64 r_36, .slice r_4_a3 r_4_l3 r_4_c3]), (.int .i64 r7)]) ∧
          (KeepsB S1 w22 w28 ∧ (kAlloc w28 #[.int .i64 (0 : Int), .int .i64 (0 : Int), .int .i64 (0 : Int), .int .i64 (0 : Int), .slice none 0 0] Ty_api_Piece fun b9 w29 =>
          (KeepsB S1 w22 w29 ∧ (sxStore w29 ⟨b9, 0, none⟩ 0 [(.int .i64 r_06), (.int .i64 r_18), (.int .i64 r_26), (.int .i64 r_35), (.slice r_4_a2 r_4_l2 r_4_c2)] fun w30 =>
          (KeepsB S1 w22 w30 ∧ (sxStore w30 ⟨b7, 0, none⟩ 0 [(.int .i64 r_07), (.int .i64 r_19), (.int .i64 r_27), (.int .i64 r_36), (.slice r_4_a3 r_4_l3 r_4_c3)] fun w31 =>
          (KeepsB S1 w22 w31 ∧ J1 r7 ⟨b9, 0, none⟩ w31)))))))) ∧
          ((kAlloc w23 #[.int .i64 (0 : Int), .int .i64 (0 : Int), .int .i64 (0 : Int), .int .i64 (0 : Int), .slice none 0 0] Ty_api_Piece fun b8 w24 =>
          (KeepsB S1 w22 w24 ∧ (Calls Try.prog N_segment_Cut #[(.int .i64 x9), (.agg #[.int .i64 x_03, .int .i64 x_14, .int .i64 x_23, .int .i64 x_33, .slice x_4_a1 x_4_l1 x_4_c1]), (.int .i64 size)] w24 fun e_6 w25 =>
          ∃ r_04 r_16 r_24 r_33 : Int, ∃ r_4_a : Option Addr, ∃ r_4_l r_4_c : Nat, ∃ r_05 r_17 r_25 r_34 : Int, ∃ r_4_a1 : Option Addr, ∃ r_4_l1 r_4_c1 : Nat, ∃ r6 : Int, e_6 = .returned (.tuple #[(.agg #[.int .i64 r_04, .int .i64 r_16, .int .i64 r_24, .int .i64 r_33, .slice r_4_a r_4_l r_4_c]), (.agg #[.int .i64 r_05, .int .i64 r_17, .int .i64 r_25, .int .i64 r_34, .slice r_4_a1 r_4_l1 r_4_c1]), (.int .i64 r6)]) ∧
          (KeepsB S1 w22 w25 ∧ (sxStore w25 ⟨b8, 0, none⟩ 0 [(.int .i64 r_04), (.int .i64 r_16), (.int .i64 r_24), (.int .i64 r_33), (.slice r_4_a r_4_l r_4_c)] fun w26 =>
          (KeepsB S1 w22 w26 ∧ (sxStore w26 ⟨b7, 0, none⟩ 0 [(.int .i64 r_05), (.int .i64 r_17), (.int .i64 r_25), (.int .i64 r_34), (.slice r_4_a1 r_4_l1 r_4_c1)] fun w27 =>
          (KeepsB S1 w22 w27 ∧ J1 r6 ⟨b8, 0, none⟩ w27)))))))) ∧
          True)))) ∧
          True)))))))))))) ∧
        (kDrew w11 fun w12 =>
        (∃ S : Nat → Prop,
        (S (b2.add (r2.toNat * 5)).block ∧
        (kLd w12 (b2.add (r2.toNat * 5)) .i64 fun x2 =>
        (S b3 ∧
        (kLd w12 ⟨b3, 1, none⟩ .i64 fun x3 =>
        (S b3 ∧
        (kLd w12 ⟨b3, 2, none⟩ .i64 fun x4 =>
        (S ((b2.add (r2.toNat * 5)).add 1).block ∧
        (kLdS w12 ((b2.add (r2.toNat * 5)).add 1) fun _ x_l1 _ =>
        (S b3 ∧
        (kLd w12 ⟨b3, 1, none⟩ .i64 fun x5 =>
        (S ((b2.add (r2.toNat * 5)).add 1).block ∧
        (kLdS w12 ((b2.add (r2.toNat * 5)).add 1) fun x_a2 _ x_c2 =>
        (S b3 ∧
        (kLd w12 ⟨b3, 1, none⟩ .i64 fun x6 =>
        (S b3 ∧
        (kLd w12 ⟨b3, 2, none⟩ .i64 fun x7 =>
        ((0 ≤ x7 ∧ x7 ≤ ((x_c2 : Nat) : Int)) ∧ ((0 ≤ x6 ∧ x6 ≤ ((x7.toNat : Nat) : Int)) ∧ ((Calls Try.prog N_segment_Part #[(.bool (decide (x3 = (0 : Int)))), (.bool (decide (x4 = (x_l1 : Int))))] w12 fun e_5 w16 =>
        ∃ r5 : Int, e_5 = .returned (.int .i64 r5) ∧
        (KeepsB S w12 w16 ∧ ((KeepsB S w12 w16 ∧ (kAlloc w16 #[.int .i64 (0 : Int), .int .i64 (0 : Int), .int .i64 (0 : Int), .int .i64 (0 : Int), .slice none 0 0] Ty_api_Piece fun b6 w19 =>
        (KeepsB S w12 w19 ∧ (sxStore w19 ⟨b6, 0, none⟩ 0 [(.int .i64 x2), (.int .i64 r5), (.int .i64 (0 : Int)), (.int .i64 x5), (.slice (slAddr x_c2 (x6.toNat) 1 x_a2) (x7.toNat - x6.toNat) (x_c2 - x6.toNat))] fun w20 =>
        J ⟨b6, 0, none⟩ w20)))) ∧
        ((kAlloc w16 #[.int .i64 (0 : Int), .int .i64 (0 : Int), .int .i64 (0 : Int), .int .i64 (0 : Int), .slice none 0 0] Ty_api_Piece fun b5 w17 =>
        (KeepsB S w12 w17 ∧ (KeepsB S w12 w17 ∧ (sxStore w17 ⟨b5, 0, none⟩ 0 [(.int .i64 x2), (.int .i64 r5), (.int .i64 (0 : Int)), (.int .i64 x5), (.slice (slAddr x_c2 (x6.toNat) 1 x_a2) (x7.toNat - x6.toNat) (x_c2 - x6.toNat))] fun w18 =>
        J ⟨b5, 0, none⟩ w18)))) ∧
        True)))) ∧
        ((kAlloc w12 #[.int .i64 (0 : Int), .int .i64 (0 : Int), .int .i64 (0 : Int), .int .i64 (0 : Int), .slice none 0 0] Ty_api_Piece fun b4 w13 =>
        (KeepsB S w12 w13 ∧ (Calls Try.prog N_segment_Part #[(.bool (decide (x3 = (0 : Int)))), (.bool (decide (x4 = (x_l1 : Int))))] w13 fun e_4 w14 =>
        ∃ r4 : Int, e_4 = .returned (.int .i64 r4) ∧
        (KeepsB S w12 w14 ∧ (KeepsB S w12 w14 ∧ (sxStore w14 ⟨b4, 0, none⟩ 0 [(.int .i64 x2), (.int .i64 r4), (.int .i64 (0 : Int)), (.int .i64 x5), (.slice (slAddr x_c2 (x6.toNat) 1 x_a2) (x7.toNat - x6.toNat) (x_c2 - x6.toNat))] fun w15 =>
        J ⟨b4, 0, none⟩ w15)))))) ∧
        True)))))))))))))))))))))))))))))))))))))))))))
theorem F_sender_Build_eq (x_0 : Int) (x_1 : Int) (x_2 : Int) (x_3 : Int) (x_4 : Int) (x_5 : Int) (x_6 : Int) (x_7 : Int) (x_8_a : Option Addr) (x_8_l : Nat) (x_8_c : Nat) (x_9 : Int) (x_10 : Int) (x_11 : Int) (x_12 : Bool) (size : Int) (w : World) (R : Value → World → Prop) : sxFn Try.prog TT h_sender_Build Try.f17 #[(.agg #[.int .i64 x_0, .int .i64 x_1, .int .i64 x_2, .int .i64 x_3, .int .i64 x_4, .int .i64 x_5, .int .i64 x_6, .int .i64 x_7, .slice x_8_a x_8_l x_8_c, .int .i64 x_9, .int .i64 x_10, .int .i64 x_11, .bool x_12]), (.int .i64 size)] w R = F_sender_Build x_0 x_1 x_2 x_3 x_4 x_5 x_6 x_7 x_8_a x_8_l x_8_c x_9 x_10 x_11 x_12 size w R := by kernel_rfl
theorem F_sender_Build_ok {R : Ending → World → Prop} (x_0 : Int) (x_1 : Int) (x_2 : Int) (x_3 : Int) (x_4 : Int) (x_5 : Int) (x_6 : Int) (x_7 : Int) (x_8_a : Option Addr) (x_8_l : Nat) (x_8_c : Nat) (x_9 : Int) (x_10 : Int) (x_11 : Int) (x_12 : Bool) (size : Int) (w : World) (h : F_sender_Build x_0 x_1 x_2 x_3 x_4 x_5 x_6 x_7 x_8_a x_8_l x_8_c x_9 x_10 x_11 x_12 size w fun v w' => R (.returned v) w') : Calls Try.prog N_sender_Build #[(.agg #[.int .i64 x_0, .int .i64 x_1, .int .i64 x_2, .int .i64 x_3, .int .i64 x_4, .int .i64 x_5, .int .i64 x_6, .int .i64 x_7, .slice x_8_a x_8_l x_8_c, .int .i64 x_9, .int .i64 x_10, .int .i64 x_11, .bool x_12]), (.int .i64 size)] w R :=
  calls_of (f := 17) follows_ok Try.func17 (Eq.mpr (F_sender_Build_eq x_0 x_1 x_2 x_3 x_4 x_5 x_6 x_7 x_8_a x_8_l x_8_c x_9 x_10 x_11 x_12 size w _) h)

def h_ref01_Same : H := (.seq .reg (.seq .reg .leaf))
def F_ref01_Same (a_a : Option Addr) (a_l : Nat) (a_c : Nat) (b_a : Option Addr) (b_l : Nat) (b_c : Nat) (w : World) (R : Value → World → Prop) : Prop :=
  (ConvS Try.prog Ty_S_uint8 Ty_string (.slice a_a a_l a_c) w fun x =>
  (ConvS Try.prog Ty_S_uint8 Ty_string (.slice b_a b_l b_c) w fun x1 =>
  R (.bool (x == x1)) w))
theorem F_ref01_Same_eq (a_a : Option Addr) (a_l : Nat) (a_c : Nat) (b_a : Option Addr) (b_l : Nat) (b_c : Nat) (w : World) (R : Value → World → Prop) : sxFn Try.prog TT h_ref01_Same Try.f18 #[(.slice a_a a_l a_c), (.slice b_a b_l b_c)] w R = F_ref01_Same a_a a_l a_c b_a b_l b_c w R := by kernel_rfl
theorem F_ref01_Same_ok {R : Ending → World → Prop} (a_a : Option Addr) (a_l : Nat) (a_c : Nat) (b_a : Option Addr) (b_l : Nat) (b_c : Nat) (w : World) (h : F_ref01_Same a_a a_l a_c b_a b_l b_c w fun v w' => R (.returned v) w') : Calls Try.prog N_ref01_Same #[(.slice a_a a_l a_c), (.slice b_a b_l b_c)] w R :=
  calls_of (f := 18) follows_ok Try.func18 (Eq.mpr (F_ref01_Same_eq a_a a_l a_c b_a b_l b_c w _) h)

def h_ref18_Decode : H := (.seq .reg (.seq (.seq .reg (.cond (.seq .reg .leaf) .leaf)) (.seq (.seq .reg (.cond (.seq .reg .leaf) .leaf)) (.seq .reg (.seq .reg (.seq .reg (.seq (.seq .reg (.cond (.seq .reg .leaf) .leaf)) (.cut [] [36, 37, 38, 39, 40] (.seq .reg (.cond .reg .leaf)) (.seq .reg (.seq (.seq .reg (.cond (.seq .reg .leaf) .leaf)) (.seq .reg .leaf)))))))))))
def F_ref18_Decode (bits : Int) (b_a : Option Addr) (b_l : Nat) (b_c : Nat) (w : World) (R : Value → World → Prop) : Prop :=
  (kAlloc w #[.int .i64 (0 : Int), .int .i64 (0 : Int), .int .i64 (0 : Int), .int .i64 (0 : Int), .slice none 0 0] Ty_api_Piece fun b w1 =>
  (Calls Try.prog N_ref15_Bits #[(.int .i64 bits)] w1 fun e_ w2 =>
  ∃ r : Bool, e_ = .returned (.bool r) ∧
  (bsplit (!r)
    ((sxStore w2 ⟨b, 0, none⟩ 0 [(.int .i64 (0 : Int)), (.int .i64 (0 : Int)), (.int .i64 (0 : Int)), (.int .i64 (0 : Int)), (.slice none 0 0)] fun w3 =>
    (∃ r_0 r_1 r_2 r_3 : Int, ∃ r_4_a : Option Addr, ∃ r_4_l r_4_c : Nat, cellsAt w3 ⟨b, 0, none⟩ 0 [(.int .i64 r_0), (.int .i64 r_1), (.int .i64 r_2), (.int .i64 r_3), (.slice r_4_a r_4_l r_4_c)] ∧
    R (.tuple #[(.agg #[.int .i64 r_0, .int .i64 r_1, .int .i64 r_2, .int .i64 r_3, .slice r_4_a r_4_l r_4_c]), (.int .i64 (3 : Int))]) w3)))
    ((bsplit (decide ((b_l : Int) < (2 : Int)))
      ((sxStore w2 ⟨b, 0, none⟩ 0 [(.int .i64 (0 : Int)), (.int .i64 (0 : Int)), (.int .i64 (0 : Int)), (.int .i64 (0 : Int)), (.slice none 0 0)] fun w4 =>
      (∃ r_01 r_11 r_21 r_31 : Int, ∃ r_4_a1 : Option Addr, ∃ r_4_l1 r_4_c1 : Nat, cellsAt w4 ⟨b, 0, none⟩ 0 [(.int .i64 r_01), (.int .i64 r_11), (.int .i64 r_21), (.int .i64 r_31), (.slice r_4_a1 r_4_l1 r_4_c1)] ∧
      R (.tuple #[(.agg #[.int .i64 r_01, .int .i64 r_11, .int .i64 r_21, .int .i64 r_31, .slice r_4_a1 r_4_l1 r_4_c1]), (.int .i64 (5 : Int))]) w4)))
      ((Calls Try.prog N_ref01_Get #[(.slice b_a b_l b_c), (.int .i64 (0 : Int)), (.int .i64 (2 : Int))] w2 fun e_1 w5 =>
      ∃ r1 : Int, e_1 = .returned (.int .i64 r1) ∧
      (kLet (Int.fdiv r1 (2 ^ 14)) fun x =>
      (kLet (bAnd .i64 x (1 : Int)) fun x1 =>
      (kLet (Int.fdiv r1 (2 ^ 12)) fun x2 =>
      (kLet (bAnd .i64 x2 (3 : Int)) fun x3 =>
      (kLet (bAnd .i64 r1 (4095 : Int)) fun x4 =>
      (kAlloc w5 #[.int .i64 (0 : Int), .int .i64 (0 : Int), .int .i64 (0 : Int), .int .i64 (0 : Int), .slice none 0 0] Ty_api_Piece fun b1 w6 =>
      (sxStore w6 ⟨b1, 0, none⟩ 0 [(.int .i64 x4), (.int .i64 x3), (.int .i64 x1), (.int .i64 (0 : Int)), (.slice none 0 0)] fun w7 =>
      (kLd w7 ⟨b1, 1, none⟩ .i64 fun x5 =>
      (Calls Try.prog N_ref18_Head #[(.int .i64 x5)] w7 fun e_2 w8 =>
      ∃ r2 : Int, e_2 = .returned (.int .i64 r2) ∧
      (bsplit (decide ((b_l : Int) ≤ r2))
        ((sxStore w8 ⟨b, 0, none⟩ 0 [(.int .i64 (0 : Int)), (.int .i64 (0 : Int)), (.int .i64 (0 : Int)), (.int .i64 (0 : Int)), (.slice none 0 0)] fun w9 =>
        (∃ r_02 r_12 r_22 r_32 : Int, ∃ r_4_a2 : Option Addr, ∃ r_4_l2 r_4_c2 : Nat, cellsAt w9 ⟨b, 0, none⟩ 0 [(.int .i64 r_02), (.int .i64 r_12), (.int .i64 r_22), (.int .i64 r_32), (.slice r_4_a2 r_4_l2 r_4_c2)] ∧
        R (.tuple #[(.agg #[.int .i64 r_02, .int .i64 r_12, .int .i64 r_22, .int .i64 r_32, .slice r_4_a2 r_4_l2 r_4_c2]), (.int .i64 (5 : Int))]) w9)))
        ((∃ J : World → Prop,
        (∀ (_junk : Env)  (w12 : World), J w12 →
          ((0 ≤ r2 ∧ r2 ≤ ((b_l : Nat) : Int)) ∧ (AppP Try.prog #[Ty_S_uint8, Ty_S_uint8] Ty_S_uint8 #[(.slice none 0 0), (.slice (slAddr b_c (r2.toNat) 1 b_a) (b_l - r2.toNat) (b_c - r2.toNat))] w12 fun x_a x_l x_c w13 =>
          (kSet w13 ⟨b1, 4, none⟩ (.slice x_a x_l x_c) fun w14 =>
          (bsplit (decide (r1 < (32768 : Int)))
            ((sxStore w14 ⟨b, 0, none⟩ 0 [(.int .i64 (0 : Int)), (.int .i64 (0 : Int)), (.int .i64 (0 : Int)), (.int .i64 (0 : Int)), (.slice none 0 0)] fun w15 =>
              (∃ r_03 r_13 r_23 r_33 : Int, ∃ r_4_a3 : Option Addr, ∃ r_4_l3 r_4_c3 : Nat, cellsAt w15 ⟨b, 0, none⟩ 0 [(.int .i64 r_03), (.int .i64 r_13), (.int .i64 r_23), (.int .i64 r_33), (.slice r_4_a3 r_4_l3 r_4_c3)] ∧
              R (.tuple #[(.agg #[.int .i64 r_03, .int .i64 r_13, .int .i64 r_23, .int .i64 r_33, .slice r_4_a3 r_4_l3 r_4_c3]), (.int .i64 (4 : Int))]) w15)))
            ((∃ x_01 x_11 x_21 x_31 : Int, ∃ x_4_a1 : Option Addr, ∃ x_4_l1 x_4_c1 : Nat, cellsAt w14 ⟨b1, 0, none⟩ 0 [(.int .i64 x_01), (.int .i64 x_11), (.int .i64 x_21), (.int .i64 x_31), (.slice x_4_a1 x_4_l1 x_4_c1)] ∧
            (Calls Try.prog N_ref18_Valid #[(.int .i64 bits), (.agg #[.int .i64 x_01, .int .i64 x_11, .int .i64 x_21, .int .i64 x_31, .slice x_4_a1 x_4_l1 x_4_c1])] w14 fun e_4 w17 =>
            ∃ r4 : Bool, e_4 = .returned (.bool r4) ∧
            (bsplit (!r4)
              ((sxStore w17 ⟨b, 0, none⟩ 0 [(.int .i64 (0 : Int)), (.int .i64 (0 : Int)), (.int .i64 (0 : Int)), (.int .i64 (0 : Int)), (.slice none 0 0)] fun w18 =>
              (∃ r_05 r_15 r_25 r_35 : Int, ∃ r_4_a5 : Option Addr, ∃ r_4_l5 r_4_c5 : Nat, cellsAt w18 ⟨b, 0, none⟩ 0 [(.int .i64 r_05), (.int .i64 r_15), (.int .i64 r_25), (.int .i64 r_35), (.slice r_4_a5 r_4_l5 r_4_c5)] ∧
              R (.tuple #[(.agg #[.int .i64 r_05, .int .i64 r_15, .int .i64 r_25, .int .i64 r_35, .slice r_4_a5 r_4_l5 r_4_c5]), (.int .i64 (4 : Int))]) w18)))
              ((∃ x_02 x_12 x_22 x_32 : Int, ∃ x_4_a2 : Option Addr, ∃ x_4_l2 x_4_c2 : Nat, cellsAt w17 ⟨b1, 0, none⟩ 0 [(.int .i64 x_02), (.int .i64 x_12), (.int .i64 x_22), (.int .i64 x_32), (.slice x_4_a2 x_4_l2 x_4_c2)] ∧
              (sxStore w17 ⟨b, 0, none⟩ 0 [(.int .i64 x_02), (.int .i64 x_12), (.int .i64 x_22), (.int .i64 x_32), (.slice x_4_a2 x_4_l2 x_4_c2)] fun w19 =>
              (∃ r_06 r_16 r_26 r_36 : Int, ∃ r_4_a6 : Option Addr, ∃ r_4_l6 r_4_c6 : Nat, cellsAt w19 ⟨b, 0, none⟩ 0 [(.int .i64 r_06), (.int .i64 r_16), (.int .i64 r_26), (.int .i64 r_36), (.slice r_4_a6 r_4_l6 r_4_c6)] ∧
              R (.tuple #[(.agg #[.int .i64 r_06, .int .i64 r_16, .int .i64 r_26, .int .i64 r_36, .slice r_4_a6 r_4_l6 r_4_c6]), (.int .i64 (0 : Int))]) w19))))))))))))) ∧
        (bsplit (decide (r2 = (4 : Int)))
          ((Calls Try.prog N_ref01_Get #[(.slice b_a b_l b_c), (.int .i64 (2 : Int)), (.int .i64 (2 : Int))] w8 fun e_3 w10 =>
          ∃ r3 : Int, e_3 = .returned (.int .i64 r3) ∧
          (kSet w10 ⟨b1, 3, none⟩ (.int .i64 r3) fun w11 =>
          J w11)))
          (J w8)))))))))))))))))))))
theorem F_ref18_Decode_eq (bits : Int) (b_a : Option Addr) (b_l : Nat) (b_c : Nat) (w : World) (R : Value → World → Prop) : sxFn Try.prog TT h_ref18_Decode Try.f19 #[(.int .i64 bits), (.slice b_a b_l b_c)] w R = F_ref18_Decode bits b_a b_l b_c w R := by kernel_rfl
theorem F_ref18_Decode_ok {R : Ending → World → Prop} (bits : Int) (b_a : Option Addr) (b_l : Nat) (b_c : Nat) (w : World) (h : F_ref18_Decode bits b_a b_l b_c w fun v w' => R (.returned v) w') : Calls Try.prog N_ref18_Decode #[(.int .i64 bits), (.slice b_a b_l b_c)] w R :=
  calls_of (f := 19) follows_ok Try.func19 (Eq.mpr (F_ref18_Decode_eq bits b_a b_l b_c w _) h)

def h_law20_random : H := (.seq .reg (.seq .reg (.seq .reg (.seq .reg (.seq (.seq .reg (.block (.loop [(5, .p (.int .i64))] [5, 6, 7, 27, 28, 29, 30, 31, 32, 33, 34, 35, 36, 37, 38, 39, 40, 41, 42, 43, 44, 45, 46, 47, 48, 49, 50, 51, 52, 53, 54, 55, 56, 57, 58, 59, 60, 61, 62, 63, 64, 65, 66, 67, 68, 69, 70, 71, 72, 73] (.seq (.seq .reg (.cond .leaf .leaf)) (.seq (.block (.seq .reg (.cut [(7, .p (.int .i64))] [7, 32, 33, 34, 35, 36, 37, 38, 39, 40, 41, 42, 43, 44, 45, 46, 47, 48, 49, 50, 51, 52, 53, 54, 55, 56, 57, 58, 59, 60, 61, 62, 63, 64, 65, 66, 67, 68, 69, 70] (.seq .reg (.block (.cut [(39, .p .bool)] [39, 40, 41] (.seq .reg (.cond .leaf .reg)) (.cond (.draw .blk (.one 0 .stable (.one 1 .pur (.one 2 .keep (.one 3 .last (.one 4 .pur (.one 5 .pur (.one 6 .pur (.one 7 .last (.one 8 .pur .nil)))))))))) (.cut [(49, .p .bool)] [49, 50, 51] (.seq .reg (.cond .leaf .reg)) (.cond (.draw .blk (.one 0 .stable (.one 1 .pur (.one 2 .keep (.one 3 .pur (.one 4 .last (.one 5 .pur (.one 6 .pur (.one 7 .pur (.one 8 .pur (.one 9 .last (.one 10 .pur .nil)))))))))))) (.seq .reg (.cond (.draw .blk (.one 0 .stable (.one 1 .pur (.one 2 .pre (.one 3 .keep (.one 4 .last (.one 5 .pur (.one 6 .pur (.one 7 .pur (.one 8 .last (.one 9 .pur .nil))))))))))) .reg)))))))) (.seq .reg (.cond .reg .leaf))))) .reg))))) (.seq .reg .leaf))))))
def F_law20_random (d_b : Nat) (d_o : Nat) (w : World) (R : Value → World → Prop) : Prop :=
  (kAlloc w #[.int .i64 (0 : Int), .int .i64 (0 : Int), .int .i64 (0 : Int), .int .i64 (0 : Int), .int .i64 (0 : Int), .int .i64 (0 : Int), .int .i64 (0 : Int), .int .i64 (0 : Int), .slice none 0 0, .int .i64 (0 : Int), .int .i64 (0 : Int), .int .i64 (0 : Int), .bool false] Ty_api_Sender fun b w1 =>
  (Calls Try.prog N_made_Dice_Link #[(.pointer (some ⟨d_b, d_o, none⟩))] w1 fun e_ w2 =>
  ∃ r_0 r_1 r_2 r_3 r_4 r_5 : Int, e_ = .returned (.agg #[.int .i64 r_0, .int .i64 r_1, .int .i64 r_2, .int .i64 r_3, .int .i64 r_4, .int .i64 r_5]) ∧
  (Calls Try.prog N_ref20_New #[(.agg #[.int .i64 r_0, .int .i64 r_1, .int .i64 r_2, .int .i64 r_3, .int .i64 r_4, .int .i64 r_5])] w2 fun e_1 w3 =>
  ∃ r_01 r_11 r_21 r_31 r_41 r_51 r_6 r_7 : Int, ∃ r_8_a : Option Addr, ∃ r_8_l r_8_c : Nat, ∃ r_9 r_10 r_111 : Int, ∃ r_12 : Bool, ∃ r : Int, e_1 = .returned (.tuple #[(.agg #[.int .i64 r_01, .int .i64 r_11, .int .i64 r_21, .int .i64 r_31, .int .i64 r_41, .int .i64 r_51, .int .i64 r_6, .int .i64 r_7, .slice r_8_a r_8_l r_8_c, .int .i64 r_9, .int .i64 r_10, .int .i64 r_111, .bool r_12]), (.int .i64 r)]) ∧
  (kAlloc w3 #[.int .i64 (0 : Int), .int .i64 (0 : Int), .int .i64 (0 : Int), .int .i64 (0 : Int), .int .i64 (0 : Int), .int .i64 (0 : Int), .int .i64 (0 : Int), .int .i64 (0 : Int), .slice none 0 0, .int .i64 (0 : Int), .int .i64 (0 : Int), .int .i64 (0 : Int), .bool false] Ty_api_Sender fun b1 w4 =>
  (sxStore w4 ⟨b1, 0, none⟩ 0 [(.int .i64 r_01), (.int .i64 r_11), (.int .i64 r_21), (.int .i64 r_31), (.int .i64 r_41), (.int .i64 r_51), (.int .i64 r_6), (.int .i64 r_7), (.slice r_8_a r_8_l r_8_c), (.int .i64 r_9), (.int .i64 r_10), (.int .i64 r_111), (.bool r_12)] fun w5 =>
  (kLd w5 ⟨b1, 0, none⟩ .i64 fun x =>
  (kW .u64 (x) fun x1 =>
  (0 ≤ x1 ∧ (kW .i64 ((1 : Int) * 2 ^ (min x1.toNat (IntKind.bits .i64))) fun x2 =>
  (Calls Try.prog N_made_Dice_Next #[(.pointer (some ⟨d_b, d_o, none⟩)), (.int .i64 x2)] w5 fun e_2 w6 =>
  ∃ r1 : Int, e_2 = .returned (.int .i64 r1) ∧
  (kSet w6 ⟨b1, 6, none⟩ (.int .i64 r1) fun w7 =>
  (kLd w7 ⟨b1, 6, none⟩ .i64 fun x3 =>
  (kSet w7 ⟨b1, 7, none⟩ (.int .i64 x3) fun w8 =>
  (Calls Try.prog N_made_Dice_Next #[(.pointer (some ⟨d_b, d_o, none⟩)), (.int .i64 (40 : Int))] w8 fun e_3 w9 =>
  ∃ r2 : Int, e_3 = .returned (.int .i64 r2) ∧
  (∃ I : Int → Nat × (World → Prop), (I r2).2 w9 ∧
  (∀ (_junk : Env) (n : Int) (w10 : World), (I n).2 w10 →
    (bsplit (decide (n > (0 : Int)))
      ((∃ x_0 x_1 x_2 x_3 x_4 x_5 x_6 x_7 : Int, ∃ x_8_a : Option Addr, ∃ x_8_l x_8_c : Nat, ∃ x_9 x_10 x_11 : Int, ∃ x_12 : Bool, cellsAt w10 ⟨b1, 0, none⟩ 0 [(.int .i64 x_0), (.int .i64 x_1), (.int .i64 x_2), (.int .i64 x_3), (.int .i64 x_4), (.int .i64 x_5), (.int .i64 x_6), (.int .i64 x_7), (.slice x_8_a x_8_l x_8_c), (.int .i64 x_9), (.int .i64 x_10), (.int .i64 x_11), (.bool x_12)] ∧
      (kAlloc w10 #[.int .i64 (0 : Int), .int .i64 (0 : Int), .int .i64 (0 : Int), .int .i64 (0 : Int), .int .i64 (0 : Int), .int .i64 (0 : Int), .int .i64 (0 : Int), .int .i64 (0 : Int), .slice none 0 0, .int .i64 (0 : Int), .int .i64 (0 : Int), .int .i64 (0 : Int), .bool false] Ty_api_Sender fun b2 w11 =>
      (sxStore w11 ⟨b2, 0, none⟩ 0 [(.int .i64 x_0), (.int .i64 x_1), (.int .i64 x_2), (.int .i64 x_3), (.int .i64 x_4), (.int .i64 x_5), (.int .i64 x_6), (.int .i64 x_7), (.slice x_8_a x_8_l x_8_c), (.int .i64 x_9), (.int .i64 x_10), (.int .i64 x_11), (.bool x_12)] fun w12 =>
      (∃ J : Int → World → Prop,
      (∀ (_junk : Env) (e1 : Int) (w30 : World), J e1 w30 →
        (bsplit (decide (e1 = (0 : Int)))
          ((∃ x_06 x_18 x_26 x_36 x_46 x_56 x_66 x_76 : Int, ∃ x_8_a6 : Option Addr, ∃ x_8_l6 x_8_c6 : Nat, ∃ x_96 x_106 x_116 : Int, ∃ x_126 : Bool, cellsAt w30 ⟨b2, 0, none⟩ 0 [(.int .i64 x_06), (.int .i64 x_18), (.int .i64 x_26), (.int .i64 x_36), (.int .i64 x_46), (.int .i64 x_56), (.int .i64 x_66), (.int .i64 x_76), (.slice x_8_a6 x_8_l6 x_8_c6), (.int .i64 x_96), (.int .i64 x_106), (.int .i64 x_116), (.bool x_126)] ∧
          (sxStore w30 ⟨b1, 0, none⟩ 0 [(.int .i64 x_06), (.int .i64 x_18), (.int .i64 x_26), (.int .i64 x_36), (.int .i64 x_46), (.int .i64 x_56), (.int .i64 x_66), (.int .i64 x_76), (.slice x_8_a6 x_8_l6 x_8_c6), (.int .i64 x_96), (.int .i64 x_106), (.int .i64 x_116), (.bool x_126)] fun w31 =>
          (kW .i64 (n - (1 : Int)) fun x12 =>
          ((I x12).2 w31 ∧ (I x12).1 < (I n).1)))))
          ((kW .i64 (n - (1 : Int)) fun x13 =>
          ((I x13).2 w30 ∧ (I x13).1 < (I n).1))))) ∧
      (Calls Try.prog N_made_Dice_Next #[(.pointer (some ⟨d_b, d_o, none⟩)), (.int .i64 (6 : Int))] w12 fun e_4 w13 =>
      ∃ r3 : Int, e_4 = .returned (.int .i64 r3) ∧
      (∃ J1 : Bool → World → Prop,
      (∀ (_junk : Env) (x6 : Bool) (w14 : World), J1 x6 w14 →
        (bsplit x6
          ((kDrew w14 fun w15 =>
          (∃ S : Nat → Prop,
          (S b1 ∧
          (∃ x_01 x_13 x_21 x_31 x_41 x_51 x_61 x_71 : Int, ∃ x_8_a1 : Option Addr, ∃ x_8_l1 x_8_c1 : Nat, ∃ x_91 x_101 x_111 : Int, ∃ x_121 : Bool, cellsAt w15 ⟨b1, 0, none⟩ 0 [(.int .i64 x_01), (.int .i64 x_13), (.int .i64 x_21), (.int .i64 x_31), (.int .i64 x_41), (.int .i64 x_51), (.int .i64 x_61), (.int .i64 x_71), (.slice x_8_a1 x_8_l1 x_8_c1), (.int .i64 x_91), (.int .i64 x_101), (.int .i64 x_111), (.bool x_121)] ∧
          (Calls Try.prog N_made_Dice_Some #[(.pointer (some ⟨d_b, d_o, none⟩)), (.int .i64 (14 : Int))] w15 fun e_5 w16 =>
          ∃ r_a : Option Addr, ∃ r_l r_c : Nat, e_5 = .returned (.slice r_a r_l r_c) ∧
          (KeepsB S w15 w16 ∧ (Calls Try.prog N_ref20_Submit #[(.agg #[.int .i64 x_01, .int .i64 x_13, .int .i64 x_21, .int .i64 x_31, .int .i64 x_41, .int .i64 x_51, .int .i64 x_61, .int .i64 x_71, .slice x_8_a1 x_8_l1 x_8_c1, .int .i64 x_91, .int .i64 x_101, .int .i64 x_111, .bool x_121]), (.slice r_a r_l r_c)] w16 fun e_6 w17 =>
          ∃ r_02 r_13 r_22 r_32 r_42 r_52 r_61 r_71 : Int, ∃ r_8_a1 : Option Addr, ∃ r_8_l1 r_8_c1 : Nat, ∃ r_91 r_101 r_112 : Int, ∃ r_121 : Bool, ∃ r4 : Int, e_6 = .returned (.tuple #[(.agg #[.int .i64 r_02, .int .i64 r_13, .int .i64 r_22, .int .i64 r_32, .int .i64 r_42, .int .i64 r_52, .int .i64 r_61, .int .i64 r_71, .slice r_8_a1 r_8_l1 r_8_c1, .int .i64 r_91, .int .i64 r_101, .int .i64 r_112, .bool r_121]), (.int .i64 r4)]) ∧
          (sxStore w17 ⟨b2, 0, none⟩ 0 [(.int .i64 r_02), (.int .i64 r_13), (.int .i64 r_22), (.int .i64 r_32), (.int .i64 r_42), (.int .i64 r_52), (.int .i64 r_61), (.int .i64 r_71), (.slice r_8_a1 r_8_l1 r_8_c1), (.int .i64 r_91), (.int .i64 r_101), (.int .i64 r_112), (.bool r_121)] fun w18 =>
          J r4 w18)))))))))
          ((∃ J2 : Bool → World → Prop,
          (∀ (_junk : Env) (x9 : Bool) (w19 : World), J2 x9 w19 →
            (bsplit x9
              ((kDrew w19 fun w20 =>
              (∃ S1 : Nat → Prop,
              (S1 b1 ∧
              (∃ x_02 x_14 x_22 x_32 x_42 x_52 x_62 x_72 : Int, ∃ x_8_a2 : Option Addr, ∃ x_8_l2 x_8_c2 : Nat, ∃ x_92 x_102 x_112 : Int, ∃ x_122 : Bool, cellsAt w20 ⟨b1, 0, none⟩ 0 [(.int .i64 x_02), (.int .i64 x_14), (.int .i64 x_22), (.int .i64 x_32), (.int .i64 x_42), (.int .i64 x_52), (.int .i64 x_62), (.int .i64 x_72), (.slice x_8_a2 x_8_l2 x_8_c2), (.int .i64 x_92), (.int .i64 x_102), (.int .i64 x_112), (.bool x_122)] ∧
              (Calls Try.prog N_made_Dice_Next #[(.pointer (some ⟨d_b, d_o, none⟩)), (.int .i64 (12 : Int))] w20 fun e_7 w21 =>
              ∃ r5 : Int, e_7 = .returned (.int .i64 r5) ∧
              (KeepsB S1 w20 w21 ∧ (kW .i64 ((3 : Int) + r5) fun x10 =>
              (Calls Try.prog N_ref20_Build #[(.agg #[.int .i64 x_02, .int .i64 x_14, .int .i64 x_22, .int .i64 x_32, .int .i64 x_42, .int .i64 x_52, .int .i64 x_62, .int .i64 x_72, .slice x_8_a2 x_8_l2 x_8_c2, .int .i64 x_92, .int .i64 x_102, .int .i64 x_112, .bool x_122]), (.int .i64 x10)] w21 fun e_8 w22 =>
              ∃ r_03 r_14 r_23 r_33 r_43 r_53 r_62 r_72 : Int, ∃ r_8_a2 : Option Addr, ∃ r_8_l2 r_8_c2 : Nat, ∃ r_92 r_102 r_113 : Int, ∃ r_122 : Bool, ∃ r_a1 : Option Addr, ∃ r_l1 r_c1 : Nat, ∃ r6 : Int, e_8 = .returned (.tuple #[(.agg #[.int .i64 r_03, .int .i64 r_14, .int .i64 r_23, .int .i64 r_33, .int .i64 r_43, .int .i64 r_53, .int .i64 r_62, .int .i64 r_72, .slice r_8_a2 r_8_l2 r_8_c2, .int .i64 r_92, .int .i64 r_102, .int .i64 r_113, .bool r_122]), (.slice r_a1 r_l1 r_c1), (.int .i64 r6)]) ∧
              (sxStore w22 ⟨b2, 0, none⟩ 0 [(.int .i64 r_03), (.int .i64 r_14), (.int .i64 r_23), (.int .i64 r_33), (.int .i64 r_43), (.int .i64 r_53), (.int .i64 r_62), (.int .i64 r_72), (.slice r_8_a2 r_8_l2 r_8_c2), (.int .i64 r_92), (.int .i64 r_102), (.int .i64 r_113), (.bool r_122)] fun w23 =>
              J r6 w23))))))))))
              ((kLet (decide (r3 = (4 : Int))) fun x11 =>
              (bsplit x11
                ((kDrew w19 fun w24 =>
                (∃ S2 : Nat → Prop,
                (S2 b1 ∧
                (∃ x_03 x_15 x_23 x_33 x_43 x_53 x_63 x_73 : Int, ∃ x_8_a3 : Option Addr, ∃ x_8_l3 x_8_c3 : Nat, ∃ x_93 x_103 x_113 : Int, ∃ x_123 : Bool, cellsAt w24 ⟨b1, 0, none⟩ 0 [(.int .i64 x_03), (.int .i64 x_15), (.int .i64 x_23), (.int .i64 x_33), (.int .i64 x_43), (.int .i64 x_53), (.int .i64 x_63), (.int .i64 x_73), (.slice x_8_a3 x_8_l3 x_8_c3), (.int .i64 x_93), (.int .i64 x_103), (.int .i64 x_113), (.bool x_123)] ∧
                (∃ x_04 x_16 x_24 x_34 x_44 x_54 x_64 x_74 : Int, ∃ x_8_a4 : Option Addr, ∃ x_8_l4 x_8_c4 : Nat, ∃ x_94 x_104 x_114 : Int, ∃ x_124 : Bool, cellsAt w24 ⟨b1, 0, none⟩ 0 [(.int .i64 x_04), (.int .i64 x_16), (.int .i64 x_24), (.int .i64 x_34), (.int .i64 x_44), (.int .i64 x_54), (.int .i64 x_64), (.int .i64 x_74), (.slice x_8_a4 x_8_l4 x_8_c4), (.int .i64 x_94), (.int .i64 x_104), (.int .i64 x_114), (.bool x_124)] ∧
                (Calls Try.prog N_law20_report #[(.pointer (some ⟨d_b, d_o, none⟩)), (.agg #[.int .i64 x_04, .int .i64 x_16, .int .i64 x_24, .int .i64 x_34, .int .i64 x_44, .int .i64 x_54, .int .i64 x_64, .int .i64 x_74, .slice x_8_a4 x_8_l4 x_8_c4, .int .i64 x_94, .int .i64 x_104, .int .i64 x_114, .bool x_124])] w24 fun e_9 w25 =>
                ∃ r_04 : Int, ∃ r_1_a : Option Addr, ∃ r_1_l r_1_c : Nat, e_9 = .returned (.agg #[.int .i64 r_04, .slice r_1_a r_1_l r_1_c]) ∧
                (KeepsB S2 w24 w25 ∧ (Calls Try.prog N_ref20_Report #[(.agg #[.int .i64 x_03, .int .i64 x_15, .int .i64 x_23, .int .i64 x_33, .int .i64 x_43, .int .i64 x_53, .int .i64 x_63, .int .i64 x_73, .slice x_8_a3 x_8_l3 x_8_c3, .int .i64 x_93, .int .i64 x_103, .int .i64 x_113, .bool x_123]), (.agg #[.int .i64 r_04, .slice r_1_a r_1_l r_1_c])] w25 fun e_10 w26 =>
                ∃ r_05 r_15 r_24 r_34 r_44 r_54 r_63 r_73 : Int, ∃ r_8_a3 : Option Addr, ∃ r_8_l3 r_8_c3 : Nat, ∃ r_93 r_103 r_114 : Int, ∃ r_123 : Bool, ∃ r7 : Int, e_10 = .returned (.tuple #[(.agg #[.int .i64 r_05, .int .i64 r_15, .int .i64 r_24, .int .i64 r_34, .int .i64 r_44, .int .i64 r_54, .int .i64 r_63, .int .i64 r_73, .slice r_8_a3 r_8_l3 r_8_c3, .int .i64 r_93, .int .i64 r_103, .int .i64 r_114, .bool r_123]), (.int .i64 r7)]) ∧
                (sxStore w26 ⟨b2, 0, none⟩ 0 [(.int .i64 r_05), (.int .i64 r_15), (.int .i64 r_24), (.int .i64 r_34), (.int .i64 r_44), (.int .i64 r_54), (.int .i64 r_63), (.int .i64 r_73), (.slice r_8_a3 r_8_l3 r_8_c3), (.int .i64 r_93), (.int .i64 r_103), (.int .i64 r_114), (.bool r_123)] fun w27 =>
                J r7 w27))))))))))
                ((∃ x_05 x_17 x_25 x_35 x_45 x_55 x_65 x_75 : Int, ∃ x_8_a5 : Option Addr, ∃ x_8_l5 x_8_c5 : Nat, ∃ x_95 x_105 x_115 : Int, ∃ x_125 : Bool, cellsAt w19 ⟨b1, 0, none⟩ 0 [(.int .i64 x_05), (.int .i64 x_17), (.int .i64 x_25), (.int .i64 x_35), (.int .i64 x_45), (.int .i64 x_55), (.int .i64 x_65), (.int .i64 x_75), (.slice x_8_a5 x_8_l5 x_8_c5), (.int .i64 x_95), (.int .i64 x_105), (.int .i64 x_115), (.bool x_125)] ∧
                (Calls Try.prog N_ref20_Tick #[(.agg #[.int .i64 x_05, .int .i64 x_17, .int .i64 x_25, .int .i64 x_35, .int .i64 x_45, .int .i64 x_55, .int .i64 x_65, .int .i64 x_75, .slice x_8_a5 x_8_l5 x_8_c5, .int .i64 x_95, .int .i64 x_105, .int .i64 x_115, .bool x_125])] w19 fun e_11 w28 =>
                ∃ r_06 r_16 r_25 r_35 r_45 r_55 r_64 r_74 : Int, ∃ r_8_a4 : Option Addr, ∃ r_8_l4 r_8_c4 : Nat, ∃ r_94 r_104 r_115 : Int, ∃ r_124 : Bool, ∃ r8 : Int, e_11 = .returned (.tuple #[(.agg #[.int .i64 r_06, .int .i64 r_16, .int .i64 r_25, .int .i64 r_35, .int .i64 r_45, .int .i64 r_55, .int .i64 r_64, .int .i64 r_74, .slice r_8_a4 r_8_l4 r_8_c4, .int .i64 r_94, .int .i64 r_104, .int .i64 r_115, .bool r_124]), (.int .i64 r8)]) ∧
                (sxStore w28 ⟨b2, 0, none⟩ 0 [(.int .i64 r_06), (.int .i64 r_16), (.int .i64 r_25), (.int .i64 r_35), (.int .i64 r_45), (.int .i64 r_55), (.int .i64 r_64), (.int .i64 r_74), (.slice r_8_a4 r_8_l4 r_8_c4), (.int .i64 r_94), (.int .i64 r_104), (.int .i64 r_115), (.bool r_124)] fun w29 =>
                J r8 w29))))))))) ∧
          (kLet (decide (r3 = (2 : Int))) fun x7 =>
          (bsplit x7
            (J2 x7 w14)
            ((kLet (decide (r3 = (3 : Int))) fun x8 =>
            J2 x8 w14)))))))) ∧
      (kLet (decide (r3 = (0 : Int))) fun x4 =>
      (bsplit x4
        (J1 x4 w13)
        ((kLet (decide (r3 = (1 : Int))) fun x5 =>
        J1 x5 w13)))))))))))
      ((∃ x_07 x_19 x_27 x_37 x_47 x_57 x_67 x_77 : Int, ∃ x_8_a7 : Option Addr, ∃ x_8_l7 x_8_c7 : Nat, ∃ x_97 x_107 x_117 : Int, ∃ x_127 : Bool, cellsAt w10 ⟨b1, 0, none⟩ 0 [(.int .i64 x_07), (.int .i64 x_19), (.int .i64 x_27), (.int .i64 x_37), (.int .i64 x_47), (.int .i64 x_57), (.int .i64 x_67), (.int .i64 x_77), (.slice x_8_a7 x_8_l7 x_8_c7), (.int .i64 x_97), (.int .i64 x_107), (.int .i64 x_117), (.bool x_127)] ∧
      (sxStore w10 ⟨b, 0, none⟩ 0 [(.int .i64 x_07), (.int .i64 x_19), (.int .i64 x_27), (.int .i64 x_37), (.int .i64 x_47), (.int .i64 x_57), (.int .i64 x_67), (.int .i64 x_77), (.slice x_8_a7 x_8_l7 x_8_c7), (.int .i64 x_97), (.int .i64 x_107), (.int .i64 x_117), (.bool x_127)] fun w32 =>
      (∃ r_07 r_17 r_26 r_36 r_46 r_56 r_65 r_75 : Int, ∃ r_8_a5 : Option Addr, ∃ r_8_l5 r_8_c5 : Nat, ∃ r_95 r_105 r_116 : Int, ∃ r_125 : Bool, cellsAt w32 ⟨b, 0, none⟩ 0 [(.int .i64 r_07), (.int .i64 r_17), (.int .i64 r_26), (.int .i64 r_36), (.int .i64 r_46), (.int .i64 r_56), (.int .i64 r_65), (.int .i64 r_75), (.slice r_8_a5 r_8_l5 r_8_c5), (.int .i64 r_95), (.int .i64 r_105), (.int .i64 r_116), (.bool r_125)] ∧
      R (.agg #[.int .i64 r_07, .int .i64 r_17, .int .i64 r_26, .int .i64 r_36, .int .i64 r_46, .int .i64 r_56, .int .i64 r_65, .int .i64 r_75, .slice r_8_a5 r_8_l5 r_8_c5, .int .i64 r_95, .int .i64 r_105, .int .i64 r_116, .bool r_125]) w32)))))))))))))))))))))
theorem F_law20_random_eq (d_b : Nat) (d_o : Nat) (w : World) (R : Value → World → Prop) : sxFn Try.prog TT h_law20_random Try.f20 #[(.pointer (some ⟨d_b, d_o, none⟩))] w R = F_law20_random d_b d_o w R := by kernel_rfl
theorem F_law20_random_ok {R : Ending → World → Prop} (d_b : Nat) (d_o : Nat) (w : World) (h : F_law20_random d_b d_o w fun v w' => R (.returned v) w') : Calls Try.prog N_law20_random #[(.pointer (some ⟨d_b, d_o, none⟩))] w R :=
  calls_of (f := 20) follows_ok Try.func20 (Eq.mpr (F_law20_random_eq d_b d_o w _) h)

end Go.Proofs.Ytmhggobilcmdmaa
