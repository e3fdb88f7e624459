import Derived.Test.YtmhggobilcmdmaaBase
import Derived.KernelRfl
namespace Go.Proofs.Ytmhggobilcmdmaa
open Go.Sx Go.RowKit
set_option maxRecDepth 100000

def h_law20_SenderOnce : H := (.seq .reg (.seq (.seq .reg (.cond (.seq .reg .leaf) .leaf)) (.seq .reg (.seq .reg (.cut [] [2, 29, 30, 31, 32, 33, 34] (.seq .reg (.cond (.seq .reg .leaf) .leaf)) (.seq .reg (.seq (.seq .reg (.block (.loop [(6, .p .slice), (8, .p (.int .i64))] [2, 5, 6, 8, 9, 37, 38, 39, 40, 41, 42, 43, 44, 45, 46, 47, 48, 49, 50, 51, 52, 53] (.seq (.seq .reg (.cond .leaf .leaf)) (.seq (.block (.seq .reg (.seq (.seq .reg (.seq .reg (.cond (.seq .reg .leaf) .leaf))) .reg))) .reg))))) (.seq .reg (.seq (.seq .reg (.block (.loop [(7, .p .slice), (11, .p (.int .i64))] [2, 7, 11, 12, 13, 14, 15, 16, 57, 58, 59, 60, 61, 62, 63, 64, 65, 66, 67, 68, 69, 70, 71, 72, 73, 74, 75, 76, 77, 78, 79, 80, 81, 82, 83, 84, 85, 86, 87, 88, 89, 90, 91, 92, 93, 94, 95, 96, 97, 98, 99, 100, 101, 102, 103, 104, 105, 106, 107, 108, 109, 110, 111, 112, 113, 114, 115, 116, 117, 118, 119, 120, 121, 122, 123, 124, 125, 126] (.seq (.seq .reg (.cond .leaf .leaf)) (.seq (.block (.cut [(12, .p .addr), (13, .p .slice), (14, .p (.int .i64))] [12, 13, 14, 61, 62, 63, 64, 65, 66, 67, 68, 69] (.draw .blk (.one 0 .stable (.one 1 .pur (.alt 2 (.one 3 .pur (.alt 4 (.one 5 .pur (.one 6 .pur (.one 7 .pur (.one 8 .pur (.one 9 .keep (.one 10 .last (.one 11 .pur (.one 12 .pur .nil)))))))) (.alt 9 (.one 4 .keep (.one 5 .pur (.one 6 .pur (.one 7 .pur (.one 8 .pur (.one 10 .last (.one 11 .pur (.one 12 .pur .nil)))))))) .endAlt))) (.alt 9 (.one 2 .keep (.one 3 .pur (.one 4 .keep (.one 5 .pur (.one 6 .pur (.one 7 .pur (.one 8 .pur (.one 10 .last (.one 11 .pur (.one 12 .pur .nil)))))))))) .endAlt))))) (.seq (.seq .reg (.cond (.seq .reg .leaf) .leaf)) (.seq .reg (.cut [] [2, 94, 95, 96, 97, 98, 99] (.seq .reg (.cond (.seq .reg .leaf) .leaf)) (.seq (.seq .reg (.cond (.seq .reg .leaf) .leaf)) (.seq .reg .reg))))))) .reg))))) (.seq .reg .leaf))))))))))
def F_law20_SenderOnce (t_a : Option Addr) (t_l : Nat) (t_c : Nat) (w : World) (R : Value → World → Prop) : Prop :=
  (Calls Try.prog N_made_Light #[(.slice t_a t_l t_c)] w fun e_ w1 =>
  ∃ r : Bool, e_ = .returned (.bool r) ∧
  (bsplit (!r)
    ((Calls Try.prog N_law20_awake #[] w1 fun e_1 w2 =>
    ∃ r1 : Bool, e_1 = .returned (.bool r1) ∧
    R (.bool r1) w2))
    ((Calls Try.prog N_made_Roll #[(.slice t_a t_l t_c)] w1 fun e_2 w3 =>
    ∃ r2 : Option Addr, e_2 = .returned (.pointer r2) ∧
    (Calls Try.prog N_made_Dice_Link #[(.pointer r2)] w3 fun e_3 w4 =>
    ∃ r_0 r_1 r_2 r_3 r_4 r_5 : Int, e_3 = .returned (.agg #[.int .i64 r_0, .int .i64 r_1, .int .i64 r_2, .int .i64 r_3, .int .i64 r_4, .int .i64 r_5]) ∧
    (Calls Try.prog N_sender_New #[(.agg #[.int .i64 r_0, .int .i64 r_1, .int .i64 r_2, .int .i64 r_3, .int .i64 r_4, .int .i64 r_5])] w4 fun e_4 w5 =>
    ∃ r_01 r_11 r_21 r_31 r_41 r_51 r_6 r_7 : Int, ∃ r_8_a : Option Addr, ∃ r_8_l r_8_c : Nat, ∃ r_9 r_10 r_111 : Int, ∃ r_12 : Bool, ∃ r3 : Int, e_4 = .returned (.tuple #[(.agg #[.int .i64 r_01, .int .i64 r_11, .int .i64 r_21, .int .i64 r_31, .int .i64 r_41, .int .i64 r_51, .int .i64 r_6, .int .i64 r_7, .slice r_8_a r_8_l r_8_c, .int .i64 r_9, .int .i64 r_10, .int .i64 r_111, .bool r_12]), (.int .i64 r3)]) ∧
    (kAlloc w5 #[.int .i64 (0 : Int), .int .i64 (0 : Int), .int .i64 (0 : Int), .int .i64 (0 : Int), .int .i64 (0 : Int), .int .i64 (0 : Int), .int .i64 (0 : Int), .int .i64 (0 : Int), .slice none 0 0, .int .i64 (0 : Int), .int .i64 (0 : Int), .int .i64 (0 : Int), .bool false] Ty_api_Sender fun b w6 =>
    (sxStore w6 ⟨b, 0, none⟩ 0 [(.int .i64 r_01), (.int .i64 r_11), (.int .i64 r_21), (.int .i64 r_31), (.int .i64 r_41), (.int .i64 r_51), (.int .i64 r_6), (.int .i64 r_7), (.slice r_8_a r_8_l r_8_c), (.int .i64 r_9), (.int .i64 r_10), (.int .i64 r_111), (.bool r_12)] fun w7 =>
    (∃ J : World → Prop,
    (∀ (_junk : Env)  (w9 : World), J w9 →
      (Calls Try.prog N_made_Dice_Next #[(.pointer r2), (.int .i64 (14 : Int))] w9 fun e_6 w10 =>
      ∃ r5 : Int, e_6 = .returned (.int .i64 r5) ∧
      (∃ I : Option Addr → Nat → Nat → Int → Nat × (World → Prop), (I none 0 0 r5).2 w10 ∧
      (∀ (_junk : Env) (all_a : Option Addr) (all_l : Nat) (all_c : Nat) (n : Int) (w11 : World), (I all_a all_l all_c n).2 w11 →
        (bsplit (decide (n > (0 : Int)))
          ((Calls Try.prog N_made_Dice_Some #[(.pointer r2), (.int .i64 (20 : Int))] w11 fun e_7 w12 =>
          ∃ r_a : Option Addr, ∃ r_l r_c : Nat, e_7 = .returned (.slice r_a r_l r_c) ∧
          (∃ x_0 x_1 x_2 x_3 x_4 x_5 x_6 x_7 : Int, ∃ x_8_a : Option Addr, ∃ x_8_l x_8_c : Nat, ∃ x_9 x_10 x_11 : Int, ∃ x_12 : Bool, cellsAt w12 ⟨b, 0, none⟩ 0 [(.int .i64 x_0), (.int .i64 x_1), (.int .i64 x_2), (.int .i64 x_3), (.int .i64 x_4), (.int .i64 x_5), (.int .i64 x_6), (.int .i64 x_7), (.slice x_8_a x_8_l x_8_c), (.int .i64 x_9), (.int .i64 x_10), (.int .i64 x_11), (.bool x_12)] ∧
          (Calls Try.prog N_sender_Submit #[(.agg #[.int .i64 x_0, .int .i64 x_1, .int .i64 x_2, .int .i64 x_3, .int .i64 x_4, .int .i64 x_5, .int .i64 x_6, .int .i64 x_7, .slice x_8_a x_8_l x_8_c, .int .i64 x_9, .int .i64 x_10, .int .i64 x_11, .bool x_12]), (.slice r_a r_l r_c)] w12 fun e_8 w13 =>
          ∃ r_02 r_13 r_22 r_32 r_42 r_52 r_61 r_71 : Int, ∃ r_8_a1 : Option Addr, ∃ r_8_l1 r_8_c1 : Nat, ∃ r_91 r_101 r_112 : Int, ∃ r_121 : Bool, ∃ r6 : Int, e_8 = .returned (.tuple #[(.agg #[.int .i64 r_02, .int .i64 r_13, .int .i64 r_22, .int .i64 r_32, .int .i64 r_42, .int .i64 r_52, .int .i64 r_61, .int .i64 r_71, .slice r_8_a1 r_8_l1 r_8_c1, .int .i64 r_91, .int .i64 r_101, .int .i64 r_112, .bool r_121]), (.int .i64 r6)]) ∧
          (sxStore w13 ⟨b, 0, none⟩ 0 [(.int .i64 r_02), (.int .i64 r_13), (.int .i64 r_22), (.int .i64 r_32), (.int .i64 r_42), (.int .i64 r_52), (.int .i64 r_61), (.int .i64 r_71), (.slice r_8_a1 r_8_l1 r_8_c1), (.int .i64 r_91), (.int .i64 r_101), (.int .i64 r_112), (.bool r_121)] fun w14 =>
          (bsplit (!decide (r6 = (0 : Int)))
            (R (.bool false) w14)
            ((AppP Try.prog #[Ty_S_uint8, Ty_S_uint8] Ty_S_uint8 #[(.slice all_a all_l all_c), (.slice r_a r_l r_c)] w14 fun x_a x_l x_c w15 =>
            (kW .i64 (n - (1 : Int)) fun x =>
            ((I x_a x_l x_c x).2 w15 ∧ (I x_a x_l x_c x).1 < (I all_a all_l all_c n).1))))))))))
          ((kLd w11 ⟨b, 0, none⟩ .i64 fun x1 =>
          (∃ I1 : Option Addr → Nat → Nat → Int → Nat × (World → Prop), (I1 none 0 0 (0 : Int)).2 w11 ∧
          (∀ (_junk : Env) (got_a : Option Addr) (got_l : Nat) (got_c : Nat) (n1 : Int) (w16 : World), (I1 got_a got_l got_c n1).2 w16 →
            (bsplit (decide (n1 < (400 : Int)))
              ((∃ J1 : Addr → Option Addr → Nat → Nat → Int → World → Prop,
              (∀ (_junk : Env) (x4 : Addr) (b_a : Option Addr) (b_l : Nat) (b_c : Nat) (f : Int) (w29 : World), J1 x4 b_a b_l b_c f w29 →
                (bsplit (decide (f = (14 : Int)))
                  ((Calls Try.prog N_ref01_Same #[(.slice all_a all_l all_c), (.slice got_a got_l got_c)] w29 fun e_14 w30 =>
                  ∃ r12 : Bool, e_14 = .returned (.bool r12) ∧
                  (bsplit r12
                    ((bsplit (decide ((all_l : Int) = (0 : Int)))
                      (R (.bool true) w30)
                      ((kLd w30 ⟨b, 11, none⟩ .i64 fun x5 =>
                      (kLd w30 ⟨b, 2, none⟩ .i64 fun x6 =>
                      (kLet (decide (x5 = x6)) fun x7 =>
                      R (.bool x7) w30))))))
                    (R (.bool false) w30))))
                  ((Calls Try.prog N_ref18_Decode #[(.int .i64 x1), (.slice b_a b_l b_c)] w29 fun e_15 w31 =>
                  ∃ r_06 r_17 r_26 r_36 : Int, ∃ r_4_a : Option Addr, ∃ r_4_l r_4_c : Nat, ∃ r13 : Int, e_15 = .returned (.tuple #[(.agg #[.int .i64 r_06, .int .i64 r_17, .int .i64 r_26, .int .i64 r_36, .slice r_4_a r_4_l r_4_c]), (.int .i64 r13)]) ∧
                  (kAlloc w31 #[.int .i64 (0 : Int), .int .i64 (0 : Int), .int .i64 (0 : Int), .int .i64 (0 : Int), .slice none 0 0] Ty_api_Piece fun b4 w32 =>
                  (sxStore w32 ⟨b4, 0, none⟩ 0 [(.int .i64 r_06), (.int .i64 r_17), (.int .i64 r_26), (.int .i64 r_36), (.slice r_4_a r_4_l r_4_c)] fun w33 =>
                  (∃ J2 : World → Prop,
                  (∀ (_junk : Env)  (w34 : World), J2 w34 →
                    (kLd w34 ⟨b4, 2, none⟩ .i64 fun x8 =>
                    (kLd w34 ⟨b, 9, none⟩ .i64 fun x9 =>
                    (kW .i64 (x9 + (1 : Int)) fun x10 =>
                    (kLd w34 ⟨b, 1, none⟩ .i64 fun x11 =>
                    (bsplit (decide (x10 = x11))
                      ((bsplit (!((decide (x8 = (1 : Int))) == true))
                        (R (.bool false) w34)
                        ((kLdS w34 ⟨b4, 4, none⟩ fun x_a1 x_l1 x_c1 =>
                        (AppP Try.prog #[Ty_S_uint8, Ty_S_uint8] Ty_S_uint8 #[(.slice got_a got_l got_c), (.slice x_a1 x_l1 x_c1)] w34 fun x_a2 x_l2 x_c2 w35 =>
                        (∃ x_02 x_14 x_22 x_32 x_42 x_52 x_62 x_72 : Int, ∃ x_8_a2 : Option Addr, ∃ x_8_l2 x_8_c2 : Nat, ∃ x_92 x_102 x_112 : Int, ∃ x_122 : Bool, cellsAt w35 x4 0 [(.int .i64 x_02), (.int .i64 x_14), (.int .i64 x_22), (.int .i64 x_32), (.int .i64 x_42), (.int .i64 x_52), (.int .i64 x_62), (.int .i64 x_72), (.slice x_8_a2 x_8_l2 x_8_c2), (.int .i64 x_92), (.int .i64 x_102), (.int .i64 x_112), (.bool x_122)] ∧
                        (sxStore w35 ⟨b, 0, none⟩ 0 [(.int .i64 x_02), (.int .i64 x_14), (.int .i64 x_22), (.int .i64 x_32), (.int .i64 x_42), (.int .i64 x_52), (.int .i64 x_62), (.int .i64 x_72), (.slice x_8_a2 x_8_l2 x_8_c2), (.int .i64 x_92), (.int .i64 x_102), (.int .i64 x_112), (.bool x_122)] fun w36 =>
                        (kW .i64 (n1 + (1 : Int)) fun x12 =>
                        ((I1 x_a2 x_l2 x_c2 x12).2 w36 ∧ (I1 x_a2 x_l2 x_c2 x12).1 < (I1 got_a got_l got_c n1).1)))))))))
                      ((kLdS w34 ⟨b4, 4, none⟩ fun _ x_l3 _ =>
                      (kW .i64 ((got_l : Int) + (x_l3 : Int)) fun x13 =>
                      (bsplit (!((decide (x8 = (1 : Int))) == (decide (x13 = (all_l : Int)))))
                        (R (.bool false) w34)
                        ((kLdS w34 ⟨b4, 4, none⟩ fun x_a4 x_l4 x_c4 =>
                        (AppP Try.prog #[Ty_S_uint8, Ty_S_uint8] Ty_S_uint8 #[(.slice got_a got_l got_c), (.slice x_a4 x_l4 x_c4)] w34 fun x_a5 x_l5 x_c5 w37 =>
                        (∃ x_03 x_15 x_23 x_33 x_43 x_53 x_63 x_73 : Int, ∃ x_8_a3 : Option Addr, ∃ x_8_l3 x_8_c3 : Nat, ∃ x_93 x_103 x_113 : Int, ∃ x_123 : Bool, cellsAt w37 x4 0 [(.int .i64 x_03), (.int .i64 x_15), (.int .i64 x_23), (.int .i64 x_33), (.int .i64 x_43), (.int .i64 x_53), (.int .i64 x_63), (.int .i64 x_73), (.slice x_8_a3 x_8_l3 x_8_c3), (.int .i64 x_93), (.int .i64 x_103), (.int .i64 x_113), (.bool x_123)] ∧
                        (sxStore w37 ⟨b, 0, none⟩ 0 [(.int .i64 x_03), (.int .i64 x_15), (.int .i64 x_23), (.int .i64 x_33), (.int .i64 x_43), (.int .i64 x_53), (.int .i64 x_63), (.int .i64 x_73), (.slice x_8_a3 x_8_l3 x_8_c3), (.int .i64 x_93), (.int .i64 x_103), (.int .i64 x_113), (.bool x_123)] fun w38 =>
                        (kW .i64 (n1 + (1 : Int)) fun x14 =>
                        ((I1 x_a5 x_l5 x_c5 x14).2 w38 ∧ (I1 x_a5 x_l5 x_c5 x14).1 < (I1 got_a got_l got_c n1).1))))))))))))))))) ∧
                  (bsplit (!decide (f = (0 : Int)))
                    (R (.bool false) w33)
                    ((bsplit (!decide (r13 = (0 : Int)))
                      (R (.bool false) w33)
                      (J2 w33))))))))))) ∧
              (kDrew w16 fun w17 =>
              (∃ S : Nat → Prop,
              (S b ∧
              (∃ x_01 x_13 x_21 x_31 x_41 x_51 x_61 x_71 : Int, ∃ x_8_a1 : Option Addr, ∃ x_8_l1 x_8_c1 : Nat, ∃ x_91 x_101 x_111 : Int, ∃ x_121 : Bool, cellsAt w17 ⟨b, 0, none⟩ 0 [(.int .i64 x_01), (.int .i64 x_13), (.int .i64 x_21), (.int .i64 x_31), (.int .i64 x_41), (.int .i64 x_51), (.int .i64 x_61), (.int .i64 x_71), (.slice x_8_a1 x_8_l1 x_8_c1), (.int .i64 x_91), (.int .i64 x_101), (.int .i64 x_111), (.bool x_121)] ∧
              ((Calls Try.prog N_made_Dice_Next #[(.pointer r2), (.int .i64 (12 : Int))] w17 fun e_11 w22 =>
              ∃ r9 : Int, e_11 = .returned (.int .i64 r9) ∧
              (KeepsB S w17 w22 ∧ (kW .i64 ((5 : Int) + r9) fun x3 =>
              ((Calls Try.prog N_sender_Build #[(.agg #[.int .i64 x_01, .int .i64 x_13, .int .i64 x_21, .int .i64 x_31, .int .i64 x_41, .int .i64 x_51, .int .i64 x_61, .int .i64 x_71, .slice x_8_a1 x_8_l1 x_8_c1, .int .i64 x_91, .int .i64 x_101, .int .i64 x_111, .bool x_121]), (.int .i64 x3)] w22 fun e_13 w26 =>
              ∃ r_05 r_16 r_25 r_35 r_45 r_55 r_64 r_74 : Int, ∃ r_8_a4 : Option Addr, ∃ r_8_l4 r_8_c4 : Nat, ∃ r_94 r_104 r_115 : Int, ∃ r_124 : Bool, ∃ r_a3 : Option Addr, ∃ r_l3 r_c3 : Nat, ∃ r11 : Int, e_13 = .returned (.tuple #[(.agg #[.int .i64 r_05, .int .i64 r_16, .int .i64 r_25, .int .i64 r_35, .int .i64 r_45, .int .i64 r_55, .int .i64 r_64, .int .i64 r_74, .slice r_8_a4 r_8_l4 r_8_c4, .int .i64 r_94, .int .i64 r_104, .int .i64 r_115, .bool r_124]), (.slice r_a3 r_l3 r_c3), (.int .i64 r11)]) ∧
              (KeepsB S w17 w26 ∧ (kAlloc w26 #[.int .i64 (0 : Int), .int .i64 (0 : Int), .int .i64 (0 : Int), .int .i64 (0 : Int), .int .i64 (0 : Int), .int .i64 (0 : Int), .int .i64 (0 : Int), .int .i64 (0 : Int), .slice none 0 0, .int .i64 (0 : Int), .int .i64 (0 : Int), .int .i64 (0 : Int), .bool false] Ty_api_Sender fun b3 w27 =>
              (KeepsB S w17 w27 ∧ (sxStore w27 ⟨b3, 0, none⟩ 0 [(.int .i64 r_05), (.int .i64 r_16), (.int .i64 r_25), (.int .i64 r_35), (.int .i64 r_45), (.int .i64 r_55), (.int .i64 r_64), (.int .i64 r_74), (.slice r_8_a4 r_8_l4 r_8_c4), (.int .i64 r_94), (.int .i64 r_104), (.int .i64 r_115), (.bool r_124)] fun w28 =>
              J1 ⟨b3, 0, none⟩ r_a3 r_l3 r_c3 r11 w28))))) ∧
              ((kAlloc w22 #[.int .i64 (0 : Int), .int .i64 (0 : Int), .int .i64 (0 : Int), .int .i64 (0 : Int), .int .i64 (0 : Int), .int .i64 (0 : Int), .int .i64 (0 : Int), .int .i64 (0 : Int), .slice none 0 0, .int .i64 (0 : Int), .int .i64 (0 : Int), .int .i64 (0 : Int), .bool false] Ty_api_Sender fun b2 w23 =>
              (KeepsB S w17 w23 ∧ (Calls Try.prog N_sender_Build #[(.agg #[.int .i64 x_01, .int .i64 x_13, .int .i64 x_21, .int .i64 x_31, .int .i64 x_41, .int .i64 x_51, .int .i64 x_61, .int .i64 x_71, .slice x_8_a1 x_8_l1 x_8_c1, .int .i64 x_91, .int .i64 x_101, .int .i64 x_111, .bool x_121]), (.int .i64 x3)] w23 fun e_12 w24 =>
              ∃ r_04 r_15 r_24 r_34 r_44 r_54 r_63 r_73 : Int, ∃ r_8_a3 : Option Addr, ∃ r_8_l3 r_8_c3 : Nat, ∃ r_93 r_103 r_114 : Int, ∃ r_123 : Bool, ∃ r_a2 : Option Addr, ∃ r_l2 r_c2 : Nat, ∃ r10 : Int, e_12 = .returned (.tuple #[(.agg #[.int .i64 r_04, .int .i64 r_15, .int .i64 r_24, .int .i64 r_34, .int .i64 r_44, .int .i64 r_54, .int .i64 r_63, .int .i64 r_73, .slice r_8_a3 r_8_l3 r_8_c3, .int .i64 r_93, .int .i64 r_103, .int .i64 r_114, .bool r_123]), (.slice r_a2 r_l2 r_c2), (.int .i64 r10)]) ∧
              (KeepsB S w17 w24 ∧ (sxStore w24 ⟨b2, 0, none⟩ 0 [(.int .i64 r_04), (.int .i64 r_15), (.int .i64 r_24), (.int .i64 r_34), (.int .i64 r_44), (.int .i64 r_54), (.int .i64 r_63), (.int .i64 r_73), (.slice r_8_a3 r_8_l3 r_8_c3), (.int .i64 r_93), (.int .i64 r_103), (.int .i64 r_114), (.bool r_123)] fun w25 =>
              J1 ⟨b2, 0, none⟩ r_a2 r_l2 r_c2 r10 w25))))) ∧
              True))))) ∧
              ((kAlloc w17 #[.int .i64 (0 : Int), .int .i64 (0 : Int), .int .i64 (0 : Int), .int .i64 (0 : Int), .int .i64 (0 : Int), .int .i64 (0 : Int), .int .i64 (0 : Int), .int .i64 (0 : Int), .slice none 0 0, .int .i64 (0 : Int), .int .i64 (0 : Int), .int .i64 (0 : Int), .bool false] Ty_api_Sender fun b1 w18 =>
              (KeepsB S w17 w18 ∧ (Calls Try.prog N_made_Dice_Next #[(.pointer r2), (.int .i64 (12 : Int))] w18 fun e_9 w19 =>
              ∃ r7 : Int, e_9 = .returned (.int .i64 r7) ∧
              (KeepsB S w17 w19 ∧ (kW .i64 ((5 : Int) + r7) fun x2 =>
              (Calls Try.prog N_sender_Build #[(.agg #[.int .i64 x_01, .int .i64 x_13, .int .i64 x_21, .int .i64 x_31, .int .i64 x_41, .int .i64 x_51, .int .i64 x_61, .int .i64 x_71, .slice x_8_a1 x_8_l1 x_8_c1, .int .i64 x_91, .int .i64 x_101, .int .i64 x_111, .bool x_121]), (.int .i64 x2)] w19 fun e_10 w20 =>
              ∃ r_03 r_14 r_23 r_33 r_43 r_53 r_62 r_72 : Int, ∃ r_8_a2 : Option Addr, ∃ r_8_l2 r_8_c2 : Nat, ∃ r_92 r_102 r_113 : Int, ∃ r_122 : Bool, ∃ r_a1 : Option Addr, ∃ r_l1 r_c1 : Nat, ∃ r8 : Int, e_10 = .returned (.tuple #[(.agg #[.int .i64 r_03, .int .i64 r_14, .int .i64 r_23, .int .i64 r_33, .int .i64 r_43, .int .i64 r_53, .int .i64 r_62, .int .i64 r_72, .slice r_8_a2 r_8_l2 r_8_c2, .int .i64 r_92, .int .i64 r_102, .int .i64 r_113, .bool r_122]), (.slice r_a1 r_l1 r_c1), (.int .i64 r8)]) ∧
              (KeepsB S w17 w20 ∧ (sxStore w20 ⟨b1, 0, none⟩ 0 [(.int .i64 r_03), (.int .i64 r_14), (.int .i64 r_23), (.int .i64 r_33), (.int .i64 r_43), (.int .i64 r_53), (.int .i64 r_62), (.int .i64 r_72), (.slice r_8_a2 r_8_l2 r_8_c2), (.int .i64 r_92), (.int .i64 r_102), (.int .i64 r_113), (.bool r_122)] fun w21 =>
              J1 ⟨b1, 0, none⟩ r_a1 r_l1 r_c1 r8 w21)))))))) ∧
              True))))))))
              (R (.bool false) w16))))))))))) ∧
    (Calls Try.prog N_law20_awake #[] w7 fun e_5 w8 =>
    ∃ r4 : Bool, e_5 = .returned (.bool r4) ∧
    (bsplit (!r4)
      (R (.bool false) w8)
      ((bsplit (!decide (r3 = (0 : Int)))
        (R (.bool false) w8)
        (J w8))))))))))))))
theorem F_law20_SenderOnce_eq (t_a : Option Addr) (t_l : Nat) (t_c : Nat) (w : World) (R : Value → World → Prop) : sxFn Try.prog TT h_law20_SenderOnce Try.f3 #[(.slice t_a t_l t_c)] w R = F_law20_SenderOnce t_a t_l t_c w R := by kernel_rfl
theorem F_law20_SenderOnce_ok {R : Ending → World → Prop} (t_a : Option Addr) (t_l : Nat) (t_c : Nat) (w : World) (h : F_law20_SenderOnce t_a t_l t_c w fun v w' => R (.returned v) w') : Calls Try.prog N_law20_SenderOnce #[(.slice t_a t_l t_c)] w R :=
  calls_of (f := 3) follows_ok Try.func3 (Eq.mpr (F_law20_SenderOnce_eq t_a t_l t_c w _) h)

end Go.Proofs.Ytmhggobilcmdmaa
