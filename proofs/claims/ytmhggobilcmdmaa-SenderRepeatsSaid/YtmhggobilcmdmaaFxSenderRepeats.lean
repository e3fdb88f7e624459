import Derived.Test.YtmhggobilcmdmaaBase
import Derived.KernelRfl
namespace Go.Proofs.Ytmhggobilcmdmaa
open Go.Sx Go.RowKit
set_option maxRecDepth 100000

def h_law20_SenderRepeats : H := (.seq .reg (.seq (.seq .reg (.cond (.seq .reg .leaf) .leaf)) (.seq .reg (.seq .reg (.seq .reg (.seq .reg (.seq (.seq .reg (.cond (.seq .reg .leaf) .leaf)) (.seq (.cut [(44, .p .bool)] [39, 40, 41, 42, 43, 44] .reg (.cond (.seq .reg (.seq .reg .leaf)) .leaf)) (.seq (.seq .reg (.block (.loop [(10, .p (.int .i64))] [2, 10, 11, 12, 13, 14, 15, 16, 17, 18, 19, 61, 62, 63, 64, 65, 66, 67, 68, 69, 70, 71, 72, 73, 74, 75, 76, 77, 78, 79, 80, 81, 82, 83, 84, 85, 86, 87, 88, 89, 90, 91, 92, 93, 94, 95, 96, 97, 98, 99, 100, 101, 102, 103, 104, 105, 106, 107, 108, 109, 110, 111, 112, 113, 114, 115, 116, 117, 118, 119, 120, 121, 122, 123, 124, 125, 126, 127] (.seq (.seq .reg (.cond .leaf .leaf)) (.seq (.block (.seq .reg (.cut [(15, .p .addr), (16, .p .slice), (17, .p (.int .i64))] [15, 16, 17, 72, 73, 74, 75, 76, 77, 78, 79, 80] (.draw .blk (.one 0 .stable (.one 1 .pur (.alt 2 (.one 3 .pur (.alt 4 (.one 5 .pur (.one 6 .pur (.one 7 .pur (.one 8 .pur (.one 9 .keep (.one 10 .last (.one 11 .pur (.one 12 .pur .nil)))))))) (.alt 9 (.one 4 .keep (.one 5 .pur (.one 6 .pur (.one 7 .pur (.one 8 .pur (.one 10 .last (.one 11 .pur (.one 12 .pur .nil)))))))) .endAlt))) (.alt 9 (.one 2 .keep (.one 3 .pur (.one 4 .keep (.one 5 .pur (.one 6 .pur (.one 7 .pur (.one 8 .pur (.one 10 .last (.one 11 .pur (.one 12 .pur .nil)))))))))) .endAlt))))) (.seq (.seq .reg (.cond (.seq .reg .leaf) .leaf)) (.seq .reg (.cut [] [2, 98, 99, 100, 101, 102, 103] (.seq .reg (.cond (.seq .reg .leaf) .leaf)) (.seq (.seq .reg (.cond (.seq .reg .leaf) .leaf)) .reg))))))) .reg))))) (.seq .reg .leaf))))))))))
def F_law20_SenderRepeats (t_a : Option Addr) (t_l : Nat) (t_c : Nat) (w : World) (R : Value → World → Prop) : Prop :=
  (Calls Try.prog N_made_Light #[(.slice t_a t_l t_c)] w fun e_ w1 =>
  ∃ r : Bool, e_ = .returned (.bool r) ∧
  (bsplit (!r)
    ((Calls Try.prog N_law20_awake #[] w1 fun e_1 w2 =>
    ∃ r1 : Bool, e_1 = .returned (.bool r1) ∧
    R (.bool r1) w2))
    ((Calls Try.prog N_made_Roll #[(.slice t_a t_l t_c)] w1 fun e_2 w3 =>
    ∃ r2 : Option Addr, e_2 = .returned (.pointer r2) ∧
    (Calls Try.prog N_law20_random #[(.pointer r2)] w3 fun e_3 w4 =>
    ∃ r_0 r_1 r_2 r_3 r_4 r_5 r_6 r_7 : Int, ∃ r_8_a : Option Addr, ∃ r_8_l r_8_c : Nat, ∃ r_9 r_10 r_11 : Int, ∃ r_12 : Bool, e_3 = .returned (.agg #[.int .i64 r_0, .int .i64 r_1, .int .i64 r_2, .int .i64 r_3, .int .i64 r_4, .int .i64 r_5, .int .i64 r_6, .int .i64 r_7, .slice r_8_a r_8_l r_8_c, .int .i64 r_9, .int .i64 r_10, .int .i64 r_11, .bool r_12]) ∧
    (kAlloc w4 #[.int .i64 (0 : Int), .int .i64 (0 : Int), .int .i64 (0 : Int), .int .i64 (0 : Int), .int .i64 (0 : Int), .int .i64 (0 : Int), .int .i64 (0 : Int), .int .i64 (0 : Int), .slice none 0 0, .int .i64 (0 : Int), .int .i64 (0 : Int), .int .i64 (0 : Int), .bool false] Ty_api_Sender fun b w5 =>
    (sxStore w5 ⟨b, 0, none⟩ 0 [(.int .i64 r_0), (.int .i64 r_1), (.int .i64 r_2), (.int .i64 r_3), (.int .i64 r_4), (.int .i64 r_5), (.int .i64 r_6), (.int .i64 r_7), (.slice r_8_a r_8_l r_8_c), (.int .i64 r_9), (.int .i64 r_10), (.int .i64 r_11), (.bool r_12)] fun w6 =>
    (∃ x_0 x_1 x_2 x_3 x_4 x_5 x_6 x_7 : Int, ∃ x_8_a : Option Addr, ∃ x_8_l x_8_c : Nat, ∃ x_9 x_10 x_11 : Int, ∃ x_12 : Bool, cellsAt w6 ⟨b, 0, none⟩ 0 [(.int .i64 x_0), (.int .i64 x_1), (.int .i64 x_2), (.int .i64 x_3), (.int .i64 x_4), (.int .i64 x_5), (.int .i64 x_6), (.int .i64 x_7), (.slice x_8_a x_8_l x_8_c), (.int .i64 x_9), (.int .i64 x_10), (.int .i64 x_11), (.bool x_12)] ∧
    (Calls Try.prog N_law20_report #[(.pointer r2), (.agg #[.int .i64 x_0, .int .i64 x_1, .int .i64 x_2, .int .i64 x_3, .int .i64 x_4, .int .i64 x_5, .int .i64 x_6, .int .i64 x_7, .slice x_8_a x_8_l x_8_c, .int .i64 x_9, .int .i64 x_10, .int .i64 x_11, .bool x_12])] w6 fun e_4 w7 =>
    ∃ r_01 : Int, ∃ r_1_a : Option Addr, ∃ r_1_l r_1_c : Nat, e_4 = .returned (.agg #[.int .i64 r_01, .slice r_1_a r_1_l r_1_c]) ∧
    (kAlloc w7 #[.int .i64 (0 : Int), .slice none 0 0] Ty_api_Status fun b1 w8 =>
    (sxStore w8 ⟨b1, 0, none⟩ 0 [(.int .i64 r_01), (.slice r_1_a r_1_l r_1_c)] fun w9 =>
    (∃ x_01 x_13 x_21 x_31 x_41 x_51 x_61 x_71 : Int, ∃ x_8_a1 : Option Addr, ∃ x_8_l1 x_8_c1 : Nat, ∃ x_91 x_101 x_111 : Int, ∃ x_121 : Bool, cellsAt w9 ⟨b, 0, none⟩ 0 [(.int .i64 x_01), (.int .i64 x_13), (.int .i64 x_21), (.int .i64 x_31), (.int .i64 x_41), (.int .i64 x_51), (.int .i64 x_61), (.int .i64 x_71), (.slice x_8_a1 x_8_l1 x_8_c1), (.int .i64 x_91), (.int .i64 x_101), (.int .i64 x_111), (.bool x_121)] ∧
    (∃ x_02 : Int, ∃ x_1_a : Option Addr, ∃ x_1_l x_1_c : Nat, cellsAt w9 ⟨b1, 0, none⟩ 0 [(.int .i64 x_02), (.slice x_1_a x_1_l x_1_c)] ∧
    (Calls Try.prog N_sender_Report #[(.agg #[.int .i64 x_01, .int .i64 x_13, .int .i64 x_21, .int .i64 x_31, .int .i64 x_41, .int .i64 x_51, .int .i64 x_61, .int .i64 x_71, .slice x_8_a1 x_8_l1 x_8_c1, .int .i64 x_91, .int .i64 x_101, .int .i64 x_111, .bool x_121]), (.agg #[.int .i64 x_02, .slice x_1_a x_1_l x_1_c])] w9 fun e_5 w10 =>
    ∃ r_02 r_13 r_21 r_31 r_41 r_51 r_61 r_71 : Int, ∃ r_8_a1 : Option Addr, ∃ r_8_l1 r_8_c1 : Nat, ∃ r_91 r_101 r_111 : Int, ∃ r_121 : Bool, ∃ r3 : Int, e_5 = .returned (.tuple #[(.agg #[.int .i64 r_02, .int .i64 r_13, .int .i64 r_21, .int .i64 r_31, .int .i64 r_41, .int .i64 r_51, .int .i64 r_61, .int .i64 r_71, .slice r_8_a1 r_8_l1 r_8_c1, .int .i64 r_91, .int .i64 r_101, .int .i64 r_111, .bool r_121]), (.int .i64 r3)]) ∧
    (kAlloc w10 #[.int .i64 (0 : Int), .int .i64 (0 : Int), .int .i64 (0 : Int), .int .i64 (0 : Int), .int .i64 (0 : Int), .int .i64 (0 : Int), .int .i64 (0 : Int), .int .i64 (0 : Int), .slice none 0 0, .int .i64 (0 : Int), .int .i64 (0 : Int), .int .i64 (0 : Int), .bool false] Ty_api_Sender fun b2 w11 =>
    (sxStore w11 ⟨b2, 0, none⟩ 0 [(.int .i64 r_02), (.int .i64 r_13), (.int .i64 r_21), (.int .i64 r_31), (.int .i64 r_41), (.int .i64 r_51), (.int .i64 r_61), (.int .i64 r_71), (.slice r_8_a1 r_8_l1 r_8_c1), (.int .i64 r_91), (.int .i64 r_101), (.int .i64 r_111), (.bool r_121)] fun w12 =>
    (Calls Try.prog N_law20_awake #[] w12 fun e_6 w13 =>
    ∃ r4 : Bool, e_6 = .returned (.bool r4) ∧
    (bsplit (!r4)
      (R (.bool false) w13)
      ((∃ J : Bool → World → Prop,
      (∀ (_junk : Env) (x1 : Bool) (w14 : World), J x1 w14 →
        (bsplit x1
          ((∃ x_03 x_14 x_22 x_32 x_42 x_52 x_62 x_72 : Int, ∃ x_8_a2 : Option Addr, ∃ x_8_l2 x_8_c2 : Nat, ∃ x_92 x_102 x_112 : Int, ∃ x_122 : Bool, cellsAt w14 ⟨b, 0, none⟩ 0 [(.int .i64 x_03), (.int .i64 x_14), (.int .i64 x_22), (.int .i64 x_32), (.int .i64 x_42), (.int .i64 x_52), (.int .i64 x_62), (.int .i64 x_72), (.slice x_8_a2 x_8_l2 x_8_c2), (.int .i64 x_92), (.int .i64 x_102), (.int .i64 x_112), (.bool x_122)] ∧
          (∃ x_04 : Int, ∃ x_1_a1 : Option Addr, ∃ x_1_l1 x_1_c1 : Nat, cellsAt w14 ⟨b1, 0, none⟩ 0 [(.int .i64 x_04), (.slice x_1_a1 x_1_l1 x_1_c1)] ∧
          (Calls Try.prog N_ref20_Report #[(.agg #[.int .i64 x_03, .int .i64 x_14, .int .i64 x_22, .int .i64 x_32, .int .i64 x_42, .int .i64 x_52, .int .i64 x_62, .int .i64 x_72, .slice x_8_a2 x_8_l2 x_8_c2, .int .i64 x_92, .int .i64 x_102, .int .i64 x_112, .bool x_122]), (.agg #[.int .i64 x_04, .slice x_1_a1 x_1_l1 x_1_c1])] w14 fun e_7 w15 =>
          ∃ r_03 r_14 r_22 r_32 r_42 r_52 r_62 r_72 : Int, ∃ r_8_a2 : Option Addr, ∃ r_8_l2 r_8_c2 : Nat, ∃ r_92 r_102 r_112 : Int, ∃ r_122 : Bool, ∃ r5 : Int, e_7 = .returned (.tuple #[(.agg #[.int .i64 r_03, .int .i64 r_14, .int .i64 r_22, .int .i64 r_32, .int .i64 r_42, .int .i64 r_52, .int .i64 r_62, .int .i64 r_72, .slice r_8_a2 r_8_l2 r_8_c2, .int .i64 r_92, .int .i64 r_102, .int .i64 r_112, .bool r_122]), (.int .i64 r5)]) ∧
          (kAlloc w15 #[.int .i64 (0 : Int), .int .i64 (0 : Int), .int .i64 (0 : Int), .int .i64 (0 : Int), .int .i64 (0 : Int), .int .i64 (0 : Int), .int .i64 (0 : Int), .int .i64 (0 : Int), .slice none 0 0, .int .i64 (0 : Int), .int .i64 (0 : Int), .int .i64 (0 : Int), .bool false] Ty_api_Sender fun b3 w16 =>
          (sxStore w16 ⟨b3, 0, none⟩ 0 [(.int .i64 r_03), (.int .i64 r_14), (.int .i64 r_22), (.int .i64 r_32), (.int .i64 r_42), (.int .i64 r_52), (.int .i64 r_62), (.int .i64 r_72), (.slice r_8_a2 r_8_l2 r_8_c2), (.int .i64 r_92), (.int .i64 r_102), (.int .i64 r_112), (.bool r_122)] fun w17 =>
          (bsplit (decide (r3 = r5))
            ((kLdB w17 ⟨b2, 12, none⟩ fun x2 =>
            (kLdB w17 ⟨b3, 12, none⟩ fun x3 =>
            R (.bool (x2 == x3)) w17)))
            (R (.bool false) w17))))))))
          ((∃ I : Int → Nat × (World → Prop), (I (0 : Int)).2 w14 ∧
          (∀ (_junk : Env) (n : Int) (w18 : World), (I n).2 w18 →
            (bsplit (decide (n < (300 : Int)))
              ((∃ x_05 x_15 x_23 x_33 x_43 x_53 x_63 x_73 : Int, ∃ x_8_a3 : Option Addr, ∃ x_8_l3 x_8_c3 : Nat, ∃ x_93 x_103 x_113 : Int, ∃ x_123 : Bool, cellsAt w18 ⟨b2, 0, none⟩ 0 [(.int .i64 x_05), (.int .i64 x_15), (.int .i64 x_23), (.int .i64 x_33), (.int .i64 x_43), (.int .i64 x_53), (.int .i64 x_63), (.int .i64 x_73), (.slice x_8_a3 x_8_l3 x_8_c3), (.int .i64 x_93), (.int .i64 x_103), (.int .i64 x_113), (.bool x_123)] ∧
              (Calls Try.prog N_law20_next #[(.agg #[.int .i64 x_05, .int .i64 x_15, .int .i64 x_23, .int .i64 x_33, .int .i64 x_43, .int .i64 x_53, .int .i64 x_63, .int .i64 x_73, .slice x_8_a3 x_8_l3 x_8_c3, .int .i64 x_93, .int .i64 x_103, .int .i64 x_113, .bool x_123])] w18 fun e_8 w19 =>
              ∃ r6 r7 r8 : Int, ∃ r9 : Bool, e_8 = .returned (.tuple #[(.int .i64 r6), (.int .i64 r7), (.int .i64 r8), (.bool r9)]) ∧
              (∃ J1 : Addr → Option Addr → Nat → Nat → Int → World → Prop,
              (∀ (_junk : Env) (y : Addr) (b_a : Option Addr) (b_l : Nat) (b_c : Nat) (f : Int) (w32 : World), J1 y b_a b_l b_c f w32 →
                (bsplit (decide (f = (14 : Int)))
                  ((bsplit (!r9)
                    ((∃ x_07 x_17 x_25 x_35 x_45 x_55 x_65 x_75 : Int, ∃ x_8_a5 : Option Addr, ∃ x_8_l5 x_8_c5 : Nat, ∃ x_95 x_105 x_115 : Int, ∃ x_125 : Bool, cellsAt w32 ⟨b2, 0, none⟩ 0 [(.int .i64 x_07), (.int .i64 x_17), (.int .i64 x_25), (.int .i64 x_35), (.int .i64 x_45), (.int .i64 x_55), (.int .i64 x_65), (.int .i64 x_75), (.slice x_8_a5 x_8_l5 x_8_c5), (.int .i64 x_95), (.int .i64 x_105), (.int .i64 x_115), (.bool x_125)] ∧
                    (Calls Try.prog N_ref20_Left #[(.agg #[.int .i64 x_07, .int .i64 x_17, .int .i64 x_25, .int .i64 x_35, .int .i64 x_45, .int .i64 x_55, .int .i64 x_65, .int .i64 x_75, .slice x_8_a5 x_8_l5 x_8_c5, .int .i64 x_95, .int .i64 x_105, .int .i64 x_115, .bool x_125])] w32 fun e_14 w33 =>
                    ∃ r15 : Bool, e_14 = .returned (.bool r15) ∧
                    R (.bool (!r15)) w33)))
                    (R (.bool false) w32)))
                  ((kLd w32 ⟨b2, 0, none⟩ .i64 fun x6 =>
                  (Calls Try.prog N_ref18_Decode #[(.int .i64 x6), (.slice b_a b_l b_c)] w32 fun e_15 w34 =>
                  ∃ r_07 r_18 r_26 r_36 : Int, ∃ r_4_a : Option Addr, ∃ r_4_l r_4_c : Nat, ∃ r16 : Int, e_15 = .returned (.tuple #[(.agg #[.int .i64 r_07, .int .i64 r_18, .int .i64 r_26, .int .i64 r_36, .slice r_4_a r_4_l r_4_c]), (.int .i64 r16)]) ∧
                  (kAlloc w34 #[.int .i64 (0 : Int), .int .i64 (0 : Int), .int .i64 (0 : Int), .int .i64 (0 : Int), .slice none 0 0] Ty_api_Piece fun b7 w35 =>
                  (sxStore w35 ⟨b7, 0, none⟩ 0 [(.int .i64 r_07), (.int .i64 r_18), (.int .i64 r_26), (.int .i64 r_36), (.slice r_4_a r_4_l r_4_c)] fun w36 =>
                  (∃ J2 : World → Prop,
                  (∀ (_junk : Env)  (w37 : World), J2 w37 →
                    (bsplit r9
                      ((kLd w37 ⟨b7, 0, none⟩ .i64 fun x7 =>
                      (bsplit (!decide (x7 = r6))
                        (R (.bool false) w37)
                        ((kLd w37 ⟨b7, 3, none⟩ .i64 fun x9 =>
                        (bsplit (!decide (x9 = r7))
                          (R (.bool false) w37)
                          ((kLd w37 ⟨b7, 3, none⟩ .i64 fun x11 =>
                          (kLdS w37 ⟨b7, 4, none⟩ fun _ x_l _ =>
                          (kW .i64 (x11 + (x_l : Int)) fun x12 =>
                          (bsplit (decide (x12 > r8))
                            (R (.bool false) w37)
                            ((∃ x_010 x_110 x_28 x_38 x_48 x_58 x_68 x_78 : Int, ∃ x_8_a8 : Option Addr, ∃ x_8_l8 x_8_c8 : Nat, ∃ x_98 x_108 x_118 : Int, ∃ x_128 : Bool, cellsAt w37 y 0 [(.int .i64 x_010), (.int .i64 x_110), (.int .i64 x_28), (.int .i64 x_38), (.int .i64 x_48), (.int .i64 x_58), (.int .i64 x_68), (.int .i64 x_78), (.slice x_8_a8 x_8_l8 x_8_c8), (.int .i64 x_98), (.int .i64 x_108), (.int .i64 x_118), (.bool x_128)] ∧
                            (sxStore w37 ⟨b2, 0, none⟩ 0 [(.int .i64 x_010), (.int .i64 x_110), (.int .i64 x_28), (.int .i64 x_38), (.int .i64 x_48), (.int .i64 x_58), (.int .i64 x_68), (.int .i64 x_78), (.slice x_8_a8 x_8_l8 x_8_c8), (.int .i64 x_98), (.int .i64 x_108), (.int .i64 x_118), (.bool x_128)] fun w40 =>
                            (kW .i64 (n + (1 : Int)) fun x13 =>
                            ((I x13).2 w40 ∧ (I x13).1 < (I n).1))))))))))))))))
                      ((∃ x_011 x_119 x_29 x_39 x_49 x_59 x_69 x_79 : Int, ∃ x_8_a9 : Option Addr, ∃ x_8_l9 x_8_c9 : Nat, ∃ x_99 x_109 x_1110 : Int, ∃ x_129 : Bool, cellsAt w37 y 0 [(.int .i64 x_011), (.int .i64 x_119), (.int .i64 x_29), (.int .i64 x_39), (.int .i64 x_49), (.int .i64 x_59), (.int .i64 x_69), (.int .i64 x_79), (.slice x_8_a9 x_8_l9 x_8_c9), (.int .i64 x_99), (.int .i64 x_109), (.int .i64 x_1110), (.bool x_129)] ∧
                        (sxStore w37 ⟨b2, 0, none⟩ 0 [(.int .i64 x_011), (.int .i64 x_119), (.int .i64 x_29), (.int .i64 x_39), (.int .i64 x_49), (.int .i64 x_59), (.int .i64 x_69), (.int .i64 x_79), (.slice x_8_a9 x_8_l9 x_8_c9), (.int .i64 x_99), (.int .i64 x_109), (.int .i64 x_1110), (.bool x_129)] fun w41 =>
                        (kW .i64 (n + (1 : Int)) fun x14 =>
                        ((I x14).2 w41 ∧ (I x14).1 < (I n).1))))))) ∧
                  (bsplit (!decide (f = (0 : Int)))
                    (R (.bool false) w36)
                    ((bsplit (!decide (r16 = (0 : Int)))
                      (R (.bool false) w36)
                      (J2 w36)))))))))))) ∧
              (kDrew w19 fun w20 =>
              (∃ S : Nat → Prop,
              (S b2 ∧
              (∃ x_06 x_16 x_24 x_34 x_44 x_54 x_64 x_74 : Int, ∃ x_8_a4 : Option Addr, ∃ x_8_l4 x_8_c4 : Nat, ∃ x_94 x_104 x_114 : Int, ∃ x_124 : Bool, cellsAt w20 ⟨b2, 0, none⟩ 0 [(.int .i64 x_06), (.int .i64 x_16), (.int .i64 x_24), (.int .i64 x_34), (.int .i64 x_44), (.int .i64 x_54), (.int .i64 x_64), (.int .i64 x_74), (.slice x_8_a4 x_8_l4 x_8_c4), (.int .i64 x_94), (.int .i64 x_104), (.int .i64 x_114), (.bool x_124)] ∧
              ((Calls Try.prog N_made_Dice_Next #[(.pointer r2), (.int .i64 (9 : Int))] w20 fun e_11 w25 =>
              ∃ r12 : Int, e_11 = .returned (.int .i64 r12) ∧
              (KeepsB S w20 w25 ∧ (kW .i64 ((5 : Int) + r12) fun x5 =>
              ((Calls Try.prog N_sender_Build #[(.agg #[.int .i64 x_06, .int .i64 x_16, .int .i64 x_24, .int .i64 x_34, .int .i64 x_44, .int .i64 x_54, .int .i64 x_64, .int .i64 x_74, .slice x_8_a4 x_8_l4 x_8_c4, .int .i64 x_94, .int .i64 x_104, .int .i64 x_114, .bool x_124]), (.int .i64 x5)] w25 fun e_13 w29 =>
              ∃ r_06 r_17 r_25 r_35 r_45 r_55 r_65 r_75 : Int, ∃ r_8_a5 : Option Addr, ∃ r_8_l5 r_8_c5 : Nat, ∃ r_95 r_105 r_115 : Int, ∃ r_125 : Bool, ∃ r_a2 : Option Addr, ∃ r_l2 r_c2 : Nat, ∃ r14 : Int, e_13 = .returned (.tuple #[(.agg #[.int .i64 r_06, .int .i64 r_17, .int .i64 r_25, .int .i64 r_35, .int .i64 r_45, .int .i64 r_55, .int .i64 r_65, .int .i64 r_75, .slice r_8_a5 r_8_l5 r_8_c5, .int .i64 r_95, .int .i64 r_105, .int .i64 r_115, .bool r_125]), (.slice r_a2 r_l2 r_c2), (.int .i64 r14)]) ∧
              (KeepsB S w20 w29 ∧ (kAlloc w29 #[.int .i64 (0 : Int), .int .i64 (0 : Int), .int .i64 (0 : Int), .int .i64 (0 : Int), .int .i64 (0 : Int), .int .i64 (0 : Int), .int .i64 (0 : Int), .int .i64 (0 : Int), .slice none 0 0, .int .i64 (0 : Int), .int .i64 (0 : Int), .int .i64 (0 : Int), .bool false] Ty_api_Sender fun b6 w30 =>
              (KeepsB S w20 w30 ∧ (sxStore w30 ⟨b6, 0, none⟩ 0 [(.int .i64 r_06), (.int .i64 r_17), (.int .i64 r_25), (.int .i64 r_35), (.int .i64 r_45), (.int .i64 r_55), (.int .i64 r_65), (.int .i64 r_75), (.slice r_8_a5 r_8_l5 r_8_c5), (.int .i64 r_95), (.int .i64 r_105), (.int .i64 r_115), (.bool r_125)] fun w31 =>
              J1 ⟨b6, 0, none⟩ r_a2 r_l2 r_c2 r14 w31))))) ∧
              ((kAlloc w25 #[.int .i64 (0 : Int), .int .i64 (0 : Int), .int .i64 (0 : Int), .int .i64 (0 : Int), .int .i64 (0 : Int), .int .i64 (0 : Int), .int .i64 (0 : Int), .int .i64 (0 : Int), .slice none 0 0, .int .i64 (0 : Int), .int .i64 (0 : Int), .int .i64 (0 : Int), .bool false] Ty_api_Sender fun b5 w26 =>
              (KeepsB S w20 w26 ∧ (Calls Try.prog N_sender_Build #[(.agg #[.int .i64 x_06, .int .i64 x_16, .int .i64 x_24, .int .i64 x_34, .int .i64 x_44, .int .i64 x_54, .int .i64 x_64, .int .i64 x_74, .slice x_8_a4 x_8_l4 x_8_c4, .int .i64 x_94, .int .i64 x_104, .int .i64 x_114, .bool x_124]), (.int .i64 x5)] w26 fun e_12 w27 =>
              ∃ r_05 r_16 r_24 r_34 r_44 r_54 r_64 r_74 : Int, ∃ r_8_a4 : Option Addr, ∃ r_8_l4 r_8_c4 : Nat, ∃ r_94 r_104 r_114 : Int, ∃ r_124 : Bool, ∃ r_a1 : Option Addr, ∃ r_l1 r_c1 : Nat, ∃ r13 : Int, e_12 = .returned (.tuple #[(.agg #[.int .i64 r_05, .int .i64 r_16, .int .i64 r_24, .int .i64 r_34, .int .i64 r_44, .int .i64 r_54, .int .i64 r_64, .int .i64 r_74, .slice r_8_a4 r_8_l4 r_8_c4, .int .i64 r_94, .int .i64 r_104, .int .i64 r_114, .bool r_124]), (.slice r_a1 r_l1 r_c1), (.int .i64 r13)]) ∧
              (KeepsB S w20 w27 ∧ (sxStore w27 ⟨b5, 0, none⟩ 0 [(.int .i64 r_05), (.int .i64 r_16), (.int .i64 r_24), (.int .i64 r_34), (.int .i64 r_44), (.int .i64 r_54), (.int .i64 r_64), (.int .i64 r_74), (.slice r_8_a4 r_8_l4 r_8_c4), (.int .i64 r_94), (.int .i64 r_104), (.int .i64 r_114), (.bool r_124)] fun w28 =>
              J1 ⟨b5, 0, none⟩ r_a1 r_l1 r_c1 r13 w28))))) ∧
              True))))) ∧
              ((kAlloc w20 #[.int .i64 (0 : Int), .int .i64 (0 : Int), .int .i64 (0 : Int), .int .i64 (0 : Int), .int .i64 (0 : Int), .int .i64 (0 : Int), .int .i64 (0 : Int), .int .i64 (0 : Int), .slice none 0 0, .int .i64 (0 : Int), .int .i64 (0 : Int), .int .i64 (0 : Int), .bool false] Ty_api_Sender fun b4 w21 =>
              (KeepsB S w20 w21 ∧ (Calls Try.prog N_made_Dice_Next #[(.pointer r2), (.int .i64 (9 : Int))] w21 fun e_9 w22 =>
              ∃ r10 : Int, e_9 = .returned (.int .i64 r10) ∧
              (KeepsB S w20 w22 ∧ (kW .i64 ((5 : Int) + r10) fun x4 =>
              (Calls Try.prog N_sender_Build #[(.agg #[.int .i64 x_06, .int .i64 x_16, .int .i64 x_24, .int .i64 x_34, .int .i64 x_44, .int .i64 x_54, .int .i64 x_64, .int .i64 x_74, .slice x_8_a4 x_8_l4 x_8_c4, .int .i64 x_94, .int .i64 x_104, .int .i64 x_114, .bool x_124]), (.int .i64 x4)] w22 fun e_10 w23 =>
              ∃ r_04 r_15 r_23 r_33 r_43 r_53 r_63 r_73 : Int, ∃ r_8_a3 : Option Addr, ∃ r_8_l3 r_8_c3 : Nat, ∃ r_93 r_103 r_113 : Int, ∃ r_123 : Bool, ∃ r_a : Option Addr, ∃ r_l r_c : Nat, ∃ r11 : Int, e_10 = .returned (.tuple #[(.agg #[.int .i64 r_04, .int .i64 r_15, .int .i64 r_23, .int .i64 r_33, .int .i64 r_43, .int .i64 r_53, .int .i64 r_63, .int .i64 r_73, .slice r_8_a3 r_8_l3 r_8_c3, .int .i64 r_93, .int .i64 r_103, .int .i64 r_113, .bool r_123]), (.slice r_a r_l r_c), (.int .i64 r11)]) ∧
              (KeepsB S w20 w23 ∧ (sxStore w23 ⟨b4, 0, none⟩ 0 [(.int .i64 r_04), (.int .i64 r_15), (.int .i64 r_23), (.int .i64 r_33), (.int .i64 r_43), (.int .i64 r_53), (.int .i64 r_63), (.int .i64 r_73), (.slice r_8_a3 r_8_l3 r_8_c3), (.int .i64 r_93), (.int .i64 r_103), (.int .i64 r_113), (.bool r_123)] fun w24 =>
              J1 ⟨b4, 0, none⟩ r_a r_l r_c r11 w24)))))))) ∧
              True))))))))))
              (R (.bool true) w18))))))) ∧
      (bsplit (!decide (r3 = (0 : Int)))
        (J true w13)
        ((kLdB w13 ⟨b2, 12, none⟩ fun x =>
        J x w13)))))))))))))))))))))))
theorem F_law20_SenderRepeats_eq (t_a : Option Addr) (t_l : Nat) (t_c : Nat) (w : World) (R : Value → World → Prop) : sxFn Try.prog TT h_law20_SenderRepeats Try.f4 #[(.slice t_a t_l t_c)] w R = F_law20_SenderRepeats t_a t_l t_c w R := by kernel_rfl
theorem F_law20_SenderRepeats_ok {R : Ending → World → Prop} (t_a : Option Addr) (t_l : Nat) (t_c : Nat) (w : World) (h : F_law20_SenderRepeats t_a t_l t_c w fun v w' => R (.returned v) w') : Calls Try.prog N_law20_SenderRepeats #[(.slice t_a t_l t_c)] w R :=
  calls_of (f := 4) follows_ok Try.func4 (Eq.mpr (F_law20_SenderRepeats_eq t_a t_l t_c w _) h)

end Go.Proofs.Ytmhggobilcmdmaa
