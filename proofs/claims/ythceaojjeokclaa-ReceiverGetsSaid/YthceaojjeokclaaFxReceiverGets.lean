import Derived.Test.YthceaojjeokclaaBase
import Derived.KernelRfl
namespace Go.Proofs.Ythceaojjeokclaa
open Go.Sx Go.RowKit
set_option maxRecDepth 100000

def h_law21_ReceiverGets : H := (.seq .reg (.seq (.seq .reg (.cond (.seq .reg .leaf) .leaf)) (.seq .reg (.seq .reg (.seq .reg (.cut [] [2, 38, 39, 40, 41, 42, 43] (.seq .reg (.cond (.seq .reg .leaf) .leaf)) (.seq .reg (.seq .reg (.seq .reg (.seq .reg (.seq (.seq .reg (.block (.loop [(9, .p (.int .i64)), (11, .p (.int .i64))] [2, 9, 11, 12, 13, 14, 15, 16, 17, 18, 19, 20, 53, 54, 55, 56, 57, 58, 59, 60, 61, 62, 63, 64, 65, 66, 67, 68, 69, 70, 71, 72, 73, 74, 75, 76, 77, 78, 79, 80, 81, 82, 83, 84, 85, 86, 87, 88, 89, 90, 91, 92, 93, 94, 95, 96, 97, 98, 99, 100, 101, 102, 103, 104, 105, 106, 107, 108, 109, 110, 111, 112, 113, 114, 115, 116, 117, 118, 119, 120, 121, 122, 123, 124, 125, 126, 127, 128, 129, 130, 131, 132, 133, 134, 135, 136, 137, 138, 139, 140, 141, 142, 143, 144, 145, 146, 147, 148, 149, 150, 151, 152, 153, 154, 155, 156, 157, 158, 159, 160, 161, 162, 163, 164, 165, 166, 167, 168, 169, 170, 171, 172, 173, 174] (.seq (.seq .reg (.cond .leaf .leaf)) (.seq (.block (.seq .reg (.seq .reg (.seq .reg (.seq .reg (.cut [(14, .p (.int .i64)), (15, .p (.int .i64))] [14, 15, 81, 82, 83, 84] (.seq .reg (.cond .reg .leaf)) (.cut [(16, .p .addr)] [16, 85, 86, 87, 88, 89, 90, 91, 92, 93] (.draw .blk (.one 0 .pur (.one 1 .pur (.one 3 .pur (.one 4 .pur (.one 5 .pur (.one 6 .pur (.one 7 .pur (.alt 2 (.alt 8 (.one 9 .keep (.one 10 .last .nil)) (.alt 9 (.one 8 .keep (.one 10 .last .nil)) .endAlt)) (.alt 9 (.one 2 .keep (.one 8 .keep (.one 10 .last .nil))) .endAlt)))))))))) (.cut [] [94, 95, 96, 97, 98, 99, 100, 101, 102, 103, 104, 105, 106, 107, 108, 109, 110, 111, 112, 113] (.block (.cut [(94, .p .bool)] [94, 95, 96, 97, 98, 99, 100, 101, 102] .reg (.cond .reg (.seq .reg (.cond .reg (.seq .reg (.cond .reg .leaf))))))) (.seq .reg (.seq .reg (.seq .reg (.seq .reg (.seq (.cut [(146, .p .bool)] [127, 128, 129, 130, 131, 132, 133, 134, 135, 136, 137, 138, 139, 140, 141, 142, 143, 144, 145, 146] .reg (.cond (.seq .reg .leaf) .leaf)) (.cut [] [2, 147, 148, 149, 150, 151, 152, 153, 154, 155, 156, 157, 158, 159, 160, 161, 162] (.seq .reg (.cond (.seq (.seq .reg (.cond (.seq .reg .leaf) .leaf)) .reg) .leaf)) (.seq (.block (.loop [(9, .p (.int .i64))] [9, 163, 164, 165, 166, 167, 168] (.seq (.seq .reg (.cond .leaf .leaf)) (.block .reg)))) (.seq (.draw .blk (.one 0 .pur (.one 1 .stable (.one 2 .pur (.one 3 .pur (.one 4 .keep (.one 5 .pur .nil))))))) (.cond (.seq .reg .leaf) .leaf))))))))))))))))) .reg))))) (.seq .reg (.cut [] [2, 180, 181, 182, 183, 184, 185, 186, 187] (.seq .reg (.cond (.seq .reg .leaf) .leaf)) (.seq (.seq .reg (.block (.loop [(23, .p (.int .i64))] [2, 23, 24, 188, 189, 190, 191, 192, 193, 194, 195, 196, 197, 198, 199, 200, 201, 202, 203, 204, 205, 206, 207, 208, 209, 210, 211, 212, 213, 214, 215, 216] (.seq (.seq .reg (.cond .leaf .leaf)) (.seq (.block (.seq (.draw .no (.one 0 .pur (.one 1 .pur (.one 2 .pur (.one 3 .pre (.one 4 .pur (.one 5 .pre (.one 6 .pur (.one 7 .pur (.one 8 .pur (.one 9 .pre (.one 10 .last (.one 11 .pur (.one 12 .pur .nil)))))))))))))) (.seq .reg (.cond (.seq .reg .leaf) .leaf)))) .reg))))) (.seq .reg .leaf)))))))))))))))
def F_law21_ReceiverGets (t_a : Option Addr) (t_l : Nat) (t_c : Nat) (w : World) (R : Value → World → Prop) : Prop :=
  (Calls Try.prog N_made_Light #[(.slice t_a t_l t_c)] w fun e_ w1 =>
  ∃ r : Bool, e_ = .returned (.bool r) ∧
  (bsplit (!r)
    ((Calls Try.prog N_law21_awake #[] w1 fun e_1 w2 =>
    ∃ r1 : Bool, e_1 = .returned (.bool r1) ∧
    R (.bool r1) w2))
    ((Calls Try.prog N_made_Roll #[(.slice t_a t_l t_c)] w1 fun e_2 w3 =>
    ∃ r2 : Option Addr, e_2 = .returned (.pointer r2) ∧
    (Calls Try.prog N_made_Dice_Link #[(.pointer r2)] w3 fun e_3 w4 =>
    ∃ r_0 r_1 r_2 r_3 r_4 r_5 : Int, e_3 = .returned (.agg #[.int .i64 r_0, .int .i64 r_1, .int .i64 r_2, .int .i64 r_3, .int .i64 r_4, .int .i64 r_5]) ∧
    (kAlloc w4 #[.int .i64 (0 : Int), .int .i64 (0 : Int), .int .i64 (0 : Int), .int .i64 (0 : Int), .int .i64 (0 : Int), .int .i64 (0 : Int)] Ty_api_Link fun b w5 =>
    (sxStore w5 ⟨b, 0, none⟩ 0 [(.int .i64 r_0), (.int .i64 r_1), (.int .i64 r_2), (.int .i64 r_3), (.int .i64 r_4), (.int .i64 r_5)] fun w6 =>
    (∃ x_0 x_1 x_2 x_3 x_4 x_5 : Int, cellsAt w6 ⟨b, 0, none⟩ 0 [(.int .i64 x_0), (.int .i64 x_1), (.int .i64 x_2), (.int .i64 x_3), (.int .i64 x_4), (.int .i64 x_5)] ∧
    (Calls Try.prog N_receiver_New #[(.agg #[.int .i64 x_0, .int .i64 x_1, .int .i64 x_2, .int .i64 x_3, .int .i64 x_4, .int .i64 x_5])] w6 fun e_4 w7 =>
    ∃ r_01 r_11 r_21 r_31 r_41 r_51 r_6 r_7 r_8 r_9 r_10 r_111 : Int, ∃ r_12 : Bool, ∃ r_13_a : Option Addr, ∃ r_13_l r_13_c : Nat, ∃ r3 : Int, e_4 = .returned (.tuple #[(.agg #[.int .i64 r_01, .int .i64 r_11, .int .i64 r_21, .int .i64 r_31, .int .i64 r_41, .int .i64 r_51, .int .i64 r_6, .int .i64 r_7, .int .i64 r_8, .int .i64 r_9, .int .i64 r_10, .int .i64 r_111, .bool r_12, .slice r_13_a r_13_l r_13_c]), (.int .i64 r3)]) ∧
    (kAlloc w7 #[.int .i64 (0 : Int), .int .i64 (0 : Int), .int .i64 (0 : Int), .int .i64 (0 : Int), .int .i64 (0 : Int), .int .i64 (0 : Int), .int .i64 (0 : Int), .int .i64 (0 : Int), .int .i64 (0 : Int), .int .i64 (0 : Int), .int .i64 (0 : Int), .int .i64 (0 : Int), .bool false, .slice none 0 0] Ty_api_Receiver fun b1 w8 =>
    (sxStore w8 ⟨b1, 0, none⟩ 0 [(.int .i64 r_01), (.int .i64 r_11), (.int .i64 r_21), (.int .i64 r_31), (.int .i64 r_41), (.int .i64 r_51), (.int .i64 r_6), (.int .i64 r_7), (.int .i64 r_8), (.int .i64 r_9), (.int .i64 r_10), (.int .i64 r_111), (.bool r_12), (.slice r_13_a r_13_l r_13_c)] fun w9 =>
    (∃ J : World → Prop,
    (∀ (_junk : Env)  (w11 : World), J w11 →
      (kLd w11 ⟨b, 0, none⟩ .i64 fun x =>
      (kW .i64 (x - (1 : Int)) fun x1 =>
      (kW .u64 (x1) fun x2 =>
      (0 ≤ x2 ∧ (kW .i64 ((1 : Int) * 2 ^ (min x2.toNat (IntKind.bits .i64))) fun x3 =>
      (kMake w11 1 (2000 : Int) (2000 : Int) #[(.bool false)] 1 Ty_bool fun b2 w12 =>
      (Calls Try.prog N_made_Dice_Next #[(.pointer r2), (.int .i64 (70 : Int))] w12 fun e_6 w13 =>
      ∃ r5 : Int, e_6 = .returned (.int .i64 r5) ∧
      (∃ I : Int → Int → Nat × (World → Prop), (I (0 : Int) r5).2 w13 ∧
      (∀ (_junk : Env) (first : Int) (n : Int) (w14 : World), (I first n).2 w14 →
        (bsplit (decide (n > (0 : Int)))
          ((Calls Try.prog N_made_Dice_Next #[(.pointer r2), (.int .i64 (if (9 : Int) < x3 then (9 : Int) else x3))] w14 fun e_7 w15 =>
          ∃ r6 : Int, e_7 = .returned (.int .i64 r6) ∧
          (kW .i64 (first + r6) fun x4 =>
          (kLet (Int.tmod x4 (9 : Int)) fun x5 =>
          (kW .i64 ((3 : Int) + x5) fun x6 =>
          (Calls Try.prog N_made_Filled #[(.int .i64 x6), (.int .i64 x4)] w15 fun e_8 w16 =>
          ∃ r_a : Option Addr, ∃ r_l r_c : Nat, e_8 = .returned (.slice r_a r_l r_c) ∧
          (Calls Try.prog N_made_Dice_Next #[(.pointer r2), (.int .i64 (r_l : Int))] w16 fun e_9 w17 =>
          ∃ r7 : Int, e_9 = .returned (.int .i64 r7) ∧
          (kW .i64 (r7 + (1 : Int)) fun x7 =>
          (kW .i64 ((r_l : Int) - r7) fun x8 =>
          (Calls Try.prog N_made_Dice_Next #[(.pointer r2), (.int .i64 x8)] w17 fun e_10 w18 =>
          ∃ r8 : Int, e_10 = .returned (.int .i64 r8) ∧
          (kW .i64 (x7 + r8) fun x9 =>
          (∃ J1 : Int → Int → World → Prop,
          (∀ (_junk : Env) (from1 : Int) (to1 : Int) (w20 : World), J1 from1 to1 w20 →
            (∃ J2 : Addr → World → Prop,
            (∀ (_junk : Env) (p : Addr) (w30 : World), J2 p w30 →
              (∃ J3 : World → Prop,
              (∀ (_junk : Env)  (w35 : World), J3 w35 →
                (∃ x_01 x_11 x_21 x_31 : Int, ∃ x_4_a : Option Addr, ∃ x_4_l x_4_c : Nat, cellsAt w35 p 0 [(.int .i64 x_01), (.int .i64 x_11), (.int .i64 x_21), (.int .i64 x_31), (.slice x_4_a x_4_l x_4_c)] ∧
                (Calls Try.prog N_ref18_Encode #[(.int .i64 x), (.agg #[.int .i64 x_01, .int .i64 x_11, .int .i64 x_21, .int .i64 x_31, .slice x_4_a x_4_l x_4_c])] w35 fun e_14 w36 =>
                ∃ r_a1 : Option Addr, ∃ r_l1 r_c1 : Nat, ∃ r12 : Int, e_14 = .returned (.tuple #[(.slice r_a1 r_l1 r_c1), (.int .i64 r12)]) ∧
                (∃ x_02 x_12 x_22 x_32 x_41 x_51 x_6 x_7 x_8 x_9 x_10 x_111 : Int, ∃ x_121 : Bool, ∃ x_13_a : Option Addr, ∃ x_13_l x_13_c : Nat, cellsAt w36 ⟨b1, 0, none⟩ 0 [(.int .i64 x_02), (.int .i64 x_12), (.int .i64 x_22), (.int .i64 x_32), (.int .i64 x_41), (.int .i64 x_51), (.int .i64 x_6), (.int .i64 x_7), (.int .i64 x_8), (.int .i64 x_9), (.int .i64 x_10), (.int .i64 x_111), (.bool x_121), (.slice x_13_a x_13_l x_13_c)] ∧
                (Calls Try.prog N_receiver_Receive #[(.agg #[.int .i64 x_02, .int .i64 x_12, .int .i64 x_22, .int .i64 x_32, .int .i64 x_41, .int .i64 x_51, .int .i64 x_6, .int .i64 x_7, .int .i64 x_8, .int .i64 x_9, .int .i64 x_10, .int .i64 x_111, .bool x_121, .slice x_13_a x_13_l x_13_c]), (.slice r_a1 r_l1 r_c1)] w36 fun e_15 w37 =>
                ∃ r_02 r_13 r_22 r_32 r_42 r_52 r_61 r_71 r_81 r_91 r_101 r_112 : Int, ∃ r_121 : Bool, ∃ r_13_a1 : Option Addr, ∃ r_13_l1 r_13_c1 : Nat, ∃ r_a2 : Option Addr, ∃ r_l2 r_c2 : Nat, ∃ r13 : Int, e_15 = .returned (.tuple #[(.agg #[.int .i64 r_02, .int .i64 r_13, .int .i64 r_22, .int .i64 r_32, .int .i64 r_42, .int .i64 r_52, .int .i64 r_61, .int .i64 r_71, .int .i64 r_81, .int .i64 r_91, .int .i64 r_101, .int .i64 r_112, .bool r_121, .slice r_13_a1 r_13_l1 r_13_c1]), (.slice r_a2 r_l2 r_c2), (.int .i64 r13)]) ∧
                (sxStore w37 ⟨b1, 0, none⟩ 0 [(.int .i64 r_02), (.int .i64 r_13), (.int .i64 r_22), (.int .i64 r_32), (.int .i64 r_42), (.int .i64 r_52), (.int .i64 r_61), (.int .i64 r_71), (.int .i64 r_81), (.int .i64 r_91), (.int .i64 r_101), (.int .i64 r_112), (.bool r_121), (.slice r_13_a1 r_13_l1 r_13_c1)] fun w38 =>
                (∃ J5 : Bool → World → Prop,
                (∀ (_junk : Env) (x14 : Bool) (w43 : World), J5 x14 w43 →
                  (bsplit x14
                    (R (.bool false) w43)
                    ((∃ J6 : World → Prop,
                    (∀ (_junk : Env)  (w47 : World), J6 w47 →
                      (∃ I1 : Int → Nat × (World → Prop), (I1 first).2 w47 ∧
                      (∀ (_junk : Env) (first1 : Int) (w48 : World), (I1 first1).2 w48 →
                        (kIx (some ⟨b2, 0, none⟩) ((2000 : Int).toNat) first1 fun b9 =>
                        (kLdB w48 (b9.add (first1.toNat * 1)) fun x16 =>
                        (bsplit x16
                          ((kW .i64 (first1 + (1 : Int)) fun x17 =>
                          ((I1 x17).2 w48 ∧ (I1 x17).1 < (I1 first1).1)))
                          ((kDrew w48 fun w49 =>
                          (∃ S1 : Nat → Prop,
                          (S1 b1 ∧
                          (kLd w49 ⟨b1, 6, none⟩ .i64 fun x18 =>
                          (Calls Try.prog N_ref02_Low #[(.int .i64 x), (.int .i64 first1)] w49 fun e_21 w50 =>
                          ∃ r19 : Int, e_21 = .returned (.int .i64 r19) ∧
                          (KeepsB S1 w49 w50 ∧ (bsplit (!decide (x18 = r19))
                            (R (.bool false) w50)
                            ((kW .i64 (n - (1 : Int)) fun x19 =>
                            ((I first1 x19).2 w50 ∧ (I first1 x19).1 < (I first n).1))))))))))))))))) ∧
                    (bsplit (decide ((r_l2 : Int) > (0 : Int)))
                      ((kIx (some ⟨b2, 0, none⟩) ((2000 : Int).toNat) x4 fun b6 =>
                      (kLdB w43 (b6.add (x4.toNat * 1)) fun x15 =>
                      (bsplit x15
                        (R (.bool false) w43)
                        ((Calls Try.prog N_ref01_Same #[(.slice r_a2 r_l2 r_c2), (.slice r_a r_l r_c)] w43 fun e_20 w45 =>
                        ∃ r18 : Bool, e_20 = .returned (.bool r18) ∧
                        (bsplit (!r18)
                          (R (.bool false) w45)
                          ((kIx (some ⟨b2, 0, none⟩) ((2000 : Int).toNat) x4 fun b8 =>
                          (kSet w45 (b8.add (x4.toNat * 1)) (.bool true) fun w46 =>
                          J6 w46))))))))))
                      (J6 w43)))))) ∧
                (bsplit (!decide (r13 = (0 : Int)))
                  ((bsplit (!decide (r13 = (12 : Int)))
                    (J5 true w38)
                    ((bsplit (!decide (r13 = (0 : Int)))
                      ((bsplit (decide ((r_l2 : Int) > (0 : Int)))
                        (J5 true w38)
                        ((∃ x_03 x_13 x_23 x_33 x_42 x_52 x_61 x_71 x_81 x_91 x_101 x_112 : Int, ∃ x_122 : Bool, ∃ x_13_a1 : Option Addr, ∃ x_13_l1 x_13_c1 : Nat, cellsAt w38 ⟨b1, 0, none⟩ 0 [(.int .i64 x_03), (.int .i64 x_13), (.int .i64 x_23), (.int .i64 x_33), (.int .i64 x_42), (.int .i64 x_52), (.int .i64 x_61), (.int .i64 x_71), (.int .i64 x_81), (.int .i64 x_91), (.int .i64 x_101), (.int .i64 x_112), (.bool x_122), (.slice x_13_a1 x_13_l1 x_13_c1)] ∧
                        (Calls Try.prog N_receiver_Valid #[(.agg #[.int .i64 x_03, .int .i64 x_13, .int .i64 x_23, .int .i64 x_33, .int .i64 x_42, .int .i64 x_52, .int .i64 x_61, .int .i64 x_71, .int .i64 x_81, .int .i64 x_91, .int .i64 x_101, .int .i64 x_112, .bool x_122, .slice x_13_a1 x_13_l1 x_13_c1])] w38 fun e_16 w39 =>
                        ∃ r14 : Bool, e_16 = .returned (.bool r14) ∧
                        J5 (!r14) w39)))))
                      ((∃ x_04 x_14 x_24 x_34 x_43 x_53 x_62 x_72 x_82 x_92 x_102 x_113 : Int, ∃ x_123 : Bool, ∃ x_13_a2 : Option Addr, ∃ x_13_l2 x_13_c2 : Nat, cellsAt w38 ⟨b1, 0, none⟩ 0 [(.int .i64 x_04), (.int .i64 x_14), (.int .i64 x_24), (.int .i64 x_34), (.int .i64 x_43), (.int .i64 x_53), (.int .i64 x_62), (.int .i64 x_72), (.int .i64 x_82), (.int .i64 x_92), (.int .i64 x_102), (.int .i64 x_113), (.bool x_123), (.slice x_13_a2 x_13_l2 x_13_c2)] ∧
                      (Calls Try.prog N_receiver_Valid #[(.agg #[.int .i64 x_04, .int .i64 x_14, .int .i64 x_24, .int .i64 x_34, .int .i64 x_43, .int .i64 x_53, .int .i64 x_62, .int .i64 x_72, .int .i64 x_82, .int .i64 x_92, .int .i64 x_102, .int .i64 x_113, .bool x_123, .slice x_13_a2 x_13_l2 x_13_c2])] w38 fun e_17 w40 =>
                      ∃ r15 : Bool, e_17 = .returned (.bool r15) ∧
                      J5 (!r15) w40)))))))
                  ((bsplit (!decide (r13 = (0 : Int)))
                    ((bsplit (decide ((r_l2 : Int) > (0 : Int)))
                      (J5 true w38)
                      ((∃ x_05 x_15 x_25 x_35 x_44 x_54 x_63 x_73 x_83 x_93 x_103 x_114 : Int, ∃ x_124 : Bool, ∃ x_13_a3 : Option Addr, ∃ x_13_l3 x_13_c3 : Nat, cellsAt w38 ⟨b1, 0, none⟩ 0 [(.int .i64 x_05), (.int .i64 x_15), (.int .i64 x_25), (.int .i64 x_35), (.int .i64 x_44), (.int .i64 x_54), (.int .i64 x_63), (.int .i64 x_73), (.int .i64 x_83), (.int .i64 x_93), (.int .i64 x_103), (.int .i64 x_114), (.bool x_124), (.slice x_13_a3 x_13_l3 x_13_c3)] ∧
                      (Calls Try.prog N_receiver_Valid #[(.agg #[.int .i64 x_05, .int .i64 x_15, .int .i64 x_25, .int .i64 x_35, .int .i64 x_44, .int .i64 x_54, .int .i64 x_63, .int .i64 x_73, .int .i64 x_83, .int .i64 x_93, .int .i64 x_103, .int .i64 x_114, .bool x_124, .slice x_13_a3 x_13_l3 x_13_c3])] w38 fun e_18 w41 =>
                      ∃ r16 : Bool, e_18 = .returned (.bool r16) ∧
                      J5 (!r16) w41)))))
                    ((∃ x_06 x_16 x_26 x_36 x_45 x_55 x_64 x_74 x_84 x_94 x_104 x_115 : Int, ∃ x_125 : Bool, ∃ x_13_a4 : Option Addr, ∃ x_13_l4 x_13_c4 : Nat, cellsAt w38 ⟨b1, 0, none⟩ 0 [(.int .i64 x_06), (.int .i64 x_16), (.int .i64 x_26), (.int .i64 x_36), (.int .i64 x_45), (.int .i64 x_55), (.int .i64 x_64), (.int .i64 x_74), (.int .i64 x_84), (.int .i64 x_94), (.int .i64 x_104), (.int .i64 x_115), (.bool x_125), (.slice x_13_a4 x_13_l4 x_13_c4)] ∧
                    (Calls Try.prog N_receiver_Valid #[(.agg #[.int .i64 x_06, .int .i64 x_16, .int .i64 x_26, .int .i64 x_36, .int .i64 x_45, .int .i64 x_55, .int .i64 x_64, .int .i64 x_74, .int .i64 x_84, .int .i64 x_94, .int .i64 x_104, .int .i64 x_115, .bool x_125, .slice x_13_a4 x_13_l4 x_13_c4])] w38 fun e_19 w42 =>
                    ∃ r17 : Bool, e_19 = .returned (.bool r17) ∧
                    J5 (!r17) w42))))))))))))) ∧
              (∃ J4 : Bool → World → Prop,
              (∀ (_junk : Env) (x11 : Bool) (w31 : World), J4 x11 w31 →
                (bsplit x11
                  ((kSet w31 (p.add 1) (.int .i64 (0 : Int)) fun w32 =>
                  J3 w32))
                  ((kLet (decide (from1 = (0 : Int))) fun x12 =>
                  (bsplit x12
                    ((kSet w31 (p.add 1) (.int .i64 (1 : Int)) fun w33 =>
                    J3 w33))
                    ((kLet (decide (to1 = (r_l : Int))) fun x13 =>
                    (bsplit x13
                      ((kSet w31 (p.add 1) (.int .i64 (2 : Int)) fun w34 =>
                      J3 w34))
                      (J3 w31))))))))) ∧
              (bsplit (decide (from1 = (0 : Int)))
                ((kLet (decide (to1 = (r_l : Int))) fun x10 =>
                J4 x10 w30))
                (J4 false w30))))) ∧
            (kDrew w20 fun w21 =>
            (∃ S : Nat → Prop,
            ((0 ≤ to1 ∧ to1 ≤ ((r_c : Nat) : Int)) ∧ ((0 ≤ from1 ∧ from1 ≤ ((to1.toNat : Nat) : Int)) ∧ ((Calls Try.prog N_ref02_Low #[(.int .i64 x), (.int .i64 x4)] w21 fun e_13 w25 =>
            ∃ r11 : Int, e_13 = .returned (.int .i64 r11) ∧
            (KeepsB S w21 w25 ∧ ((KeepsB S w21 w25 ∧ (kAlloc w25 #[.int .i64 (0 : Int), .int .i64 (0 : Int), .int .i64 (0 : Int), .int .i64 (0 : Int), .slice none 0 0] Ty_api_Piece fun b5 w28 =>
            (KeepsB S w21 w28 ∧ (sxStore w28 ⟨b5, 0, none⟩ 0 [(.int .i64 r11), (.int .i64 (3 : Int)), (.int .i64 (0 : Int)), (.int .i64 from1), (.slice (slAddr r_c (from1.toNat) 1 r_a) (to1.toNat - from1.toNat) (r_c - from1.toNat))] fun w29 =>
            J2 ⟨b5, 0, none⟩ w29)))) ∧
            ((kAlloc w25 #[.int .i64 (0 : Int), .int .i64 (0 : Int), .int .i64 (0 : Int), .int .i64 (0 : Int), .slice none 0 0] Ty_api_Piece fun b4 w26 =>
            (KeepsB S w21 w26 ∧ (KeepsB S w21 w26 ∧ (sxStore w26 ⟨b4, 0, none⟩ 0 [(.int .i64 r11), (.int .i64 (3 : Int)), (.int .i64 (0 : Int)), (.int .i64 from1), (.slice (slAddr r_c (from1.toNat) 1 r_a) (to1.toNat - from1.toNat) (r_c - from1.toNat))] fun w27 =>
            J2 ⟨b4, 0, none⟩ w27)))) ∧
            True)))) ∧
            ((kAlloc w21 #[.int .i64 (0 : Int), .int .i64 (0 : Int), .int .i64 (0 : Int), .int .i64 (0 : Int), .slice none 0 0] Ty_api_Piece fun b3 w22 =>
            (KeepsB S w21 w22 ∧ (Calls Try.prog N_ref02_Low #[(.int .i64 x), (.int .i64 x4)] w22 fun e_12 w23 =>
            ∃ r10 : Int, e_12 = .returned (.int .i64 r10) ∧
            (KeepsB S w21 w23 ∧ (KeepsB S w21 w23 ∧ (sxStore w23 ⟨b3, 0, none⟩ 0 [(.int .i64 r10), (.int .i64 (3 : Int)), (.int .i64 (0 : Int)), (.int .i64 from1), (.slice (slAddr r_c (from1.toNat) 1 r_a) (to1.toNat - from1.toNat) (r_c - from1.toNat))] fun w24 =>
            J2 ⟨b3, 0, none⟩ w24)))))) ∧
            True)))))))) ∧
          (Calls Try.prog N_made_Dice_One #[(.pointer r2), (.int .i64 (2 : Int))] w18 fun e_11 w19 =>
          ∃ r9 : Bool, e_11 = .returned (.bool r9) ∧
          (bsplit r9
            (J1 (0 : Int) (r_l : Int) w19)
            (J1 r7 x9 w19)))))))))))))))
          ((∃ x_07 x_17 x_27 x_37 x_46 x_56 x_65 x_75 x_85 x_95 x_105 x_116 : Int, ∃ x_126 : Bool, ∃ x_13_a5 : Option Addr, ∃ x_13_l5 x_13_c5 : Nat, cellsAt w14 ⟨b1, 0, none⟩ 0 [(.int .i64 x_07), (.int .i64 x_17), (.int .i64 x_27), (.int .i64 x_37), (.int .i64 x_46), (.int .i64 x_56), (.int .i64 x_65), (.int .i64 x_75), (.int .i64 x_85), (.int .i64 x_95), (.int .i64 x_105), (.int .i64 x_116), (.bool x_126), (.slice x_13_a5 x_13_l5 x_13_c5)] ∧
          (Calls Try.prog N_receiver_Status #[(.agg #[.int .i64 x_07, .int .i64 x_17, .int .i64 x_27, .int .i64 x_37, .int .i64 x_46, .int .i64 x_56, .int .i64 x_65, .int .i64 x_75, .int .i64 x_85, .int .i64 x_95, .int .i64 x_105, .int .i64 x_116, .bool x_126, .slice x_13_a5 x_13_l5 x_13_c5])] w14 fun e_22 w51 =>
          ∃ r_03 : Int, ∃ r_1_a : Option Addr, ∃ r_1_l r_1_c : Nat, ∃ r20 : Int, e_22 = .returned (.tuple #[(.agg #[.int .i64 r_03, .slice r_1_a r_1_l r_1_c]), (.int .i64 r20)]) ∧
          (kAlloc w51 #[.int .i64 (0 : Int), .slice none 0 0] Ty_api_Status fun b10 w52 =>
          (sxStore w52 ⟨b10, 0, none⟩ 0 [(.int .i64 r_03), (.slice r_1_a r_1_l r_1_c)] fun w53 =>
          (∃ J7 : World → Prop,
          (∀ (_junk : Env)  (w55 : World), J7 w55 →
            (∃ I2 : Int → Nat × (World → Prop), (I2 (0 : Int)).2 w55 ∧
            (∀ (_junk : Env) (i : Int) (w56 : World), (I2 i).2 w56 →
              (kLdS w56 ⟨b10, 1, none⟩ fun _ x_l _ =>
              (bsplit (decide (i < (x_l : Int)))
                ((kDrew w56 fun w57 =>
                (kLd w57 ⟨b1, 6, none⟩ .i64 fun x20 =>
                (kLdS w57 ⟨b10, 1, none⟩ fun x_a1 x_l1 _ =>
                (kIx x_a1 x_l1 i fun b11 =>
                (kLd w57 (b11.add (i.toNat * 3)) .i64 fun x21 =>
                (Calls Try.prog N_ref02_Distance #[(.int .i64 x), (.int .i64 x20), (.int .i64 x21)] w57 fun e_24 w58 =>
                ∃ r22 : Int, e_24 = .returned (.int .i64 r22) ∧
                (kW .i64 (first + r22) fun x22 =>
                (bsplit (decide (x22 ≥ ((2000 : Int).toNat : Int)))
                  (R (.bool false) w58)
                  ((kIx (some ⟨b2, 0, none⟩) ((2000 : Int).toNat) x22 fun b12 =>
                  (kLdB w58 (b12.add (x22.toNat * 1)) fun x24 =>
                  (bsplit x24
                    (R (.bool false) w58)
                    ((kW .i64 (i + (1 : Int)) fun x25 =>
                    ((I2 x25).2 w58 ∧ (I2 x25).1 < (I2 i).1))))))))))))))))
                (R (.bool true) w56)))))) ∧
          (bsplit (!decide (r20 = (0 : Int)))
            (R (.bool false) w53)
            ((∃ x_08 : Int, ∃ x_1_a : Option Addr, ∃ x_1_l x_1_c : Nat, cellsAt w53 ⟨b10, 0, none⟩ 0 [(.int .i64 x_08), (.slice x_1_a x_1_l x_1_c)] ∧
            (Calls Try.prog N_ref19_Valid #[(.int .i64 x), (.agg #[.int .i64 x_08, .slice x_1_a x_1_l x_1_c])] w53 fun e_23 w54 =>
            ∃ r21 : Bool, e_23 = .returned (.bool r21) ∧
            (bsplit (!r21)
              (R (.bool false) w54)
              (J7 w54))))))))))))))))))))))) ∧
    (Calls Try.prog N_law21_awake #[] w9 fun e_5 w10 =>
    ∃ r4 : Bool, e_5 = .returned (.bool r4) ∧
    (bsplit (!r4)
      (R (.bool false) w10)
      ((bsplit (!decide (r3 = (0 : Int)))
        (R (.bool false) w10)
        (J w10)))))))))))))))))
theorem F_law21_ReceiverGets_eq (t_a : Option Addr) (t_l : Nat) (t_c : Nat) (w : World) (R : Value → World → Prop) : sxFn Try.prog TT h_law21_ReceiverGets Try.f3 #[(.slice t_a t_l t_c)] w R = F_law21_ReceiverGets t_a t_l t_c w R := by kernel_rfl
theorem F_law21_ReceiverGets_ok {R : Ending → World → Prop} (t_a : Option Addr) (t_l : Nat) (t_c : Nat) (w : World) (h : F_law21_ReceiverGets t_a t_l t_c w fun v w' => R (.returned v) w') : Calls Try.prog N_law21_ReceiverGets #[(.slice t_a t_l t_c)] w R :=
  calls_of (f := 3) follows_ok Try.func3 (Eq.mpr (F_law21_ReceiverGets_eq t_a t_l t_c w _) h)

end Go.Proofs.Ythceaojjeokclaa
