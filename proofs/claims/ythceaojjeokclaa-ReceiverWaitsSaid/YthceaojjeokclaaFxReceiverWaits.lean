import Derived.Test.YthceaojjeokclaaBase
import Derived.KernelRfl
namespace Go.Proofs.Ythceaojjeokclaa
open Go.Sx Go.RowKit
set_option maxRecDepth 100000

def h_law21_ReceiverWaits : H := (.seq .reg (.seq (.seq .reg (.cond (.seq .reg .leaf) .leaf)) (.seq .reg (.seq .reg (.seq .reg (.cut [(9, .p .slice), (10, .p (.int .i64))] [9, 10, 28, 29, 30, 31, 32, 33, 34, 35, 36, 37, 38] (.draw .blk (.one 0 .pur (.one 1 .stable (.one 2 .pur (.alt 3 (.one 4 .pur (.one 5 .keep (.one 6 .keep (.one 7 .last (.one 8 .pur (.one 9 .pur (.one 10 .pur (.one 11 .pur (.one 12 .pur .nil))))))))) (.alt 5 (.one 3 .keep (.one 4 .pur (.one 6 .keep (.one 7 .last (.one 8 .pur (.one 9 .pur (.one 10 .pur (.one 11 .pur (.one 12 .pur .nil))))))))) .endAlt)))))) (.cut [] [4, 39, 40, 41, 42, 43, 44, 45, 46, 47, 48] (.seq .reg (.cond (.seq .reg .leaf) .leaf)) (.seq .reg (.cut [] [4, 56, 57, 58, 59, 60, 61] (.seq .reg (.cond (.seq .reg .leaf) .leaf)) (.seq (.seq .reg (.block (.loop [(11, .p (.int .i64))] [4, 8, 11, 12, 13, 14, 64, 65, 66, 67, 68, 69, 70, 71, 72, 73, 74, 75, 76, 77, 78, 79, 80, 81, 82, 83, 84, 85, 86, 87, 88, 89, 90, 91, 92, 93, 94, 95, 96, 97, 98, 99, 100, 101, 102, 103, 104, 105, 106, 107, 108, 109, 110, 111, 112, 113, 114, 115, 116, 117, 118, 119, 120, 121, 122, 123, 124, 125, 126, 127, 128] (.seq (.seq .reg (.cond .leaf .leaf)) (.seq (.block (.seq (.seq .reg (.block (.loop [(12, .p (.int .i64))] [4, 8, 12, 68, 69, 70, 71, 72, 73, 74, 75, 76, 77, 78, 79, 80, 81, 82] (.seq (.seq .reg (.cond .leaf .leaf)) (.seq (.block (.seq (.seq .reg (.cond (.seq .reg .leaf) .leaf)) (.seq .reg (.seq .reg (.cond (.seq .reg .leaf) .leaf))))) .reg))))) (.cut [] [4, 83, 84, 85, 86, 87, 88, 89, 90, 91, 92] (.seq .reg (.cond (.seq .reg .leaf) .leaf)) (.seq .reg (.seq (.seq (.draw .blk (.one 0 .pur (.one 1 .pur (.one 2 .pur (.one 3 .pur (.one 4 .pre (.one 5 .pur (.one 6 .pur (.one 7 .pur (.one 8 .pur (.one 9 .pur (.one 10 .pre (.one 11 .pur (.one 12 .pur (.one 13 .pre (.one 14 .pur (.one 15 .pur (.one 16 .pur (.one 17 .pur (.one 18 .pre (.one 19 .pur (.one 20 .pre (.one 21 .pur (.one 22 .pre (.one 24 .pur (.one 25 .stable (.one 26 .pur (.one 27 .pur (.one 23 .keep (.one 28 .pur (.one 29 .pur .nil))))))))))))))))))))))))))))))) (.cond (.seq .reg .leaf) .leaf)) .reg))))) .reg))))) (.seq .reg .leaf)))))))))))
def F_law21_ReceiverWaits (t_a : Option Addr) (t_l : Nat) (t_c : Nat) (again : Int) (w : World) (R : Value → World → Prop) : Prop :=
  (Calls Try.prog N_made_Light #[(.slice t_a t_l t_c)] w fun e_ w1 =>
  ∃ r : Bool, e_ = .returned (.bool r) ∧
  (bsplit (!r)
    ((Calls Try.prog N_law21_awake #[] w1 fun e_1 w2 =>
    ∃ r1 : Bool, e_1 = .returned (.bool r1) ∧
    R (.bool r1) w2))
    ((Calls Try.prog N_made_Roll #[(.slice t_a t_l t_c)] w1 fun e_2 w3 =>
    ∃ r2 : Option Addr, e_2 = .returned (.pointer r2) ∧
    (Calls Try.prog N_made_Dice_Link #[(.pointer r2)] w3 fun e_3 w4 =>
    ∃ r_0 r_1 r_2 r_3 r_4 r_5 : Int, e_3 = .returned (.agg #[.int .i64 r_0, .int .i64 r_1, .int .i64 r_2, .int .i64 r_3, .int .i64 r_4, .int .i64 r_5]) ∧
    (kAlloc w4 #[.int .i64 (0 : Int), .int .i64 (0 : Int), .int .i64 (0 : Int), .int .i64 (0 : Int), .int .i64 (0 : Int), .int .i64 (0 : Int)] Ty_api_Link fun b w5 =>
    (sxStore w5 ⟨b, 0, none⟩ 0 [(.int .i64 r_0), (.int .i64 r_1), (.int .i64 r_2), (.int .i64 r_3), (.int .i64 r_4), (.int .i64 r_5)] fun w6 =>
    (∃ x_0 x_1 x_2 x_3 x_4 x_5 : Int, cellsAt w6 ⟨b, 0, none⟩ 0 [(.int .i64 x_0), (.int .i64 x_1), (.int .i64 x_2), (.int .i64 x_3), (.int .i64 x_4), (.int .i64 x_5)] ∧
    (Calls Try.prog N_receiver_New #[(.agg #[.int .i64 x_0, .int .i64 x_1, .int .i64 x_2, .int .i64 x_3, .int .i64 x_4, .int .i64 x_5])] w6 fun e_4 w7 =>
    ∃ r_01 r_11 r_21 r_31 r_41 r_51 r_6 r_7 r_8 r_9 r_10 r_111 : Int, ∃ r_12 : Bool, ∃ r_13_a : Option Addr, ∃ r_13_l r_13_c : Nat, ∃ r3 : Int, e_4 = .returned (.tuple #[(.agg #[.int .i64 r_01, .int .i64 r_11, .int .i64 r_21, .int .i64 r_31, .int .i64 r_41, .int .i64 r_51, .int .i64 r_6, .int .i64 r_7, .int .i64 r_8, .int .i64 r_9, .int .i64 r_10, .int .i64 r_111, .bool r_12, .slice r_13_a r_13_l r_13_c]), (.int .i64 r3)]) ∧
    (kAlloc w7 #[.int .i64 (0 : Int), .int .i64 (0 : Int), .int .i64 (0 : Int), .int .i64 (0 : Int), .int .i64 (0 : Int), .int .i64 (0 : Int), .int .i64 (0 : Int), .int .i64 (0 : Int), .int .i64 (0 : Int), .int .i64 (0 : Int), .int .i64 (0 : Int), .int .i64 (0 : Int), .bool false, .slice none 0 0] Ty_api_Receiver fun b1 w8 =>
    (sxStore w8 ⟨b1, 0, none⟩ 0 [(.int .i64 r_01), (.int .i64 r_11), (.int .i64 r_21), (.int .i64 r_31), (.int .i64 r_41), (.int .i64 r_51), (.int .i64 r_6), (.int .i64 r_7), (.int .i64 r_8), (.int .i64 r_9), (.int .i64 r_10), (.int .i64 r_111), (.bool r_12), (.slice r_13_a r_13_l r_13_c)] fun w9 =>
    (∃ J : Option Addr → Nat → Nat → Int → World → Prop,
    (∀ (_junk : Env) (b_a : Option Addr) (b_l : Nat) (b_c : Nat) (f : Int) (w17 : World), J b_a b_l b_c f w17 →
      (∃ J1 : World → Prop,
      (∀ (_junk : Env)  (w19 : World), J1 w19 →
        (∃ x_01 x_11 x_21 x_31 x_41 x_51 x_6 x_7 x_8 x_9 x_10 x_111 : Int, ∃ x_12 : Bool, ∃ x_13_a : Option Addr, ∃ x_13_l x_13_c : Nat, cellsAt w19 ⟨b1, 0, none⟩ 0 [(.int .i64 x_01), (.int .i64 x_11), (.int .i64 x_21), (.int .i64 x_31), (.int .i64 x_41), (.int .i64 x_51), (.int .i64 x_6), (.int .i64 x_7), (.int .i64 x_8), (.int .i64 x_9), (.int .i64 x_10), (.int .i64 x_111), (.bool x_12), (.slice x_13_a x_13_l x_13_c)] ∧
        (Calls Try.prog N_receiver_Receive #[(.agg #[.int .i64 x_01, .int .i64 x_11, .int .i64 x_21, .int .i64 x_31, .int .i64 x_41, .int .i64 x_51, .int .i64 x_6, .int .i64 x_7, .int .i64 x_8, .int .i64 x_9, .int .i64 x_10, .int .i64 x_111, .bool x_12, .slice x_13_a x_13_l x_13_c]), (.slice b_a b_l b_c)] w19 fun e_10 w20 =>
        ∃ r_02 r_13 r_22 r_32 r_42 r_52 r_61 r_71 r_81 r_91 r_101 r_112 : Int, ∃ r_121 : Bool, ∃ r_13_a1 : Option Addr, ∃ r_13_l1 r_13_c1 : Nat, ∃ r_a2 : Option Addr, ∃ r_l2 r_c2 : Nat, ∃ r9 : Int, e_10 = .returned (.tuple #[(.agg #[.int .i64 r_02, .int .i64 r_13, .int .i64 r_22, .int .i64 r_32, .int .i64 r_42, .int .i64 r_52, .int .i64 r_61, .int .i64 r_71, .int .i64 r_81, .int .i64 r_91, .int .i64 r_101, .int .i64 r_112, .bool r_121, .slice r_13_a1 r_13_l1 r_13_c1]), (.slice r_a2 r_l2 r_c2), (.int .i64 r9)]) ∧
        (sxStore w20 ⟨b1, 0, none⟩ 0 [(.int .i64 r_02), (.int .i64 r_13), (.int .i64 r_22), (.int .i64 r_32), (.int .i64 r_42), (.int .i64 r_52), (.int .i64 r_61), (.int .i64 r_71), (.int .i64 r_81), (.int .i64 r_91), (.int .i64 r_101), (.int .i64 r_112), (.bool r_121), (.slice r_13_a1 r_13_l1 r_13_c1)] fun w21 =>
        (∃ J2 : World → Prop,
        (∀ (_junk : Env)  (w22 : World), J2 w22 →
          (Calls Try.prog N_made_Mod #[(.int .i64 again), (.int .i64 (4 : Int))] w22 fun e_11 w23 =>
          ∃ r10 : Int, e_11 = .returned (.int .i64 r10) ∧
          (∃ I : Int → Nat × (World → Prop), (I r10).2 w23 ∧
          (∀ (_junk : Env) (n : Int) (w24 : World), (I n).2 w24 →
            (bsplit (decide (n ≥ (0 : Int)))
              ((∃ I1 : Int → Nat × (World → Prop), (I1 (0 : Int)).2 w24 ∧
              (∀ (_junk : Env) (i : Int) (w25 : World), (I1 i).2 w25 →
                (kLd w25 ⟨b, 3, none⟩ .i64 fun x4 =>
                (bsplit (decide (i < x4))
                  ((kLdB w25 ⟨b1, 12, none⟩ fun x5 =>
                  (bsplit x5
                    (R (.bool false) w25)
                    ((∃ x_02 x_13 x_22 x_32 x_42 x_52 x_61 x_71 x_81 x_91 x_101 x_112 : Int, ∃ x_121 : Bool, ∃ x_13_a1 : Option Addr, ∃ x_13_l1 x_13_c1 : Nat, cellsAt w25 ⟨b1, 0, none⟩ 0 [(.int .i64 x_02), (.int .i64 x_13), (.int .i64 x_22), (.int .i64 x_32), (.int .i64 x_42), (.int .i64 x_52), (.int .i64 x_61), (.int .i64 x_71), (.int .i64 x_81), (.int .i64 x_91), (.int .i64 x_101), (.int .i64 x_112), (.bool x_121), (.slice x_13_a1 x_13_l1 x_13_c1)] ∧
                    (Calls Try.prog N_receiver_Tick #[(.agg #[.int .i64 x_02, .int .i64 x_13, .int .i64 x_22, .int .i64 x_32, .int .i64 x_42, .int .i64 x_52, .int .i64 x_61, .int .i64 x_71, .int .i64 x_81, .int .i64 x_91, .int .i64 x_101, .int .i64 x_112, .bool x_121, .slice x_13_a1 x_13_l1 x_13_c1])] w25 fun e_12 w26 =>
                    ∃ r_03 r_14 r_23 r_33 r_43 r_53 r_62 r_72 r_82 r_92 r_102 r_113 : Int, ∃ r_122 : Bool, ∃ r_13_a2 : Option Addr, ∃ r_13_l2 r_13_c2 : Nat, ∃ r11 : Int, e_12 = .returned (.tuple #[(.agg #[.int .i64 r_03, .int .i64 r_14, .int .i64 r_23, .int .i64 r_33, .int .i64 r_43, .int .i64 r_53, .int .i64 r_62, .int .i64 r_72, .int .i64 r_82, .int .i64 r_92, .int .i64 r_102, .int .i64 r_113, .bool r_122, .slice r_13_a2 r_13_l2 r_13_c2]), (.int .i64 r11)]) ∧
                    (sxStore w26 ⟨b1, 0, none⟩ 0 [(.int .i64 r_03), (.int .i64 r_14), (.int .i64 r_23), (.int .i64 r_33), (.int .i64 r_43), (.int .i64 r_53), (.int .i64 r_62), (.int .i64 r_72), (.int .i64 r_82), (.int .i64 r_92), (.int .i64 r_102), (.int .i64 r_113), (.bool r_122), (.slice r_13_a2 r_13_l2 r_13_c2)] fun w27 =>
                    (bsplit (!decide (r11 = (0 : Int)))
                      (R (.bool false) w27)
                      ((kW .i64 (i + (1 : Int)) fun x6 =>
                      ((I1 x6).2 w27 ∧ (I1 x6).1 < (I1 i).1)))))))))))
                  ((∃ J3 : World → Prop,
                  (∀ (_junk : Env)  (w28 : World), J3 w28 →
                    (∃ x_03 x_14 x_23 x_33 x_43 x_53 x_62 x_72 x_82 x_92 x_102 x_113 : Int, ∃ x_122 : Bool, ∃ x_13_a2 : Option Addr, ∃ x_13_l2 x_13_c2 : Nat, cellsAt w28 ⟨b1, 0, none⟩ 0 [(.int .i64 x_03), (.int .i64 x_14), (.int .i64 x_23), (.int .i64 x_33), (.int .i64 x_43), (.int .i64 x_53), (.int .i64 x_62), (.int .i64 x_72), (.int .i64 x_82), (.int .i64 x_92), (.int .i64 x_102), (.int .i64 x_113), (.bool x_122), (.slice x_13_a2 x_13_l2 x_13_c2)] ∧
                    (Calls Try.prog N_receiver_Status #[(.agg #[.int .i64 x_03, .int .i64 x_14, .int .i64 x_23, .int .i64 x_33, .int .i64 x_43, .int .i64 x_53, .int .i64 x_62, .int .i64 x_72, .int .i64 x_82, .int .i64 x_92, .int .i64 x_102, .int .i64 x_113, .bool x_122, .slice x_13_a2 x_13_l2 x_13_c2])] w28 fun e_13 w29 =>
                    ∃ r_04 : Int, ∃ r_1_a : Option Addr, ∃ r_1_l r_1_c : Nat, ∃ r12 : Int, e_13 = .returned (.tuple #[(.agg #[.int .i64 r_04, .slice r_1_a r_1_l r_1_c]), (.int .i64 r12)]) ∧
                    (kAlloc w29 #[.int .i64 (0 : Int), .slice none 0 0] Ty_api_Status fun b4 w30 =>
                    (sxStore w30 ⟨b4, 0, none⟩ 0 [(.int .i64 r_04), (.slice r_1_a r_1_l r_1_c)] fun w31 =>
                    (kDrew w31 fun w32 =>
                    (∃ S1 : Nat → Prop,
                    (bsplit (!decide (r12 = (0 : Int)))
                      (R (.bool false) w32)
                      ((kLdS w32 ⟨b4, 1, none⟩ fun _ x_l _ =>
                      (bsplit (decide ((x_l : Int) = (0 : Int)))
                        (R (.bool false) w32)
                        ((kLdS w32 ⟨b4, 1, none⟩ fun x_a1 x_l1 _ =>
                        (kIx x_a1 x_l1 (0 : Int) fun b5 =>
                        (kLd w32 (b5.add ((0 : Int).toNat * 3)) .i64 fun x12 =>
                        (bsplit (!decide (x12 = (0 : Int)))
                          (R (.bool false) w32)
                          ((kLd w32 ⟨b, 0, none⟩ .i64 fun x14 =>
                          (kLd w32 ⟨b1, 6, none⟩ .i64 fun x15 =>
                          (kLd w32 ⟨b1, 7, none⟩ .i64 fun x16 =>
                          (S1 b4 ∧
                          (kLdS w32 ⟨b4, 1, none⟩ fun _ x_l2 _ =>
                          (kW .i64 ((x_l2 : Int) + (1 : Int)) fun x17 =>
                          (Calls Try.prog N_ref20_Place #[(.int .i64 x14), (.int .i64 x15), (.int .i64 x16)] w32 fun e_14 w36 =>
                          ∃ r13 : Int, e_14 = .returned (.int .i64 r13) ∧
                          (KeepsB S1 w32 w36 ∧ (bsplit (!decide (r13 = x17))
                            (R (.bool false) w36)
                            ((kSet w36 ⟨b1, 12, none⟩ (.bool false) fun w37 =>
                            (kW .i64 (n - (1 : Int)) fun x18 =>
                            ((I x18).2 w37 ∧ (I x18).1 < (I n).1)))))))))))))))))))))))))))))) ∧
                  (kLdB w25 ⟨b1, 12, none⟩ fun x7 =>
                  (bsplit (!x7)
                    (R (.bool false) w25)
                    ((kLd w25 ⟨b1, 8, none⟩ .i64 fun x8 =>
                    (kLd w25 ⟨b1, 7, none⟩ .i64 fun x9 =>
                    (bsplit (!decide (x8 = x9))
                      (R (.bool false) w25)
                      (J3 w25))))))))))))))
              (R (.bool true) w24)))))) ∧
        (bsplit (!decide (r9 = (0 : Int)))
          (R (.bool false) w21)
          ((kLdB w21 ⟨b1, 12, none⟩ fun x3 =>
          (bsplit x3
            (R (.bool false) w21)
            (J2 w21)))))))))) ∧
      (Calls Try.prog N_law21_awake #[] w17 fun e_9 w18 =>
      ∃ r8 : Bool, e_9 = .returned (.bool r8) ∧
      (bsplit (!r8)
        (R (.bool false) w18)
        ((bsplit (!decide (r3 = (0 : Int)))
          (R (.bool false) w18)
          ((bsplit (!decide (f = (0 : Int)))
            (R (.bool false) w18)
            (J1 w18))))))))) ∧
    (kDrew w9 fun w10 =>
    (∃ S : Nat → Prop,
    (S b ∧
    (kLd w10 ⟨b, 0, none⟩ .i64 fun x =>
    ((Calls Try.prog N_made_Dice_Next #[(.pointer r2), (.int .i64 (5 : Int))] w10 fun e_7 w14 =>
    ∃ r6 : Int, e_7 = .returned (.int .i64 r6) ∧
    (KeepsB S w10 w14 ∧ (kW .i64 ((1 : Int) + r6) fun x2 =>
    (kAlloc w14 #[(.int .u8 (1 : Int))] Ty_uint8 fun b3 w15 =>
    (KeepsB S w10 w15 ∧ (KeepsB S w10 w15 ∧ (Calls Try.prog N_ref18_Encode #[(.int .i64 x), (.agg #[.int .i64 x2, .int .i64 (0 : Int), .int .i64 (0 : Int), .int .i64 (0 : Int), .slice (some ⟨b3, 0, none⟩) 1 1])] w15 fun e_8 w16 =>
    ∃ r_a1 : Option Addr, ∃ r_l1 r_c1 : Nat, ∃ r7 : Int, e_8 = .returned (.tuple #[(.slice r_a1 r_l1 r_c1), (.int .i64 r7)]) ∧
    J r_a1 r_l1 r_c1 r7 w16))))))) ∧
    ((kAlloc w10 #[(.int .u8 (1 : Int))] Ty_uint8 fun b2 w11 =>
    (KeepsB S w10 w11 ∧ (Calls Try.prog N_made_Dice_Next #[(.pointer r2), (.int .i64 (5 : Int))] w11 fun e_5 w12 =>
    ∃ r4 : Int, e_5 = .returned (.int .i64 r4) ∧
    (KeepsB S w10 w12 ∧ (kW .i64 ((1 : Int) + r4) fun x1 =>
    (KeepsB S w10 w12 ∧ (Calls Try.prog N_ref18_Encode #[(.int .i64 x), (.agg #[.int .i64 x1, .int .i64 (0 : Int), .int .i64 (0 : Int), .int .i64 (0 : Int), .slice (some ⟨b2, 0, none⟩) 1 1])] w12 fun e_6 w13 =>
    ∃ r_a : Option Addr, ∃ r_l r_c : Nat, ∃ r5 : Int, e_6 = .returned (.tuple #[(.slice r_a r_l r_c), (.int .i64 r5)]) ∧
    J r_a r_l r_c r5 w13))))))) ∧
    True))))))))))))))))))
theorem F_law21_ReceiverWaits_eq (t_a : Option Addr) (t_l : Nat) (t_c : Nat) (again : Int) (w : World) (R : Value → World → Prop) : sxFn Try.prog TT h_law21_ReceiverWaits Try.f4 #[(.slice t_a t_l t_c), (.int .i64 again)] w R = F_law21_ReceiverWaits t_a t_l t_c again w R := by kernel_rfl
theorem F_law21_ReceiverWaits_ok {R : Ending → World → Prop} (t_a : Option Addr) (t_l : Nat) (t_c : Nat) (again : Int) (w : World) (h : F_law21_ReceiverWaits t_a t_l t_c again w fun v w' => R (.returned v) w') : Calls Try.prog N_law21_ReceiverWaits #[(.slice t_a t_l t_c), (.int .i64 again)] w R :=
  calls_of (f := 4) follows_ok Try.func4 (Eq.mpr (F_law21_ReceiverWaits_eq t_a t_l t_c again w _) h)

end Go.Proofs.Ythceaojjeokclaa
