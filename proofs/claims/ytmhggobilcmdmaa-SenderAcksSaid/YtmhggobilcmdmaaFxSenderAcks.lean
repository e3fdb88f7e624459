import Derived.Test.YtmhggobilcmdmaaBase
import Derived.KernelRfl
namespace Go.Proofs.Ytmhggobilcmdmaa
open Go.Sx Go.RowKit
set_option maxRecDepth 100000

def h_law20_SenderAcks : H := (.seq .reg (.seq (.seq .reg (.cond (.seq .reg .leaf) .leaf)) (.seq .reg (.seq .reg (.seq .reg (.seq .reg (.seq (.seq .reg (.cond (.seq .reg .leaf) .leaf)) (.seq (.seq .reg (.cond (.seq .reg .leaf) .leaf)) (.seq .reg (.seq .reg (.seq (.seq .reg (.block (.loop [(9, .p (.int .i64)), (10, .p (.int .i64))] [2, 9, 10, 11, 12, 13, 61, 62, 63, 64, 65, 66, 67, 68, 69, 70, 71, 72, 73, 74, 75, 76, 77, 78, 79, 80, 81, 82, 83, 84, 85, 86, 87, 88, 89, 90, 91, 92, 93, 94, 95, 96, 97, 98, 99, 100, 101, 102, 103, 104, 105, 106, 107, 108, 109, 110, 111, 112, 113, 114, 115, 116, 117, 118, 119, 120, 121, 122, 123, 124, 125, 126, 127, 128, 129, 130, 131, 132, 133, 134, 135, 136, 137, 138, 139, 140, 141, 142, 143, 144, 145, 146, 147, 148, 149, 150, 151, 152, 153, 154] (.seq (.seq .reg (.cond .leaf .leaf)) (.cut [(9, .p (.int .i64))] [2, 9, 11, 12, 13, 68, 69, 70, 71, 72, 73, 74, 75, 76, 77, 78, 79, 80, 81, 82, 83, 84, 85, 86, 87, 88, 89, 90, 91, 92, 93, 94, 95, 96, 97, 98, 99, 100, 101, 102, 103, 104, 105, 106, 107, 108, 109, 110, 111, 112, 113, 114, 115, 116, 117, 118, 119, 120, 121, 122, 123, 124, 125, 126, 127, 128, 129, 130, 131, 132, 133, 134, 135, 136, 137, 138, 139, 140, 141, 142, 143, 144, 145, 146, 147, 148, 149, 150, 151, 152, 153, 154] (.block (.seq .reg (.seq .reg (.seq (.seq .reg (.block (.loop [(12, .p .bool), (13, .p (.int .i64))] [12, 13, 73, 74, 75, 76, 77, 78, 79, 80, 81, 82, 83, 84, 85, 86, 87, 88, 89, 90, 91] (.seq (.seq .reg (.cond .leaf .leaf)) (.seq (.block (.draw .no (.one 0 .pur (.one 1 .pur (.one 2 .pur (.one 3 .stable (.one 4 .pur (.one 5 .pur (.one 6 .pur (.one 7 .stable (.one 8 .pur (.one 9 .stable (.one 10 .pur (.one 11 .pur (.one 12 .pur .nil))))))))))))))) .reg))))) (.cut [] [92, 93, 94, 95, 96, 97, 98, 99, 100, 101, 102, 103, 104, 105, 106, 107, 108, 109, 110, 111, 112, 113] (.seq .reg (.cond .leaf .leaf)) (.seq (.seq (.draw .no (.one 0 .pur (.one 1 .pur (.one 2 .pre (.one 3 .pur (.one 4 .pur (.one 5 .pur (.one 6 .pur (.one 7 .pre (.one 8 .pur (.one 9 .pur (.one 10 .pur (.one 11 .pre (.one 12 .pur (.one 13 .pre (.one 14 .pur (.one 15 .pur (.one 16 .pur (.one 17 .pur (.one 18 .pre (.one 19 .pur (.one 20 .pur (.one 21 .pur (.one 22 .pre (.one 23 .pur (.one 24 .pre (.one 25 .pur (.one 26 .pur (.one 27 .pur (.one 28 .pur (.one 29 .pre (.one 30 .pur (.one 31 .pur (.one 32 .pur (.one 33 .pre (.one 34 .pur (.one 35 .pre (.one 36 .last (.one 37 .pur (.one 38 .pur .nil)))))))))))))))))))))))))))))))))))))))) (.cond (.seq .reg .leaf) .leaf)) .reg)))))) .reg))))) (.seq .reg .leaf))))))))))))
def F_law20_SenderAcks (t_a : Option Addr) (t_l : Nat) (t_c : Nat) (w : World) (R : Value → World → Prop) : Prop :=
  (Calls Try.prog N_made_Light #[(.slice t_a t_l t_c)] w fun e_ w1 =>
  ∃ r : Bool, e_ = .returned (.bool r) ∧
  (bsplit (!r)
    ((Calls Try.prog N_law20_awake #[] w1 fun e_1 w2 =>
    ∃ r1 : Bool, e_1 = .returned (.bool r1) ∧
    R (.bool r1) w2))
    ((Calls Try.prog N_made_Roll #[(.slice t_a t_l t_c)] w1 fun e_2 w3 =>
    ∃ r2 : Option Addr, e_2 = .returned (.pointer r2) ∧
    (Calls Try.prog N_law20_random #[(.pointer r2)] w3 fun e_3 w4 =>
    ∃ r_0 r_1 r_2 r_3 r_4 r_5 r_6 r_7 : Int, ∃ r_8_a : Option Addr, ∃ r_8_l r_8_c : Nat, ∃ r_9 r_10 r_11 : Int, ∃ r_12 : Bool, e_3 = .returned (.agg #[.int .i64 r_0, .int .i64 r_1, .int .i64 r_2, .int .i64 r_3, .int .i64 r_4, .int .i64 r_5, .int .i64 r_6, .int .i64 r_7, .slice r_8_a r_8_l r_8_c, .int .i64 r_9, .int .i64 r_10, .int .i64 r_11, .bool r_12]) ∧
    (kAlloc w4 #[.int .i64 (0 : Int), .int .i64 (0 : Int), .int .i64 (0 : Int), .int .i64 (0 : Int), .int .i64 (0 : Int), .int .i64 (0 : Int), .int .i64 (0 : Int), .int .i64 (0 : Int), .slice none 0 0, .int .i64 (0 : Int), .int .i64 (0 : Int), .int .i64 (0 : Int), .bool false] Ty_api_Sender fun b w5 =>
    (sxStore w5 ⟨b, 0, none⟩ 0 [(.int .i64 r_0), (.int .i64 r_1), (.int .i64 r_2), (.int .i64 r_3), (.int .i64 r_4), (.int .i64 r_5), (.int .i64 r_6), (.int .i64 r_7), (.slice r_8_a r_8_l r_8_c), (.int .i64 r_9), (.int .i64 r_10), (.int .i64 r_11), (.bool r_12)] fun w6 =>
    (∃ x_0 x_1 x_2 x_3 x_4 x_5 x_6 x_7 : Int, ∃ x_8_a : Option Addr, ∃ x_8_l x_8_c : Nat, ∃ x_9 x_10 x_11 : Int, ∃ x_12 : Bool, cellsAt w6 ⟨b, 0, none⟩ 0 [(.int .i64 x_0), (.int .i64 x_1), (.int .i64 x_2), (.int .i64 x_3), (.int .i64 x_4), (.int .i64 x_5), (.int .i64 x_6), (.int .i64 x_7), (.slice x_8_a x_8_l x_8_c), (.int .i64 x_9), (.int .i64 x_10), (.int .i64 x_11), (.bool x_12)] ∧
    (Calls Try.prog N_law20_report #[(.pointer r2), (.agg #[.int .i64 x_0, .int .i64 x_1, .int .i64 x_2, .int .i64 x_3, .int .i64 x_4, .int .i64 x_5, .int .i64 x_6, .int .i64 x_7, .slice x_8_a x_8_l x_8_c, .int .i64 x_9, .int .i64 x_10, .int .i64 x_11, .bool x_12])] w6 fun e_4 w7 =>
    ∃ r_01 : Int, ∃ r_1_a : Option Addr, ∃ r_1_l r_1_c : Nat, e_4 = .returned (.agg #[.int .i64 r_01, .slice r_1_a r_1_l r_1_c]) ∧
    (kAlloc w7 #[.int .i64 (0 : Int), .slice none 0 0] Ty_api_Status fun b1 w8 =>
    (sxStore w8 ⟨b1, 0, none⟩ 0 [(.int .i64 r_01), (.slice r_1_a r_1_l r_1_c)] fun w9 =>
    (∃ x_01 x_13 x_21 x_31 x_41 x_51 x_61 x_71 : Int, ∃ x_8_a1 : Option Addr, ∃ x_8_l1 x_8_c1 : Nat, ∃ x_91 x_101 x_111 : Int, ∃ x_121 : Bool, cellsAt w9 ⟨b, 0, none⟩ 0 [(.int .i64 x_01), (.int .i64 x_13), (.int .i64 x_21), (.int .i64 x_31), (.int .i64 x_41), (.int .i64 x_51), (.int .i64 x_61), (.int .i64 x_71), (.slice x_8_a1 x_8_l1 x_8_c1), (.int .i64 x_91), (.int .i64 x_101), (.int .i64 x_111), (.bool x_121)] ∧
    (∃ x_02 : Int, ∃ x_1_a : Option Addr, ∃ x_1_l x_1_c : Nat, cellsAt w9 ⟨b1, 0, none⟩ 0 [(.int .i64 x_02), (.slice x_1_a x_1_l x_1_c)] ∧
    (Calls Try.prog N_sender_Report #[(.agg #[.int .i64 x_01, .int .i64 x_13, .int .i64 x_21, .int .i64 x_31, .int .i64 x_41, .int .i64 x_51, .int .i64 x_61, .int .i64 x_71, .slice x_8_a1 x_8_l1 x_8_c1, .int .i64 x_91, .int .i64 x_101, .int .i64 x_111, .bool x_121]), (.agg #[.int .i64 x_02, .slice x_1_a x_1_l x_1_c])] w9 fun e_5 w10 =>
    ∃ r_02 r_13 r_21 r_31 r_41 r_51 r_61 r_71 : Int, ∃ r_8_a1 : Option Addr, ∃ r_8_l1 r_8_c1 : Nat, ∃ r_91 r_101 r_111 : Int, ∃ r_121 : Bool, ∃ r3 : Int, e_5 = .returned (.tuple #[(.agg #[.int .i64 r_02, .int .i64 r_13, .int .i64 r_21, .int .i64 r_31, .int .i64 r_41, .int .i64 r_51, .int .i64 r_61, .int .i64 r_71, .slice r_8_a1 r_8_l1 r_8_c1, .int .i64 r_91, .int .i64 r_101, .int .i64 r_111, .bool r_121]), (.int .i64 r3)]) ∧
    (kAlloc w10 #[.int .i64 (0 : Int), .int .i64 (0 : Int), .int .i64 (0 : Int), .int .i64 (0 : Int), .int .i64 (0 : Int), .int .i64 (0 : Int), .int .i64 (0 : Int), .int .i64 (0 : Int), .slice none 0 0, .int .i64 (0 : Int), .int .i64 (0 : Int), .int .i64 (0 : Int), .bool false] Ty_api_Sender fun b2 w11 =>
    (sxStore w11 ⟨b2, 0, none⟩ 0 [(.int .i64 r_02), (.int .i64 r_13), (.int .i64 r_21), (.int .i64 r_31), (.int .i64 r_41), (.int .i64 r_51), (.int .i64 r_61), (.int .i64 r_71), (.slice r_8_a1 r_8_l1 r_8_c1), (.int .i64 r_91), (.int .i64 r_101), (.int .i64 r_111), (.bool r_121)] fun w12 =>
    (Calls Try.prog N_law20_awake #[] w12 fun e_6 w13 =>
    ∃ r4 : Bool, e_6 = .returned (.bool r4) ∧
    (bsplit (!r4)
      (R (.bool false) w13)
      ((bsplit (!decide (r3 = (0 : Int)))
        ((kLdB w13 ⟨b, 12, none⟩ fun x =>
        (bsplit x
          ((bsplit (decide (r3 = (16 : Int)))
            (R (.bool true) w13)
            ((kLd w13 ⟨b, 0, none⟩ .i64 fun x1 =>
            (∃ x_03 : Int, ∃ x_1_a1 : Option Addr, ∃ x_1_l1 x_1_c1 : Nat, cellsAt w13 ⟨b1, 0, none⟩ 0 [(.int .i64 x_03), (.slice x_1_a1 x_1_l1 x_1_c1)] ∧
            (Calls Try.prog N_ref19_Valid #[(.int .i64 x1), (.agg #[.int .i64 x_03, .slice x_1_a1 x_1_l1 x_1_c1])] w13 fun e_7 w14 =>
            ∃ r5 : Bool, e_7 = .returned (.bool r5) ∧
            (bsplit (!r5)
              ((kLet (decide (r3 = (1 : Int))) fun x2 =>
              R (.bool x2) w14))
              (R (.bool false) w14))))))))
          ((kLd w13 ⟨b, 0, none⟩ .i64 fun x3 =>
          (∃ x_04 : Int, ∃ x_1_a2 : Option Addr, ∃ x_1_l2 x_1_c2 : Nat, cellsAt w13 ⟨b1, 0, none⟩ 0 [(.int .i64 x_04), (.slice x_1_a2 x_1_l2 x_1_c2)] ∧
          (Calls Try.prog N_ref19_Valid #[(.int .i64 x3), (.agg #[.int .i64 x_04, .slice x_1_a2 x_1_l2 x_1_c2])] w13 fun e_8 w15 =>
          ∃ r6 : Bool, e_8 = .returned (.bool r6) ∧
          (bsplit (!r6)
            ((kLet (decide (r3 = (1 : Int))) fun x4 =>
            R (.bool x4) w15))
            (R (.bool false) w15)))))))))
        ((kLd w13 ⟨b, 0, none⟩ .i64 fun x5 =>
        (kLd w13 ⟨b, 6, none⟩ .i64 fun x6 =>
        (kLd w13 ⟨b1, 0, none⟩ .i64 fun x7 =>
        (Calls Try.prog N_ref20_Place #[(.int .i64 x5), (.int .i64 x6), (.int .i64 x7)] w13 fun e_9 w16 =>
        ∃ r7 : Int, e_9 = .returned (.int .i64 r7) ∧
        (∃ I : Int → Int → Nat × (World → Prop), (I (0 : Int) (0 : Int)).2 w16 ∧
        (∀ (_junk : Env) (k : Int) (i : Int) (w17 : World), (I k i).2 w17 →
          (kLdS w17 ⟨b, 8, none⟩ fun _ x_l _ =>
          (bsplit (decide (i < (x_l : Int)))
            ((∃ J : Int → World → Prop,
            (∀ (_junk : Env) (k1 : Int) (w26 : World), J k1 w26 →
              (kW .i64 (i + (1 : Int)) fun x24 =>
              ((I k1 x24).2 w26 ∧ (I k1 x24).1 < (I k i).1))) ∧
            (kLdS w17 ⟨b, 8, none⟩ fun x_a1 x_l1 _ =>
            (kIx x_a1 x_l1 i fun b3 =>
            (∃ x_05 : Int, ∃ x_1_a3 : Option Addr, ∃ x_1_l3 x_1_c3 : Nat, ∃ x_22 x_32 : Int, ∃ x_4_a : Option Addr, ∃ x_4_l x_4_c : Nat, cellsAt w17 (b3.add (i.toNat * 5)) 0 [(.int .i64 x_05), (.slice x_1_a3 x_1_l3 x_1_c3), (.int .i64 x_22), (.int .i64 x_32), (.slice x_4_a x_4_l x_4_c)] ∧
            (kAlloc w17 #[.int .i64 (0 : Int), .slice none 0 0, .int .i64 (0 : Int), .int .i64 (0 : Int), .slice none 0 0] Ty_api_Unit fun b4 w18 =>
            (sxStore w18 ⟨b4, 0, none⟩ 0 [(.int .i64 x_05), (.slice x_1_a3 x_1_l3 x_1_c3), (.int .i64 x_22), (.int .i64 x_32), (.slice x_4_a x_4_l x_4_c)] fun w19 =>
            (∃ I1 : Bool → Int → Nat × (World → Prop), (I1 false (0 : Int)).2 w19 ∧
            (∀ (_junk : Env) (named : Bool) (j : Int) (w20 : World), (I1 named j).2 w20 →
              (kLdS w20 ⟨b1, 1, none⟩ fun _ x_l2 _ =>
              (bsplit (decide (j < (x_l2 : Int)))
                ((kDrew w20 fun w21 =>
                (bsplit named
                  ((kW .i64 (j + (1 : Int)) fun x8 =>
                  ((I1 true x8).2 w21 ∧ (I1 true x8).1 < (I1 named j).1)))
                  ((kLdS w21 ⟨b1, 1, none⟩ fun x_a3 x_l3 _ =>
                  (kIx x_a3 x_l3 j fun b5 =>
                  (kLd w21 (b5.add (j.toNat * 3)) .i64 fun x9 =>
                  (kLd w21 ⟨b4, 0, none⟩ .i64 fun x10 =>
                  (kLet (decide (x9 = x10)) fun named1 =>
                  (kW .i64 (j + (1 : Int)) fun x11 =>
                  ((I1 named1 x11).2 w21 ∧ (I1 named1 x11).1 < (I1 named j).1)))))))))))
                ((∃ J1 : World → Prop,
                (∀ (_junk : Env)  (w23 : World), J1 w23 →
                  (kDrew w23 fun w24 =>
                  (kLdS w24 ⟨b2, 8, none⟩ fun _ x_l5 _ =>
                  (bsplit (decide (k = (x_l5 : Int)))
                    (R (.bool false) w24)
                    ((kLdS w24 ⟨b2, 8, none⟩ fun x_a6 x_l6 _ =>
                    (kIx x_a6 x_l6 k fun b6 =>
                    (kLd w24 (b6.add (k.toNat * 5)) .i64 fun x17 =>
                    (kLd w24 ⟨b4, 0, none⟩ .i64 fun x18 =>
                    (bsplit (!decide (x17 = x18))
                      (R (.bool false) w24)
                      ((kLdS w24 ⟨b2, 8, none⟩ fun x_a7 x_l7 _ =>
                      (kIx x_a7 x_l7 k fun b7 =>
                      (kLd w24 ((b7.add (k.toNat * 5)).add 2) .i64 fun x20 =>
                      (kLd w24 ⟨b4, 2, none⟩ .i64 fun x21 =>
                      (bsplit (!decide (x20 = x21))
                        (R (.bool false) w24)
                        ((kLdS w24 ⟨b2, 8, none⟩ fun x_a8 x_l8 _ =>
                        (kIx x_a8 x_l8 k fun b8 =>
                        (kLdS w24 ((b8.add (k.toNat * 5)).add 1) fun x_a9 x_l9 x_c9 =>
                        (kLdS w24 ⟨b4, 1, none⟩ fun x_a10 x_l10 x_c10 =>
                        (Calls Try.prog N_ref01_Same #[(.slice x_a9 x_l9 x_c9), (.slice x_a10 x_l10 x_c10)] w24 fun e_11 w25 =>
                        ∃ r9 : Bool, e_11 = .returned (.bool r9) ∧
                        (bsplit (!r9)
                          (R (.bool false) w25)
                          ((kW .i64 (k + (1 : Int)) fun x23 =>
                          J x23 w25))))))))))))))))))))))))) ∧
                (kLd w20 ⟨b, 0, none⟩ .i64 fun x12 =>
                (kLd w20 ⟨b, 6, none⟩ .i64 fun x13 =>
                (kLd w20 ⟨b4, 0, none⟩ .i64 fun x14 =>
                (Calls Try.prog N_ref20_Place #[(.int .i64 x12), (.int .i64 x13), (.int .i64 x14)] w20 fun e_10 w22 =>
                ∃ r8 : Int, e_10 = .returned (.int .i64 r8) ∧
                (bsplit (decide (r8 < r7))
                  ((bsplit (!named)
                    ((kLd w22 ⟨b4, 2, none⟩ .i64 fun x15 =>
                    (kLdS w22 ⟨b4, 1, none⟩ fun _ x_l4 _ =>
                    (bsplit (decide (x15 = (x_l4 : Int)))
                      (J k w22)
                      (J1 w22)))))
                    (J1 w22)))
                  (J1 w22)))))))))))))))))))
            ((kLdS w17 ⟨b2, 8, none⟩ fun _ x_l11 _ =>
            (kLet (decide (k = (x_l11 : Int))) fun x25 =>
            R (.bool x25) w17))))))))))))))))))))))))))))))))
theorem F_law20_SenderAcks_eq (t_a : Option Addr) (t_l : Nat) (t_c : Nat) (w : World) (R : Value → World → Prop) : sxFn Try.prog TT h_law20_SenderAcks Try.f5 #[(.slice t_a t_l t_c)] w R = F_law20_SenderAcks t_a t_l t_c w R := by kernel_rfl
theorem F_law20_SenderAcks_ok {R : Ending → World → Prop} (t_a : Option Addr) (t_l : Nat) (t_c : Nat) (w : World) (h : F_law20_SenderAcks t_a t_l t_c w fun v w' => R (.returned v) w') : Calls Try.prog N_law20_SenderAcks #[(.slice t_a t_l t_c)] w R :=
  calls_of (f := 5) follows_ok Try.func5 (Eq.mpr (F_law20_SenderAcks_eq t_a t_l t_c w _) h)

end Go.Proofs.Ytmhggobilcmdmaa
