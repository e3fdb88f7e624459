import Derived.Test.YtlgolgpellbnbaaBase
import Derived.KernelRfl
namespace Go.Proofs.Ytlgolgpellbnbaa
open Go.Sx Go.RowKit
set_option maxRecDepth 100000

def h_law23_UnackWhole : H := (.seq .reg (.seq (.seq .reg (.cond (.seq .reg .leaf) .leaf)) (.seq .reg (.seq .reg (.seq (.seq .reg (.block (.loop [(10, .p .slice), (12, .p (.int .i64))] [6, 10, 12, 13, 14, 15, 16, 38, 39, 40, 41, 42, 43, 44, 45, 46, 47, 48, 49, 50, 51, 52, 53, 54, 55, 56, 57, 58, 59, 60, 61, 62, 63, 64, 65, 66, 67, 68, 69, 70, 71, 72, 73, 74, 75, 76] (.seq (.seq .reg (.cond .leaf .leaf)) (.seq (.block (.seq .reg (.seq (.seq .reg (.block (.loop [(14, .p (.int .i64))] [14, 51, 52, 53, 54, 55, 56, 57, 58, 59, 60, 61, 62, 63] (.seq (.seq .reg (.cond .leaf .leaf)) (.seq (.block .reg) .reg))))) (.seq .reg (.seq .reg (.seq (.seq .reg (.cond (.seq .reg .leaf) .leaf)) .reg)))))) .reg))))) (.seq (.seq .reg (.block (.loop [(11, .p .slice), (17, .p (.int .i64))] [6, 11, 17, 18, 19, 20, 21, 22, 23, 24, 77, 78, 79, 80, 81, 82, 83, 84, 85, 86, 87, 88, 89, 90, 91, 92, 93, 94, 95, 96, 97, 98, 99, 100, 101, 102, 103, 104, 105, 106, 107, 108, 109, 110, 111, 112, 113, 114, 115, 116, 117, 118, 119, 120, 121, 122, 123, 124, 125, 126, 127, 128, 129, 130] (.cut [] [77, 78, 79, 80, 81, 82, 83] (.seq .reg (.cond .leaf .leaf)) (.seq (.block (.seq .reg (.cut [(18, .p (.int .i64))] [18, 86, 87, 88, 89, 90, 91, 92, 93, 94, 95] (.seq .reg (.cond .reg .leaf)) (.seq .reg (.seq .reg (.cut [] [6, 110, 111, 112, 113, 114, 115, 116, 117, 118, 119, 120, 121] (.seq .reg (.cond (.seq .reg .leaf) .leaf)) (.seq (.seq .reg (.cond .reg .leaf)) (.draw .blk (.one 0 .pre (.one 1 .stable (.one 2 .keep (.one 3 .last .nil)))))))))))) .reg))))) (.seq .reg .leaf)))))))
def F_law23_UnackWhole (sizes_a : Option Addr) (sizes_l : Nat) (_ : Nat) (lengths_a : Option Addr) (lengths_l : Nat) (_ : Nat) (bits : Int) (w : World) (R : Value → World → Prop) : Prop :=
  (bsplit (decide ((lengths_l : Int) > (60 : Int)))
    ((Calls Try.prog N_law23_awake #[] w fun e_ w1 =>
    ∃ r : Bool, e_ = .returned (.bool r) ∧
    R (.bool r) w1))
    ((kW .i64 (bits) fun x =>
    (kLet (Int.tmod x (5 : Int)) fun x1 =>
    (kW .i64 ((5 : Int) + x1) fun x2 =>
    (Calls Try.prog N_unack_New #[(.int .i64 x2), (.int .i64 (5 : Int))] w fun e_1 w2 =>
    ∃ r_0 r_1 : Int, ∃ r_2_a : Option Addr, ∃ r_2_l r_2_c : Nat, ∃ r_3 r_01 r_11 r_2 r_31 r_4 r_5 r_6 r_7 r_8 r_9 r_10 r_111 : Int, ∃ r_12 : Bool, ∃ r_13_a : Option Addr, ∃ r_13_l r_13_c : Nat, ∃ r1 : Int, e_1 = .returned (.tuple #[(.agg #[.int .i64 r_0, .int .i64 r_1, .slice r_2_a r_2_l r_2_c, .int .i64 r_3]), (.agg #[.int .i64 r_01, .int .i64 r_11, .int .i64 r_2, .int .i64 r_31, .int .i64 r_4, .int .i64 r_5, .int .i64 r_6, .int .i64 r_7, .int .i64 r_8, .int .i64 r_9, .int .i64 r_10, .int .i64 r_111, .bool r_12, .slice r_13_a r_13_l r_13_c]), (.int .i64 r1)]) ∧
    (kAlloc w2 #[.int .i64 (0 : Int), .int .i64 (0 : Int), .slice none 0 0, .int .i64 (0 : Int)] Ty_api_Cutter fun b w3 =>
    (kAlloc w3 #[.int .i64 (0 : Int), .int .i64 (0 : Int), .int .i64 (0 : Int), .int .i64 (0 : Int), .int .i64 (0 : Int), .int .i64 (0 : Int), .int .i64 (0 : Int), .int .i64 (0 : Int), .int .i64 (0 : Int), .int .i64 (0 : Int), .int .i64 (0 : Int), .int .i64 (0 : Int), .bool false, .slice none 0 0] Ty_api_Receiver fun b1 w4 =>
    (sxStore w4 ⟨b, 0, none⟩ 0 [(.int .i64 r_0), (.int .i64 r_1), (.slice r_2_a r_2_l r_2_c), (.int .i64 r_3)] fun w5 =>
    (sxStore w5 ⟨b1, 0, none⟩ 0 [(.int .i64 r_01), (.int .i64 r_11), (.int .i64 r_2), (.int .i64 r_31), (.int .i64 r_4), (.int .i64 r_5), (.int .i64 r_6), (.int .i64 r_7), (.int .i64 r_8), (.int .i64 r_9), (.int .i64 r_10), (.int .i64 r_111), (.bool r_12), (.slice r_13_a r_13_l r_13_c)] fun w6 =>
    (∃ I : Option Addr → Nat → Nat → Int → Nat × (World → Prop), (I none 0 0 (0 : Int)).2 w6 ∧
    (∀ (_junk : Env) (sent_a : Option Addr) (sent_l : Nat) (sent_c : Nat) (i : Int) (w7 : World), (I sent_a sent_l sent_c i).2 w7 →
      (bsplit (decide (i < (lengths_l : Int)))
        ((kIx lengths_a lengths_l i fun b2 =>
        (kLd w7 (b2.add (i.toNat * 1)) .u8 fun x3 =>
        (kW .i64 (x3) fun x4 =>
        (kW .i64 ((1 : Int) + x4) fun x5 =>
        (kMake w7 1 x5 x5 #[(.int .u8 (0 : Int))] 1 Ty_uint8 fun b3 w8 =>
        (∃ I1 : Int → Nat × (World → Prop), (I1 (0 : Int)).2 w8 ∧
        (∀ (_junk : Env) (k : Int) (w9 : World), (I1 k).2 w9 →
          (bsplit (decide (k < (x5.toNat : Int)))
            ((kW .i64 (i + k) fun x6 =>
            (kW .u8 (x6) fun x7 =>
            (kIx (some ⟨b3, 0, none⟩) (x5.toNat) k fun b4 =>
            (kSet w9 (b4.add (k.toNat * 1)) (.int .u8 x7) fun w10 =>
            (kW .i64 (k + (1 : Int)) fun x8 =>
            ((I1 x8).2 w10 ∧ (I1 x8).1 < (I1 k).1)))))))
            ((kAlloc w9 #[(.slice (some ⟨b3, 0, none⟩) x5.toNat x5.toNat)] Ty_S_uint8 fun b5 w11 =>
            (AppP Try.prog #[Ty_S_S_uint8, Ty_S_S_uint8] Ty_S_S_uint8 #[(.slice sent_a sent_l sent_c), (.slice (some ⟨b5, 0, none⟩) 1 1)] w11 fun x_a x_l x_c w12 =>
            (∃ x_0 x_1 : Int, ∃ x_2_a : Option Addr, ∃ x_2_l x_2_c : Nat, ∃ x_3 : Int, cellsAt w12 ⟨b, 0, none⟩ 0 [(.int .i64 x_0), (.int .i64 x_1), (.slice x_2_a x_2_l x_2_c), (.int .i64 x_3)] ∧
            (Calls Try.prog N_unack_Submit #[(.agg #[.int .i64 x_0, .int .i64 x_1, .slice x_2_a x_2_l x_2_c, .int .i64 x_3]), (.slice (some ⟨b3, 0, none⟩) x5.toNat x5.toNat)] w12 fun e_2 w13 =>
            ∃ r_02 r_13 : Int, ∃ r_2_a1 : Option Addr, ∃ r_2_l1 r_2_c1 : Nat, ∃ r_32 r2 : Int, e_2 = .returned (.tuple #[(.agg #[.int .i64 r_02, .int .i64 r_13, .slice r_2_a1 r_2_l1 r_2_c1, .int .i64 r_32]), (.int .i64 r2)]) ∧
            (kAlloc w13 #[.int .i64 (0 : Int), .int .i64 (0 : Int), .slice none 0 0, .int .i64 (0 : Int)] Ty_api_Cutter fun b6 w14 =>
            (sxStore w14 ⟨b6, 0, none⟩ 0 [(.int .i64 r_02), (.int .i64 r_13), (.slice r_2_a1 r_2_l1 r_2_c1), (.int .i64 r_32)] fun w15 =>
            (bsplit (!decide (r2 = (0 : Int)))
              (R (.bool false) w15)
              ((∃ x_01 x_11 : Int, ∃ x_2_a1 : Option Addr, ∃ x_2_l1 x_2_c1 : Nat, ∃ x_31 : Int, cellsAt w15 ⟨b6, 0, none⟩ 0 [(.int .i64 x_01), (.int .i64 x_11), (.slice x_2_a1 x_2_l1 x_2_c1), (.int .i64 x_31)] ∧
              (sxStore w15 ⟨b, 0, none⟩ 0 [(.int .i64 x_01), (.int .i64 x_11), (.slice x_2_a1 x_2_l1 x_2_c1), (.int .i64 x_31)] fun w16 =>
              (kW .i64 (i + (1 : Int)) fun x9 =>
              ((I x_a x_l x_c x9).2 w16 ∧ (I x_a x_l x_c x9).1 < (I sent_a sent_l sent_c i).1))))))))))))))))))))))
        ((∃ I2 : Option Addr → Nat → Nat → Int → Nat × (World → Prop), (I2 none 0 0 (0 : Int)).2 w7 ∧
        (∀ (_junk : Env) (got_a : Option Addr) (got_l : Nat) (got_c : Nat) (i1 : Int) (w17 : World), (I2 got_a got_l got_c i1).2 w17 →
          (∃ J : World → Prop,
          (∀ (_junk : Env)  (w23 : World), J w23 →
            (∃ J1 : Int → World → Prop,
            (∀ (_junk : Env) (n : Int) (w24 : World), J1 n w24 →
              (∃ x_03 x_13 : Int, ∃ x_2_a3 : Option Addr, ∃ x_2_l3 x_2_c3 : Nat, ∃ x_33 : Int, cellsAt w24 ⟨b, 0, none⟩ 0 [(.int .i64 x_03), (.int .i64 x_13), (.slice x_2_a3 x_2_l3 x_2_c3), (.int .i64 x_33)] ∧
              (Calls Try.prog N_unack_Build #[(.agg #[.int .i64 x_03, .int .i64 x_13, .slice x_2_a3 x_2_l3 x_2_c3, .int .i64 x_33]), (.int .i64 n)] w24 fun e_8 w25 =>
              ∃ r_03 r_14 : Int, ∃ r_2_a2 : Option Addr, ∃ r_2_l2 r_2_c2 : Nat, ∃ r_33 : Int, ∃ r_a : Option Addr, ∃ r_l r_c : Nat, ∃ r8 : Int, e_8 = .returned (.tuple #[(.agg #[.int .i64 r_03, .int .i64 r_14, .slice r_2_a2 r_2_l2 r_2_c2, .int .i64 r_33]), (.slice r_a r_l r_c), (.int .i64 r8)]) ∧
              (kAlloc w25 #[.int .i64 (0 : Int), .int .i64 (0 : Int), .slice none 0 0, .int .i64 (0 : Int)] Ty_api_Cutter fun b8 w26 =>
              (sxStore w26 ⟨b8, 0, none⟩ 0 [(.int .i64 r_03), (.int .i64 r_14), (.slice r_2_a2 r_2_l2 r_2_c2), (.int .i64 r_33)] fun w27 =>
              (∃ x_04 x_14 x_2 x_34 x_4 x_5 x_6 x_7 x_8 x_9 x_10 x_111 : Int, ∃ x_121 : Bool, ∃ x_13_a : Option Addr, ∃ x_13_l x_13_c : Nat, cellsAt w27 ⟨b1, 0, none⟩ 0 [(.int .i64 x_04), (.int .i64 x_14), (.int .i64 x_2), (.int .i64 x_34), (.int .i64 x_4), (.int .i64 x_5), (.int .i64 x_6), (.int .i64 x_7), (.int .i64 x_8), (.int .i64 x_9), (.int .i64 x_10), (.int .i64 x_111), (.bool x_121), (.slice x_13_a x_13_l x_13_c)] ∧
              (Calls Try.prog N_unack_Receive #[(.agg #[.int .i64 x_04, .int .i64 x_14, .int .i64 x_2, .int .i64 x_34, .int .i64 x_4, .int .i64 x_5, .int .i64 x_6, .int .i64 x_7, .int .i64 x_8, .int .i64 x_9, .int .i64 x_10, .int .i64 x_111, .bool x_121, .slice x_13_a x_13_l x_13_c]), (.slice r_a r_l r_c)] w27 fun e_9 w28 =>
              ∃ r_04 r_15 r_21 r_34 r_41 r_51 r_61 r_71 r_81 r_91 r_101 r_112 : Int, ∃ r_121 : Bool, ∃ r_13_a1 : Option Addr, ∃ r_13_l1 r_13_c1 : Nat, ∃ r_a1 : Option Addr, ∃ r_l1 r_c1 : Nat, ∃ r9 : Int, e_9 = .returned (.tuple #[(.agg #[.int .i64 r_04, .int .i64 r_15, .int .i64 r_21, .int .i64 r_34, .int .i64 r_41, .int .i64 r_51, .int .i64 r_61, .int .i64 r_71, .int .i64 r_81, .int .i64 r_91, .int .i64 r_101, .int .i64 r_112, .bool r_121, .slice r_13_a1 r_13_l1 r_13_c1]), (.slice r_a1 r_l1 r_c1), (.int .i64 r9)]) ∧
              (kAlloc w28 #[.int .i64 (0 : Int), .int .i64 (0 : Int), .int .i64 (0 : Int), .int .i64 (0 : Int), .int .i64 (0 : Int), .int .i64 (0 : Int), .int .i64 (0 : Int), .int .i64 (0 : Int), .int .i64 (0 : Int), .int .i64 (0 : Int), .int .i64 (0 : Int), .int .i64 (0 : Int), .bool false, .slice none 0 0] Ty_api_Receiver fun b9 w29 =>
              (sxStore w29 ⟨b9, 0, none⟩ 0 [(.int .i64 r_04), (.int .i64 r_15), (.int .i64 r_21), (.int .i64 r_34), (.int .i64 r_41), (.int .i64 r_51), (.int .i64 r_61), (.int .i64 r_71), (.int .i64 r_81), (.int .i64 r_91), (.int .i64 r_101), (.int .i64 r_112), (.bool r_121), (.slice r_13_a1 r_13_l1 r_13_c1)] fun w30 =>
              (∃ J2 : World → Prop,
              (∀ (_junk : Env)  (w31 : World), J2 w31 →
                (bsplit (decide ((r_l1 : Int) > (0 : Int)))
                  ((kAlloc w31 #[(.slice r_a1 r_l1 r_c1)] Ty_S_uint8 fun b10 w32 =>
                  (AppP Try.prog #[Ty_S_S_uint8, Ty_S_S_uint8] Ty_S_S_uint8 #[(.slice got_a got_l got_c), (.slice (some ⟨b10, 0, none⟩) 1 1)] w32 fun x_a1 x_l1 x_c1 w33 =>
                  (kDrew w33 fun w34 =>
                  (∃ S : Nat → Prop,
                  (∃ x_05 x_15 : Int, ∃ x_2_a4 : Option Addr, ∃ x_2_l4 x_2_c4 : Nat, ∃ x_35 : Int, cellsAt w34 ⟨b8, 0, none⟩ 0 [(.int .i64 x_05), (.int .i64 x_15), (.slice x_2_a4 x_2_l4 x_2_c4), (.int .i64 x_35)] ∧
                  (S b9 ∧
                  (∃ x_06 x_16 x_21 x_36 x_41 x_51 x_61 x_71 x_81 x_91 x_101 x_112 : Int, ∃ x_122 : Bool, ∃ x_13_a1 : Option Addr, ∃ x_13_l1 x_13_c1 : Nat, cellsAt w34 ⟨b9, 0, none⟩ 0 [(.int .i64 x_06), (.int .i64 x_16), (.int .i64 x_21), (.int .i64 x_36), (.int .i64 x_41), (.int .i64 x_51), (.int .i64 x_61), (.int .i64 x_71), (.int .i64 x_81), (.int .i64 x_91), (.int .i64 x_101), (.int .i64 x_112), (.bool x_122), (.slice x_13_a1 x_13_l1 x_13_c1)] ∧
                  (sxStore w34 ⟨b, 0, none⟩ 0 [(.int .i64 x_05), (.int .i64 x_15), (.slice x_2_a4 x_2_l4 x_2_c4), (.int .i64 x_35)] fun w35 =>
                  (KeepsB S w34 w35 ∧ (sxStore w35 ⟨b1, 0, none⟩ 0 [(.int .i64 x_06), (.int .i64 x_16), (.int .i64 x_21), (.int .i64 x_36), (.int .i64 x_41), (.int .i64 x_51), (.int .i64 x_61), (.int .i64 x_71), (.int .i64 x_81), (.int .i64 x_91), (.int .i64 x_101), (.int .i64 x_112), (.bool x_122), (.slice x_13_a1 x_13_l1 x_13_c1)] fun w36 =>
                  (kW .i64 (i1 + (1 : Int)) fun x13 =>
                  ((I2 x_a1 x_l1 x_c1 x13).2 w36 ∧ (I2 x_a1 x_l1 x_c1 x13).1 < (I2 got_a got_l got_c i1).1)))))))))))))
                  ((kDrew w31 fun w37 =>
                  (∃ S1 : Nat → Prop,
                  (∃ x_07 x_17 : Int, ∃ x_2_a5 : Option Addr, ∃ x_2_l5 x_2_c5 : Nat, ∃ x_37 : Int, cellsAt w37 ⟨b8, 0, none⟩ 0 [(.int .i64 x_07), (.int .i64 x_17), (.slice x_2_a5 x_2_l5 x_2_c5), (.int .i64 x_37)] ∧
                  (S1 b9 ∧
                  (∃ x_08 x_18 x_22 x_38 x_42 x_52 x_62 x_72 x_82 x_92 x_102 x_113 : Int, ∃ x_123 : Bool, ∃ x_13_a2 : Option Addr, ∃ x_13_l2 x_13_c2 : Nat, cellsAt w37 ⟨b9, 0, none⟩ 0 [(.int .i64 x_08), (.int .i64 x_18), (.int .i64 x_22), (.int .i64 x_38), (.int .i64 x_42), (.int .i64 x_52), (.int .i64 x_62), (.int .i64 x_72), (.int .i64 x_82), (.int .i64 x_92), (.int .i64 x_102), (.int .i64 x_113), (.bool x_123), (.slice x_13_a2 x_13_l2 x_13_c2)] ∧
                  (sxStore w37 ⟨b, 0, none⟩ 0 [(.int .i64 x_07), (.int .i64 x_17), (.slice x_2_a5 x_2_l5 x_2_c5), (.int .i64 x_37)] fun w38 =>
                  (KeepsB S1 w37 w38 ∧ (sxStore w38 ⟨b1, 0, none⟩ 0 [(.int .i64 x_08), (.int .i64 x_18), (.int .i64 x_22), (.int .i64 x_38), (.int .i64 x_42), (.int .i64 x_52), (.int .i64 x_62), (.int .i64 x_72), (.int .i64 x_82), (.int .i64 x_92), (.int .i64 x_102), (.int .i64 x_113), (.bool x_123), (.slice x_13_a2 x_13_l2 x_13_c2)] fun w39 =>
                  (kW .i64 (i1 + (1 : Int)) fun x14 =>
                  ((I2 got_a got_l got_c x14).2 w39 ∧ (I2 got_a got_l got_c x14).1 < (I2 got_a got_l got_c i1).1))))))))))))) ∧
              (bsplit (!decide (r8 = (0 : Int)))
                (R (.bool false) w30)
                ((bsplit (!decide (r9 = (0 : Int)))
                  (R (.bool false) w30)
                  ((bsplit (decide ((r_l : Int) > n))
                    (R (.bool false) w30)
                    (J2 w30)))))))))))))))) ∧
            (bsplit (decide (i1 < (sizes_l : Int)))
              ((kIx sizes_a sizes_l i1 fun b7 =>
              (kLd w23 (b7.add (i1.toNat * 1)) .u8 fun x10 =>
              (kW .i64 (x10) fun x11 =>
              (kW .i64 ((6 : Int) + x11) fun x12 =>
              J1 x12 w23)))))
              (J1 (40 : Int) w23)))) ∧
          (bsplit (decide (i1 < (20000 : Int)))
            ((∃ x_02 x_12 : Int, ∃ x_2_a2 : Option Addr, ∃ x_2_l2 x_2_c2 : Nat, ∃ x_32 : Int, cellsAt w17 ⟨b, 0, none⟩ 0 [(.int .i64 x_02), (.int .i64 x_12), (.slice x_2_a2 x_2_l2 x_2_c2), (.int .i64 x_32)] ∧
            (Calls Try.prog N_unack_Waiting #[(.agg #[.int .i64 x_02, .int .i64 x_12, .slice x_2_a2 x_2_l2 x_2_c2, .int .i64 x_32])] w17 fun e_3 w18 =>
            ∃ r3 : Int, e_3 = .returned (.int .i64 r3) ∧
            (bsplit (decide (r3 > (0 : Int)))
              (J w18)
              ((bsplit (decide (r1 = (0 : Int)))
                ((Calls Try.prog N_roll_SameAll #[(.slice sent_a sent_l sent_c), (.slice got_a got_l got_c)] w18 fun e_4 w19 =>
                ∃ r4 : Bool, e_4 = .returned (.bool r4) ∧
                (bsplit r4
                  ((Calls Try.prog N_law23_awake #[] w19 fun e_5 w20 =>
                  ∃ r5 : Bool, e_5 = .returned (.bool r5) ∧
                  R (.bool r5) w20))
                  (R (.bool false) w19))))
                (R (.bool false) w18)))))))
            ((bsplit (decide (r1 = (0 : Int)))
                ((Calls Try.prog N_roll_SameAll #[(.slice sent_a sent_l sent_c), (.slice got_a got_l got_c)] w17 fun e_6 w21 =>
                ∃ r6 : Bool, e_6 = .returned (.bool r6) ∧
                (bsplit r6
                  ((Calls Try.prog N_law23_awake #[] w21 fun e_7 w22 =>
                  ∃ r7 : Bool, e_7 = .returned (.bool r7) ∧
                  R (.bool r7) w22))
                  (R (.bool false) w21))))
                (R (.bool false) w17)))))))))))))))))))))
theorem F_law23_UnackWhole_eq (sizes_a : Option Addr) (sizes_l : Nat) (sizes_c : Nat) (lengths_a : Option Addr) (lengths_l : Nat) (lengths_c : Nat) (bits : Int) (w : World) (R : Value → World → Prop) : sxFn Try.prog TT h_law23_UnackWhole Try.f4 #[(.slice sizes_a sizes_l sizes_c), (.slice lengths_a lengths_l lengths_c), (.int .u8 bits)] w R = F_law23_UnackWhole sizes_a sizes_l sizes_c lengths_a lengths_l lengths_c bits w R := by kernel_rfl
theorem F_law23_UnackWhole_ok {R : Ending → World → Prop} (sizes_a : Option Addr) (sizes_l : Nat) (sizes_c : Nat) (lengths_a : Option Addr) (lengths_l : Nat) (lengths_c : Nat) (bits : Int) (w : World) (h : F_law23_UnackWhole sizes_a sizes_l sizes_c lengths_a lengths_l lengths_c bits w fun v w' => R (.returned v) w') : Calls Try.prog N_law23_UnackWhole #[(.slice sizes_a sizes_l sizes_c), (.slice lengths_a lengths_l lengths_c), (.int .u8 bits)] w R :=
  calls_of (f := 4) follows_ok Try.func4 (Eq.mpr (F_law23_UnackWhole_eq sizes_a sizes_l sizes_c lengths_a lengths_l lengths_c bits w _) h)

end Go.Proofs.Ytlgolgpellbnbaa
