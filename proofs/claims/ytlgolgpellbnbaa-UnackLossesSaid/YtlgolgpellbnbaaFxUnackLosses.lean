import Derived.Test.YtlgolgpellbnbaaBase
import Derived.KernelRfl
namespace Go.Proofs.Ytlgolgpellbnbaa
open Go.Sx Go.RowKit
set_option maxRecDepth 100000

def h_law23_UnackLosses : H := (.seq .reg (.cut [] [4, 19, 20, 21, 22, 23, 24, 25, 26, 27] (.seq .reg (.cond (.seq .reg .leaf) .leaf)) (.seq .reg (.seq .reg (.seq (.seq .reg (.block (.loop [(8, .p .slice), (9, .p (.int .i64))] [8, 9, 10, 33, 34, 35, 36, 37, 38, 39, 40, 41, 42, 43, 44, 45, 46, 47, 48, 49, 50, 51, 52, 53, 54, 55, 56, 57, 58, 59, 60] (.seq (.seq .reg (.cond .leaf .leaf)) (.seq (.block (.seq .reg (.seq .reg (.seq .reg .reg)))) .reg))))) (.seq .reg (.seq (.seq .reg (.block (.loop [(11, .p (.int .i64)), (12, .p (.int .i64))] [4, 11, 12, 13, 14, 15, 16, 17, 18, 61, 62, 63, 64, 65, 66, 67, 68, 69, 70, 71, 72, 73, 74, 75, 76, 77, 78, 79, 80, 81, 82, 83, 84, 85, 86, 87, 88, 89, 90, 91, 92, 93, 94, 95, 96, 97, 98, 99, 100, 101, 102, 103, 104, 105, 106, 107, 108, 109, 110, 111, 112, 113, 114, 115, 116, 117, 118, 119, 120, 121, 122] (.seq (.seq .reg (.cond .leaf .leaf)) (.seq (.block (.seq .reg (.seq (.seq .reg (.cond .leaf .leaf)) (.seq (.seq .reg (.cond (.seq .reg .leaf) .leaf)) (.seq .reg (.cut [] [76, 77, 78, 79, 80, 81, 82, 83, 84, 85] (.seq .reg (.cond .leaf .leaf)) (.seq .reg (.seq .reg (.cut [(11, .p (.int .i64))] [4, 11, 94, 95, 96, 97, 98, 99, 100, 101, 102, 103, 104, 105, 106, 107, 108, 109, 110, 111, 112, 113, 114, 115, 116, 117] (.block (.loop [(11, .p (.int .i64))] [4, 11, 94, 95, 96, 97, 98, 99, 100, 101, 102, 103, 104, 105, 106, 107, 108, 109, 110, 111, 112, 113, 114, 115, 116, 117] (.cut [] [94, 95, 96, 97, 98, 99, 100, 101, 102, 103, 104, 105, 106, 107, 108, 109, 110, 111] (.seq .reg (.cond .leaf .leaf)) (.block (.seq (.seq .reg (.cond (.seq .reg .leaf) .leaf)) .reg))))) (.seq .reg (.cond .reg .leaf))))))))))) .reg))))) (.seq .reg .leaf))))))))
def F_law23_UnackLosses (lose_a : Option Addr) (lose_l : Nat) (_ : Nat) (lengths_a : Option Addr) (lengths_l : Nat) (_ : Nat) (w : World) (R : Value → World → Prop) : Prop :=
  (∃ J : World → Prop,
  (∀ (_junk : Env)  (w3 : World), J w3 →
    (Calls Try.prog N_unack_New #[(.int .i64 (5 : Int)), (.int .i64 (5 : Int))] w3 fun e_2 w4 =>
    ∃ r_0 r_1 : Int, ∃ r_2_a : Option Addr, ∃ r_2_l r_2_c : Nat, ∃ r_3 r_01 r_11 r_2 r_31 r_4 r_5 r_6 r_7 r_8 r_9 r_10 r_111 : Int, ∃ r_12 : Bool, ∃ r_13_a : Option Addr, ∃ r_13_l r_13_c : Nat, ∃ r2 : Int, e_2 = .returned (.tuple #[(.agg #[.int .i64 r_0, .int .i64 r_1, .slice r_2_a r_2_l r_2_c, .int .i64 r_3]), (.agg #[.int .i64 r_01, .int .i64 r_11, .int .i64 r_2, .int .i64 r_31, .int .i64 r_4, .int .i64 r_5, .int .i64 r_6, .int .i64 r_7, .int .i64 r_8, .int .i64 r_9, .int .i64 r_10, .int .i64 r_111, .bool r_12, .slice r_13_a r_13_l r_13_c]), (.int .i64 r2)]) ∧
    (kAlloc w4 #[.int .i64 (0 : Int), .int .i64 (0 : Int), .slice none 0 0, .int .i64 (0 : Int)] Ty_api_Cutter fun b w5 =>
    (kAlloc w5 #[.int .i64 (0 : Int), .int .i64 (0 : Int), .int .i64 (0 : Int), .int .i64 (0 : Int), .int .i64 (0 : Int), .int .i64 (0 : Int), .int .i64 (0 : Int), .int .i64 (0 : Int), .int .i64 (0 : Int), .int .i64 (0 : Int), .int .i64 (0 : Int), .int .i64 (0 : Int), .bool false, .slice none 0 0] Ty_api_Receiver fun b1 w6 =>
    (sxStore w6 ⟨b, 0, none⟩ 0 [(.int .i64 r_0), (.int .i64 r_1), (.slice r_2_a r_2_l r_2_c), (.int .i64 r_3)] fun w7 =>
    (sxStore w7 ⟨b1, 0, none⟩ 0 [(.int .i64 r_01), (.int .i64 r_11), (.int .i64 r_2), (.int .i64 r_31), (.int .i64 r_4), (.int .i64 r_5), (.int .i64 r_6), (.int .i64 r_7), (.int .i64 r_8), (.int .i64 r_9), (.int .i64 r_10), (.int .i64 r_111), (.bool r_12), (.slice r_13_a r_13_l r_13_c)] fun w8 =>
    (∃ I : Option Addr → Nat → Nat → Int → Nat × (World → Prop), (I none 0 0 (0 : Int)).2 w8 ∧
    (∀ (_junk : Env) (sent_a : Option Addr) (sent_l : Nat) (sent_c : Nat) (i : Int) (w9 : World), (I sent_a sent_l sent_c i).2 w9 →
      (bsplit (decide (i < (lengths_l : Int)))
        ((kIx lengths_a lengths_l i fun b2 =>
        (kLd w9 (b2.add (i.toNat * 1)) .u8 fun x =>
        (kW .i64 (x) fun x1 =>
        (kLet (Int.tmod x1 (60 : Int)) fun x2 =>
        (kW .i64 ((1 : Int) + x2) fun x3 =>
        (kMake w9 1 x3 x3 #[(.int .u8 (0 : Int))] 1 Ty_uint8 fun b3 w10 =>
        (kW .u8 (i) fun x4 =>
        (kIx (some ⟨b3, 0, none⟩) (x3.toNat) (0 : Int) fun b4 =>
        (kSet w10 (b4.add ((0 : Int).toNat * 1)) (.int .u8 x4) fun w11 =>
        (kAlloc w11 #[(.slice (some ⟨b3, 0, none⟩) x3.toNat x3.toNat)] Ty_S_uint8 fun b5 w12 =>
        (AppP Try.prog #[Ty_S_S_uint8, Ty_S_S_uint8] Ty_S_S_uint8 #[(.slice sent_a sent_l sent_c), (.slice (some ⟨b5, 0, none⟩) 1 1)] w12 fun x_a x_l x_c w13 =>
        (∃ x_0 x_1 : Int, ∃ x_2_a : Option Addr, ∃ x_2_l x_2_c : Nat, ∃ x_3 : Int, cellsAt w13 ⟨b, 0, none⟩ 0 [(.int .i64 x_0), (.int .i64 x_1), (.slice x_2_a x_2_l x_2_c), (.int .i64 x_3)] ∧
        (Calls Try.prog N_unack_Submit #[(.agg #[.int .i64 x_0, .int .i64 x_1, .slice x_2_a x_2_l x_2_c, .int .i64 x_3]), (.slice (some ⟨b3, 0, none⟩) x3.toNat x3.toNat)] w13 fun e_3 w14 =>
        ∃ r_02 r_13 : Int, ∃ r_2_a1 : Option Addr, ∃ r_2_l1 r_2_c1 : Nat, ∃ r_32 r3 : Int, e_3 = .returned (.tuple #[(.agg #[.int .i64 r_02, .int .i64 r_13, .slice r_2_a1 r_2_l1 r_2_c1, .int .i64 r_32]), (.int .i64 r3)]) ∧
        (sxStore w14 ⟨b, 0, none⟩ 0 [(.int .i64 r_02), (.int .i64 r_13), (.slice r_2_a1 r_2_l1 r_2_c1), (.int .i64 r_32)] fun w15 =>
        (kW .i64 (i + (1 : Int)) fun x5 =>
        ((I x_a x_l x_c x5).2 w15 ∧ (I x_a x_l x_c x5).1 < (I sent_a sent_l sent_c i).1)))))))))))))))))
        ((∃ I1 : Int → Int → Nat × (World → Prop), (I1 (0 : Int) (0 : Int)).2 w9 ∧
        (∀ (_junk : Env) (at1 : Int) (i1 : Int) (w16 : World), (I1 at1 i1).2 w16 →
          (bsplit (decide (i1 < (300 : Int)))
            ((∃ x_01 x_11 : Int, ∃ x_2_a1 : Option Addr, ∃ x_2_l1 x_2_c1 : Nat, ∃ x_31 : Int, cellsAt w16 ⟨b, 0, none⟩ 0 [(.int .i64 x_01), (.int .i64 x_11), (.slice x_2_a1 x_2_l1 x_2_c1), (.int .i64 x_31)] ∧
            (Calls Try.prog N_unack_Build #[(.agg #[.int .i64 x_01, .int .i64 x_11, .slice x_2_a1 x_2_l1 x_2_c1, .int .i64 x_31]), (.int .i64 (9 : Int))] w16 fun e_4 w17 =>
            ∃ r_03 r_14 : Int, ∃ r_2_a2 : Option Addr, ∃ r_2_l2 r_2_c2 : Nat, ∃ r_33 : Int, ∃ r_a : Option Addr, ∃ r_l r_c : Nat, ∃ r4 : Int, e_4 = .returned (.tuple #[(.agg #[.int .i64 r_03, .int .i64 r_14, .slice r_2_a2 r_2_l2 r_2_c2, .int .i64 r_33]), (.slice r_a r_l r_c), (.int .i64 r4)]) ∧
            (kAlloc w17 #[.int .i64 (0 : Int), .int .i64 (0 : Int), .slice none 0 0, .int .i64 (0 : Int)] Ty_api_Cutter fun b6 w18 =>
            (sxStore w18 ⟨b6, 0, none⟩ 0 [(.int .i64 r_03), (.int .i64 r_14), (.slice r_2_a2 r_2_l2 r_2_c2), (.int .i64 r_33)] fun w19 =>
            (bsplit (decide (r4 = (14 : Int)))
              ((∃ x_02 x_12 : Int, ∃ x_2_a2 : Option Addr, ∃ x_2_l2 x_2_c2 : Nat, ∃ x_32 : Int, cellsAt w19 ⟨b, 0, none⟩ 0 [(.int .i64 x_02), (.int .i64 x_12), (.slice x_2_a2 x_2_l2 x_2_c2), (.int .i64 x_32)] ∧
              (Calls Try.prog N_unack_Valid #[(.agg #[.int .i64 x_02, .int .i64 x_12, .slice x_2_a2 x_2_l2 x_2_c2, .int .i64 x_32])] w19 fun e_5 w20 =>
              ∃ r5 : Bool, e_5 = .returned (.bool r5) ∧
              (bsplit r5
                ((Calls Try.prog N_law23_awake #[] w20 fun e_6 w21 =>
                ∃ r6 : Bool, e_6 = .returned (.bool r6) ∧
                R (.bool r6) w21))
                (R (.bool false) w20)))))
              ((bsplit (!decide (r4 = (0 : Int)))
                (R (.bool false) w19)
                ((∃ x_03 x_13 : Int, ∃ x_2_a3 : Option Addr, ∃ x_2_l3 x_2_c3 : Nat, ∃ x_33 : Int, cellsAt w19 ⟨b6, 0, none⟩ 0 [(.int .i64 x_03), (.int .i64 x_13), (.slice x_2_a3 x_2_l3 x_2_c3), (.int .i64 x_33)] ∧
                (sxStore w19 ⟨b, 0, none⟩ 0 [(.int .i64 x_03), (.int .i64 x_13), (.slice x_2_a3 x_2_l3 x_2_c3), (.int .i64 x_33)] fun w22 =>
                (∃ J1 : World → Prop,
                (∀ (_junk : Env)  (w23 : World), J1 w23 →
                  (∃ x_04 x_14 x_2 x_34 x_4 x_5 x_6 x_7 x_8 x_9 x_10 x_111 : Int, ∃ x_121 : Bool, ∃ x_13_a : Option Addr, ∃ x_13_l x_13_c : Nat, cellsAt w23 ⟨b1, 0, none⟩ 0 [(.int .i64 x_04), (.int .i64 x_14), (.int .i64 x_2), (.int .i64 x_34), (.int .i64 x_4), (.int .i64 x_5), (.int .i64 x_6), (.int .i64 x_7), (.int .i64 x_8), (.int .i64 x_9), (.int .i64 x_10), (.int .i64 x_111), (.bool x_121), (.slice x_13_a x_13_l x_13_c)] ∧
                  (Calls Try.prog N_unack_Receive #[(.agg #[.int .i64 x_04, .int .i64 x_14, .int .i64 x_2, .int .i64 x_34, .int .i64 x_4, .int .i64 x_5, .int .i64 x_6, .int .i64 x_7, .int .i64 x_8, .int .i64 x_9, .int .i64 x_10, .int .i64 x_111, .bool x_121, .slice x_13_a x_13_l x_13_c]), (.slice r_a r_l r_c)] w23 fun e_7 w24 =>
                  ∃ r_04 r_15 r_21 r_34 r_41 r_51 r_61 r_71 r_81 r_91 r_101 r_112 : Int, ∃ r_121 : Bool, ∃ r_13_a1 : Option Addr, ∃ r_13_l1 r_13_c1 : Nat, ∃ r_a1 : Option Addr, ∃ r_l1 r_c1 : Nat, ∃ r7 : Int, e_7 = .returned (.tuple #[(.agg #[.int .i64 r_04, .int .i64 r_15, .int .i64 r_21, .int .i64 r_34, .int .i64 r_41, .int .i64 r_51, .int .i64 r_61, .int .i64 r_71, .int .i64 r_81, .int .i64 r_91, .int .i64 r_101, .int .i64 r_112, .bool r_121, .slice r_13_a1 r_13_l1 r_13_c1]), (.slice r_a1 r_l1 r_c1), (.int .i64 r7)]) ∧
                  (kAlloc w24 #[.int .i64 (0 : Int), .int .i64 (0 : Int), .int .i64 (0 : Int), .int .i64 (0 : Int), .int .i64 (0 : Int), .int .i64 (0 : Int), .int .i64 (0 : Int), .int .i64 (0 : Int), .int .i64 (0 : Int), .int .i64 (0 : Int), .int .i64 (0 : Int), .int .i64 (0 : Int), .bool false, .slice none 0 0] Ty_api_Receiver fun b8 w25 =>
                  (sxStore w25 ⟨b8, 0, none⟩ 0 [(.int .i64 r_04), (.int .i64 r_15), (.int .i64 r_21), (.int .i64 r_34), (.int .i64 r_41), (.int .i64 r_51), (.int .i64 r_61), (.int .i64 r_71), (.int .i64 r_81), (.int .i64 r_91), (.int .i64 r_101), (.int .i64 r_112), (.bool r_121), (.slice r_13_a1 r_13_l1 r_13_c1)] fun w26 =>
                  (∃ x_05 x_15 x_21 x_35 x_41 x_51 x_61 x_71 x_81 x_91 x_101 x_112 : Int, ∃ x_122 : Bool, ∃ x_13_a1 : Option Addr, ∃ x_13_l1 x_13_c1 : Nat, cellsAt w26 ⟨b8, 0, none⟩ 0 [(.int .i64 x_05), (.int .i64 x_15), (.int .i64 x_21), (.int .i64 x_35), (.int .i64 x_41), (.int .i64 x_51), (.int .i64 x_61), (.int .i64 x_71), (.int .i64 x_81), (.int .i64 x_91), (.int .i64 x_101), (.int .i64 x_112), (.bool x_122), (.slice x_13_a1 x_13_l1 x_13_c1)] ∧
                  (sxStore w26 ⟨b1, 0, none⟩ 0 [(.int .i64 x_05), (.int .i64 x_15), (.int .i64 x_21), (.int .i64 x_35), (.int .i64 x_41), (.int .i64 x_51), (.int .i64 x_61), (.int .i64 x_71), (.int .i64 x_81), (.int .i64 x_91), (.int .i64 x_101), (.int .i64 x_112), (.bool x_122), (.slice x_13_a1 x_13_l1 x_13_c1)] fun w27 =>
                  (∃ J2 : Int → World → Prop,
                  (∀ (_junk : Env) (at3 : Int) (w31 : World), J2 at3 w31 →
                    (bsplit (decide ((r_l1 : Int) > (0 : Int)))
                      ((kW .i64 (at3 + (1 : Int)) fun x10 =>
                      (kW .i64 (i1 + (1 : Int)) fun x11 =>
                      ((I1 x10 x11).2 w31 ∧ (I1 x10 x11).1 < (I1 at1 i1).1))))
                      ((kW .i64 (i1 + (1 : Int)) fun x12 =>
                      ((I1 at3 x12).2 w31 ∧ (I1 at3 x12).1 < (I1 at1 i1).1))))) ∧
                  (∃ I2 : Int → Nat × (World → Prop), (I2 at1).2 w27 ∧
                  (∀ (_junk : Env) (at2 : Int) (w28 : World), (I2 at2).2 w28 →
                    (∃ J3 : World → Prop,
                    (∀ (_junk : Env)  (w30 : World), J3 w30 →
                      (bsplit (decide (at2 = (sent_l : Int)))
                        (R (.bool false) w30)
                        ((kW .i64 (at2 + (1 : Int)) fun x9 =>
                        ((I2 x9).2 w30 ∧ (I2 x9).1 < (I2 at2).1))))) ∧
                    (bsplit (decide ((r_l1 : Int) > (0 : Int)))
                      ((bsplit (decide (at2 = (sent_l : Int)))
                        (J3 w28)
                        ((kIx sent_a sent_l at2 fun b9 =>
                        (kLdS w28 (b9.add (at2.toNat * 1)) fun x_a1 x_l1 x_c1 =>
                        (Calls Try.prog N_roll_Same #[(.slice x_a1 x_l1 x_c1), (.slice r_a1 r_l1 r_c1)] w28 fun e_8 w29 =>
                        ∃ r8 : Bool, e_8 = .returned (.bool r8) ∧
                        (bsplit (!r8)
                          (J3 w29)
                          (J2 at2 w29))))))))
                      (J2 at2 w28))))))))))))) ∧
                (bsplit (decide (i1 < (lose_l : Int)))
                  ((kIx lose_a lose_l i1 fun b7 =>
                  (kLdB w22 (b7.add (i1.toNat * 1)) fun x6 =>
                  (bsplit x6
                    ((kW .i64 (i1 + (1 : Int)) fun x7 =>
                    ((I1 at1 x7).2 w22 ∧ (I1 at1 x7).1 < (I1 at1 i1).1)))
                    (J1 w22)))))
                  (J1 w22))))))))))))))
            ((∃ x_06 x_16 : Int, ∃ x_2_a4 : Option Addr, ∃ x_2_l4 x_2_c4 : Nat, ∃ x_36 : Int, cellsAt w16 ⟨b, 0, none⟩ 0 [(.int .i64 x_06), (.int .i64 x_16), (.slice x_2_a4 x_2_l4 x_2_c4), (.int .i64 x_36)] ∧
            (Calls Try.prog N_unack_Valid #[(.agg #[.int .i64 x_06, .int .i64 x_16, .slice x_2_a4 x_2_l4 x_2_c4, .int .i64 x_36])] w16 fun e_9 w32 =>
            ∃ r9 : Bool, e_9 = .returned (.bool r9) ∧
            (bsplit r9
              ((Calls Try.prog N_law23_awake #[] w32 fun e_10 w33 =>
              ∃ r10 : Bool, e_10 = .returned (.bool r10) ∧
              R (.bool r10) w33))
              (R (.bool false) w32)))))))))))))))))) ∧
  (bsplit (decide ((lengths_l : Int) > (15 : Int)))
    ((Calls Try.prog N_law23_awake #[] w fun e_ w1 =>
      ∃ r : Bool, e_ = .returned (.bool r) ∧
      R (.bool r) w1))
    ((bsplit (decide ((lose_l : Int) > (200 : Int)))
      ((Calls Try.prog N_law23_awake #[] w fun e_1 w2 =>
      ∃ r1 : Bool, e_1 = .returned (.bool r1) ∧
      R (.bool r1) w2))
      (J w)))))
theorem F_law23_UnackLosses_eq (lose_a : Option Addr) (lose_l : Nat) (lose_c : Nat) (lengths_a : Option Addr) (lengths_l : Nat) (lengths_c : Nat) (w : World) (R : Value → World → Prop) : sxFn Try.prog TT h_law23_UnackLosses Try.f5 #[(.slice lose_a lose_l lose_c), (.slice lengths_a lengths_l lengths_c)] w R = F_law23_UnackLosses lose_a lose_l lose_c lengths_a lengths_l lengths_c w R := by kernel_rfl
theorem F_law23_UnackLosses_ok {R : Ending → World → Prop} (lose_a : Option Addr) (lose_l : Nat) (lose_c : Nat) (lengths_a : Option Addr) (lengths_l : Nat) (lengths_c : Nat) (w : World) (h : F_law23_UnackLosses lose_a lose_l lose_c lengths_a lengths_l lengths_c w fun v w' => R (.returned v) w') : Calls Try.prog N_law23_UnackLosses #[(.slice lose_a lose_l lose_c), (.slice lengths_a lengths_l lengths_c)] w R :=
  calls_of (f := 5) follows_ok Try.func5 (Eq.mpr (F_law23_UnackLosses_eq lose_a lose_l lose_c lengths_a lengths_l lengths_c w _) h)

end Go.Proofs.Ytlgolgpellbnbaa
