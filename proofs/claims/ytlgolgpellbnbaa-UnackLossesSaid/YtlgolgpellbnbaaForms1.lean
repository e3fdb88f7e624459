import Derived.Test.YtlgolgpellbnbaaBase
import Derived.KernelRfl
namespace Go.Proofs.Ytlgolgpellbnbaa
open Go.Sx Go.RowKit
set_option maxRecDepth 100000

def h_law23_light : H := (.seq .reg (.seq .reg (.seq (.seq .reg (.block (.loop [(3, .p (.int .i64)), (4, .p (.int .i64))] [3, 4, 5, 6, 7, 8, 9, 10, 11, 12, 13, 14, 15, 16, 17, 18, 19, 20] (.seq (.seq .reg (.cond .leaf .leaf)) (.seq (.block .reg) .reg))))) (.seq .reg .leaf))))
def F_law23_light (c_0 : Int) (c_1 : Int) (c_2_a : Option Addr) (c_2_l : Nat) (c_2_c : Nat) (c_3 : Int) (w : World) (R : Value → World → Prop) : Prop :=
  (kAlloc w #[(.int .i64 c_0), (.int .i64 c_1), (.slice c_2_a c_2_l c_2_c), (.int .i64 c_3)] Ty_api_Cutter fun b w1 =>
  (∃ I : Int → Int → Nat × (World → Prop), (I (0 : Int) (0 : Int)).2 w1 ∧
  (∀ (_junk : Env) (n : Int) (i : Int) (w2 : World), (I n i).2 w2 →
    (kLdS w2 ⟨b, 2, none⟩ fun _ x_l _ =>
    (bsplit (decide (i < (x_l : Int)))
      ((kW .i64 (n + (10 : Int)) fun x =>
      (kLdS w2 ⟨b, 2, none⟩ fun x_a1 x_l1 _ =>
      (kIx x_a1 x_l1 i fun b1 =>
      (kLdS w2 (b1.add (i.toNat * 1)) fun _ x_l2 _ =>
      (kW .i64 (x + (x_l2 : Int)) fun x1 =>
      (kW .i64 (i + (1 : Int)) fun x2 =>
      ((I x1 x2).2 w2 ∧ (I x1 x2).1 < (I n i).1))))))))
      ((kLet (decide (n ≤ (8000 : Int))) fun x3 =>
      R (.bool x3) w2)))))))
theorem F_law23_light_eq (c_0 : Int) (c_1 : Int) (c_2_a : Option Addr) (c_2_l : Nat) (c_2_c : Nat) (c_3 : Int) (w : World) (R : Value → World → Prop) : sxFn Try.prog TT h_law23_light Try.f6 #[(.agg #[.int .i64 c_0, .int .i64 c_1, .slice c_2_a c_2_l c_2_c, .int .i64 c_3])] w R = F_law23_light c_0 c_1 c_2_a c_2_l c_2_c c_3 w R := by kernel_rfl
theorem F_law23_light_ok {R : Ending → World → Prop} (c_0 : Int) (c_1 : Int) (c_2_a : Option Addr) (c_2_l : Nat) (c_2_c : Nat) (c_3 : Int) (w : World) (h : F_law23_light c_0 c_1 c_2_a c_2_l c_2_c c_3 w fun v w' => R (.returned v) w') : Calls Try.prog N_law23_light #[(.agg #[.int .i64 c_0, .int .i64 c_1, .slice c_2_a c_2_l c_2_c, .int .i64 c_3])] w R :=
  calls_of (f := 6) follows_ok Try.func6 (Eq.mpr (F_law23_light_eq c_0 c_1 c_2_a c_2_l c_2_c c_3 w _) h)

def h_law23_awake : H := (.seq .reg (.seq .reg (.seq .reg (.seq .reg (.seq (.seq .reg (.block (.loop [(5, .p (.int .i64)), (6, .p (.int .i64))] [0, 5, 6, 7, 8, 9, 10, 11, 12, 25, 26, 27, 28, 29, 30, 31, 32, 33, 34, 35, 36, 37, 38, 39, 40, 41, 42, 43, 44, 45, 46, 47, 48, 49, 50, 51, 52, 53] (.seq (.seq .reg (.cond .leaf .leaf)) (.seq (.block (.seq .reg (.seq .reg (.seq (.seq .reg (.cond (.seq .reg .leaf) .leaf)) (.draw .blk (.one 0 .pre (.one 1 .stable (.one 2 .pur (.one 3 .pur (.one 4 .pur (.one 5 .pur (.one 6 .keep (.one 7 .last (.one 8 .pur .nil)))))))))))))) .reg))))) (.seq .reg .leaf))))))
def F_law23_awake  (w : World) (R : Value → World → Prop) : Prop :=
  (Calls Try.prog N_unack_New #[(.int .i64 (5 : Int)), (.int .i64 (3 : Int))] w fun e_ w1 =>
  ∃ r_0 r_1 : Int, ∃ r_2_a : Option Addr, ∃ r_2_l r_2_c : Nat, ∃ r_3 r_01 r_11 r_2 r_31 r_4 r_5 r_6 r_7 r_8 r_9 r_10 r_111 : Int, ∃ r_12 : Bool, ∃ r_13_a : Option Addr, ∃ r_13_l r_13_c : Nat, ∃ r : Int, e_ = .returned (.tuple #[(.agg #[.int .i64 r_0, .int .i64 r_1, .slice r_2_a r_2_l r_2_c, .int .i64 r_3]), (.agg #[.int .i64 r_01, .int .i64 r_11, .int .i64 r_2, .int .i64 r_31, .int .i64 r_4, .int .i64 r_5, .int .i64 r_6, .int .i64 r_7, .int .i64 r_8, .int .i64 r_9, .int .i64 r_10, .int .i64 r_111, .bool r_12, .slice r_13_a r_13_l r_13_c]), (.int .i64 r)]) ∧
  (kAlloc w1 #[.int .i64 (0 : Int), .int .i64 (0 : Int), .slice none 0 0, .int .i64 (0 : Int)] Ty_api_Cutter fun b w2 =>
  (kAlloc w2 #[.int .i64 (0 : Int), .int .i64 (0 : Int), .int .i64 (0 : Int), .int .i64 (0 : Int), .int .i64 (0 : Int), .int .i64 (0 : Int), .int .i64 (0 : Int), .int .i64 (0 : Int), .int .i64 (0 : Int), .int .i64 (0 : Int), .int .i64 (0 : Int), .int .i64 (0 : Int), .bool false, .slice none 0 0] Ty_api_Receiver fun b1 w3 =>
  (sxStore w3 ⟨b, 0, none⟩ 0 [(.int .i64 r_0), (.int .i64 r_1), (.slice r_2_a r_2_l r_2_c), (.int .i64 r_3)] fun w4 =>
  (sxStore w4 ⟨b1, 0, none⟩ 0 [(.int .i64 r_01), (.int .i64 r_11), (.int .i64 r_2), (.int .i64 r_31), (.int .i64 r_4), (.int .i64 r_5), (.int .i64 r_6), (.int .i64 r_7), (.int .i64 r_8), (.int .i64 r_9), (.int .i64 r_10), (.int .i64 r_111), (.bool r_12), (.slice r_13_a r_13_l r_13_c)] fun w5 =>
  (∃ x_0 x_1 : Int, ∃ x_2_a : Option Addr, ∃ x_2_l x_2_c : Nat, ∃ x_3 : Int, cellsAt w5 ⟨b, 0, none⟩ 0 [(.int .i64 x_0), (.int .i64 x_1), (.slice x_2_a x_2_l x_2_c), (.int .i64 x_3)] ∧
  (kAlloc w5 #[(.int .u8 (48 : Int)), (.int .u8 (49 : Int)), (.int .u8 (50 : Int)), (.int .u8 (51 : Int)), (.int .u8 (52 : Int)), (.int .u8 (53 : Int)), (.int .u8 (54 : Int)), (.int .u8 (55 : Int)), (.int .u8 (56 : Int)), (.int .u8 (57 : Int))] Ty_uint8 fun b2 w6 =>
  (ConvB Try.prog Ty_S_uint8 Ty_S_uint8 (.slice (some ⟨b2, 0, none⟩) 10 10) w6 fun x_a x_l x_c w7 =>
  (Calls Try.prog N_unack_Submit #[(.agg #[.int .i64 x_0, .int .i64 x_1, .slice x_2_a x_2_l x_2_c, .int .i64 x_3]), (.slice x_a x_l x_c)] w7 fun e_1 w8 =>
  ∃ r_02 r_13 : Int, ∃ r_2_a1 : Option Addr, ∃ r_2_l1 r_2_c1 : Nat, ∃ r_32 r1 : Int, e_1 = .returned (.tuple #[(.agg #[.int .i64 r_02, .int .i64 r_13, .slice r_2_a1 r_2_l1 r_2_c1, .int .i64 r_32]), (.int .i64 r1)]) ∧
  (sxStore w8 ⟨b, 0, none⟩ 0 [(.int .i64 r_02), (.int .i64 r_13), (.slice r_2_a1 r_2_l1 r_2_c1), (.int .i64 r_32)] fun w9 =>
  (∃ I : Int → Int → Nat × (World → Prop), (I (0 : Int) (0 : Int)).2 w9 ∧
  (∀ (_junk : Env) (n : Int) (i : Int) (w10 : World), (I n i).2 w10 →
    (bsplit (decide (i < (3 : Int)))
      ((∃ x_01 x_11 : Int, ∃ x_2_a1 : Option Addr, ∃ x_2_l1 x_2_c1 : Nat, ∃ x_31 : Int, cellsAt w10 ⟨b, 0, none⟩ 0 [(.int .i64 x_01), (.int .i64 x_11), (.slice x_2_a1 x_2_l1 x_2_c1), (.int .i64 x_31)] ∧
      (Calls Try.prog N_unack_Build #[(.agg #[.int .i64 x_01, .int .i64 x_11, .slice x_2_a1 x_2_l1 x_2_c1, .int .i64 x_31]), (.int .i64 (7 : Int))] w10 fun e_2 w11 =>
      ∃ r_03 r_14 : Int, ∃ r_2_a2 : Option Addr, ∃ r_2_l2 r_2_c2 : Nat, ∃ r_33 : Int, ∃ r_a : Option Addr, ∃ r_l r_c : Nat, ∃ r2 : Int, e_2 = .returned (.tuple #[(.agg #[.int .i64 r_03, .int .i64 r_14, .slice r_2_a2 r_2_l2 r_2_c2, .int .i64 r_33]), (.slice r_a r_l r_c), (.int .i64 r2)]) ∧
      (kAlloc w11 #[.int .i64 (0 : Int), .int .i64 (0 : Int), .slice none 0 0, .int .i64 (0 : Int)] Ty_api_Cutter fun b3 w12 =>
      (sxStore w12 ⟨b3, 0, none⟩ 0 [(.int .i64 r_03), (.int .i64 r_14), (.slice r_2_a2 r_2_l2 r_2_c2), (.int .i64 r_33)] fun w13 =>
      (∃ x_02 x_12 x_2 x_32 x_4 x_5 x_6 x_7 x_8 x_9 x_10 x_111 : Int, ∃ x_121 : Bool, ∃ x_13_a : Option Addr, ∃ x_13_l x_13_c : Nat, cellsAt w13 ⟨b1, 0, none⟩ 0 [(.int .i64 x_02), (.int .i64 x_12), (.int .i64 x_2), (.int .i64 x_32), (.int .i64 x_4), (.int .i64 x_5), (.int .i64 x_6), (.int .i64 x_7), (.int .i64 x_8), (.int .i64 x_9), (.int .i64 x_10), (.int .i64 x_111), (.bool x_121), (.slice x_13_a x_13_l x_13_c)] ∧
      (Calls Try.prog N_unack_Receive #[(.agg #[.int .i64 x_02, .int .i64 x_12, .int .i64 x_2, .int .i64 x_32, .int .i64 x_4, .int .i64 x_5, .int .i64 x_6, .int .i64 x_7, .int .i64 x_8, .int .i64 x_9, .int .i64 x_10, .int .i64 x_111, .bool x_121, .slice x_13_a x_13_l x_13_c]), (.slice r_a r_l r_c)] w13 fun e_3 w14 =>
      ∃ r_04 r_15 r_21 r_34 r_41 r_51 r_61 r_71 r_81 r_91 r_101 r_112 : Int, ∃ r_121 : Bool, ∃ r_13_a1 : Option Addr, ∃ r_13_l1 r_13_c1 : Nat, ∃ r_a1 : Option Addr, ∃ r_l1 r_c1 : Nat, ∃ r3 : Int, e_3 = .returned (.tuple #[(.agg #[.int .i64 r_04, .int .i64 r_15, .int .i64 r_21, .int .i64 r_34, .int .i64 r_41, .int .i64 r_51, .int .i64 r_61, .int .i64 r_71, .int .i64 r_81, .int .i64 r_91, .int .i64 r_101, .int .i64 r_112, .bool r_121, .slice r_13_a1 r_13_l1 r_13_c1]), (.slice r_a1 r_l1 r_c1), (.int .i64 r3)]) ∧
      (kAlloc w14 #[.int .i64 (0 : Int), .int .i64 (0 : Int), .int .i64 (0 : Int), .int .i64 (0 : Int), .int .i64 (0 : Int), .int .i64 (0 : Int), .int .i64 (0 : Int), .int .i64 (0 : Int), .int .i64 (0 : Int), .int .i64 (0 : Int), .int .i64 (0 : Int), .int .i64 (0 : Int), .bool false, .slice none 0 0] Ty_api_Receiver fun b4 w15 =>
      (sxStore w15 ⟨b4, 0, none⟩ 0 [(.int .i64 r_04), (.int .i64 r_15), (.int .i64 r_21), (.int .i64 r_34), (.int .i64 r_41), (.int .i64 r_51), (.int .i64 r_61), (.int .i64 r_71), (.int .i64 r_81), (.int .i64 r_91), (.int .i64 r_101), (.int .i64 r_112), (.bool r_121), (.slice r_13_a1 r_13_l1 r_13_c1)] fun w16 =>
      (bsplit (!decide (r2 = (0 : Int)))
        (R (.bool false) w16)
        ((bsplit (!decide (r3 = (0 : Int)))
          (R (.bool false) w16)
          ((kDrew w16 fun w20 =>
          (∃ S1 : Nat → Prop,
          (∃ x_05 x_15 : Int, ∃ x_2_a3 : Option Addr, ∃ x_2_l3 x_2_c3 : Nat, ∃ x_35 : Int, cellsAt w20 ⟨b3, 0, none⟩ 0 [(.int .i64 x_05), (.int .i64 x_15), (.slice x_2_a3 x_2_l3 x_2_c3), (.int .i64 x_35)] ∧
          (S1 b4 ∧
          (∃ x_06 x_16 x_22 x_36 x_42 x_52 x_62 x_72 x_82 x_92 x_102 x_113 : Int, ∃ x_123 : Bool, ∃ x_13_a2 : Option Addr, ∃ x_13_l2 x_13_c2 : Nat, cellsAt w20 ⟨b4, 0, none⟩ 0 [(.int .i64 x_06), (.int .i64 x_16), (.int .i64 x_22), (.int .i64 x_36), (.int .i64 x_42), (.int .i64 x_52), (.int .i64 x_62), (.int .i64 x_72), (.int .i64 x_82), (.int .i64 x_92), (.int .i64 x_102), (.int .i64 x_113), (.bool x_123), (.slice x_13_a2 x_13_l2 x_13_c2)] ∧
          (kW .i64 (n + (r_l1 : Int)) fun x2 =>
          (sxStore w20 ⟨b, 0, none⟩ 0 [(.int .i64 x_05), (.int .i64 x_15), (.slice x_2_a3 x_2_l3 x_2_c3), (.int .i64 x_35)] fun w21 =>
          (KeepsB S1 w20 w21 ∧ (sxStore w21 ⟨b1, 0, none⟩ 0 [(.int .i64 x_06), (.int .i64 x_16), (.int .i64 x_22), (.int .i64 x_36), (.int .i64 x_42), (.int .i64 x_52), (.int .i64 x_62), (.int .i64 x_72), (.int .i64 x_82), (.int .i64 x_92), (.int .i64 x_102), (.int .i64 x_113), (.bool x_123), (.slice x_13_a2 x_13_l2 x_13_c2)] fun w22 =>
          (kW .i64 (i + (1 : Int)) fun x3 =>
          ((I x2 x3).2 w22 ∧ (I x2 x3).1 < (I n i).1))))))))))))))))))))))))
      ((bsplit (decide (r = (0 : Int)))
        ((bsplit (decide (r1 = (0 : Int)))
          ((bsplit (decide (n = (10 : Int)))
            ((∃ x_07 x_17 : Int, ∃ x_2_a4 : Option Addr, ∃ x_2_l4 x_2_c4 : Nat, ∃ x_37 : Int, cellsAt w10 ⟨b, 0, none⟩ 0 [(.int .i64 x_07), (.int .i64 x_17), (.slice x_2_a4 x_2_l4 x_2_c4), (.int .i64 x_37)] ∧
            (Calls Try.prog N_unack_Waiting #[(.agg #[.int .i64 x_07, .int .i64 x_17, .slice x_2_a4 x_2_l4 x_2_c4, .int .i64 x_37])] w10 fun e_4 w23 =>
            ∃ r4 : Int, e_4 = .returned (.int .i64 r4) ∧
            (bsplit (decide (r4 = (0 : Int)))
              ((kLd w23 ⟨b, 1, none⟩ .i64 fun x4 =>
              (bsplit (decide (x4 = (1 : Int)))
                ((∃ x_08 x_18 : Int, ∃ x_2_a5 : Option Addr, ∃ x_2_l5 x_2_c5 : Nat, ∃ x_38 : Int, cellsAt w23 ⟨b, 0, none⟩ 0 [(.int .i64 x_08), (.int .i64 x_18), (.slice x_2_a5 x_2_l5 x_2_c5), (.int .i64 x_38)] ∧
                (Calls Try.prog N_unack_Valid #[(.agg #[.int .i64 x_08, .int .i64 x_18, .slice x_2_a5 x_2_l5 x_2_c5, .int .i64 x_38])] w23 fun e_5 w24 =>
                ∃ r5 : Bool, e_5 = .returned (.bool r5) ∧
                R (.bool r5) w24)))
                (R (.bool false) w23))))
              (R (.bool false) w23)))))
            (R (.bool false) w10)))
          (R (.bool false) w10)))
        (R (.bool false) w10))))))))))))))))
theorem F_law23_awake_eq  (w : World) (R : Value → World → Prop) : sxFn Try.prog TT h_law23_awake Try.f7 #[] w R = F_law23_awake  w R := by kernel_rfl
theorem F_law23_awake_ok {R : Ending → World → Prop}  (w : World) (h : F_law23_awake  w fun v w' => R (.returned v) w') : Calls Try.prog N_law23_awake #[] w R :=
  calls_of (f := 7) follows_ok Try.func7 (Eq.mpr (F_law23_awake_eq  w _) h)

def h_unack_New : H := (.seq .reg (.seq (.cut [(19, .p .bool)] [9, 10, 11, 12, 13, 14, 15, 16, 17, 18, 19] .reg (.cond (.seq .reg .leaf) .leaf)) (.seq .reg (.seq (.seq .reg (.cond (.seq .reg .leaf) .leaf)) (.seq (.draw .blk (.one 0 .pur (.one 2 .stable (.one 1 .keep (.one 3 .keep (.one 4 .last (.one 5 .pur .nil))))))) .leaf)))))
def F_unack_New (bits : Int) (wait : Int) (w : World) (R : Value → World → Prop) : Prop :=
  (kAlloc w #[.int .i64 (0 : Int), .int .i64 (0 : Int), .slice none 0 0, .int .i64 (0 : Int)] Ty_api_Cutter fun b w1 =>
  (kAlloc w1 #[.int .i64 (0 : Int), .int .i64 (0 : Int), .int .i64 (0 : Int), .int .i64 (0 : Int), .int .i64 (0 : Int), .int .i64 (0 : Int), .int .i64 (0 : Int), .int .i64 (0 : Int), .int .i64 (0 : Int), .int .i64 (0 : Int), .int .i64 (0 : Int), .int .i64 (0 : Int), .bool false, .slice none 0 0] Ty_api_Receiver fun b1 w2 =>
  (∃ J : Bool → World → Prop,
  (∀ (_junk : Env) (x : Bool) (w4 : World), J x w4 →
    (bsplit x
      ((sxStore w4 ⟨b, 0, none⟩ 0 [(.int .i64 (0 : Int)), (.int .i64 (0 : Int)), (.slice none 0 0), (.int .i64 (0 : Int))] fun w5 =>
      (sxStore w5 ⟨b1, 0, none⟩ 0 [(.int .i64 (0 : Int)), (.int .i64 (0 : Int)), (.int .i64 (0 : Int)), (.int .i64 (0 : Int)), (.int .i64 (0 : Int)), (.int .i64 (0 : Int)), (.int .i64 (0 : Int)), (.int .i64 (0 : Int)), (.int .i64 (0 : Int)), (.int .i64 (0 : Int)), (.int .i64 (0 : Int)), (.int .i64 (0 : Int)), (.bool false), (.slice none 0 0)] fun w6 =>
      (∃ r_0 r_1 : Int, ∃ r_2_a : Option Addr, ∃ r_2_l r_2_c : Nat, ∃ r_3 : Int, cellsAt w6 ⟨b, 0, none⟩ 0 [(.int .i64 r_0), (.int .i64 r_1), (.slice r_2_a r_2_l r_2_c), (.int .i64 r_3)] ∧
      (∃ r_01 r_11 r_2 r_31 r_4 r_5 r_6 r_7 r_8 r_9 r_10 r_111 : Int, ∃ r_12 : Bool, ∃ r_13_a : Option Addr, ∃ r_13_l r_13_c : Nat, cellsAt w6 ⟨b1, 0, none⟩ 0 [(.int .i64 r_01), (.int .i64 r_11), (.int .i64 r_2), (.int .i64 r_31), (.int .i64 r_4), (.int .i64 r_5), (.int .i64 r_6), (.int .i64 r_7), (.int .i64 r_8), (.int .i64 r_9), (.int .i64 r_10), (.int .i64 r_111), (.bool r_12), (.slice r_13_a r_13_l r_13_c)] ∧
      R (.tuple #[(.agg #[.int .i64 r_0, .int .i64 r_1, .slice r_2_a r_2_l r_2_c, .int .i64 r_3]), (.agg #[.int .i64 r_01, .int .i64 r_11, .int .i64 r_2, .int .i64 r_31, .int .i64 r_4, .int .i64 r_5, .int .i64 r_6, .int .i64 r_7, .int .i64 r_8, .int .i64 r_9, .int .i64 r_10, .int .i64 r_111, .bool r_12, .slice r_13_a r_13_l r_13_c]), (.int .i64 (3 : Int))]) w6)))))
      ((Calls Try.prog N_receiver_New #[(.agg #[.int .i64 bits, .int .i64 (1 : Int), .int .i64 (1 : Int), .int .i64 wait, .int .i64 (0 : Int), .int .i64 (1 : Int)])] w4 fun e_1 w7 =>
      ∃ r_02 r_13 r_21 r_32 r_41 r_51 r_61 r_71 r_81 r_91 r_101 r_112 : Int, ∃ r_121 : Bool, ∃ r_13_a1 : Option Addr, ∃ r_13_l1 r_13_c1 : Nat, ∃ r1 : Int, e_1 = .returned (.tuple #[(.agg #[.int .i64 r_02, .int .i64 r_13, .int .i64 r_21, .int .i64 r_32, .int .i64 r_41, .int .i64 r_51, .int .i64 r_61, .int .i64 r_71, .int .i64 r_81, .int .i64 r_91, .int .i64 r_101, .int .i64 r_112, .bool r_121, .slice r_13_a1 r_13_l1 r_13_c1]), (.int .i64 r1)]) ∧
      (kAlloc w7 #[.int .i64 (0 : Int), .int .i64 (0 : Int), .int .i64 (0 : Int), .int .i64 (0 : Int), .int .i64 (0 : Int), .int .i64 (0 : Int), .int .i64 (0 : Int), .int .i64 (0 : Int), .int .i64 (0 : Int), .int .i64 (0 : Int), .int .i64 (0 : Int), .int .i64 (0 : Int), .bool false, .slice none 0 0] Ty_api_Receiver fun b2 w8 =>
      (sxStore w8 ⟨b2, 0, none⟩ 0 [(.int .i64 r_02), (.int .i64 r_13), (.int .i64 r_21), (.int .i64 r_32), (.int .i64 r_41), (.int .i64 r_51), (.int .i64 r_61), (.int .i64 r_71), (.int .i64 r_81), (.int .i64 r_91), (.int .i64 r_101), (.int .i64 r_112), (.bool r_121), (.slice r_13_a1 r_13_l1 r_13_c1)] fun w9 =>
      (bsplit (!decide (r1 = (0 : Int)))
        ((sxStore w9 ⟨b, 0, none⟩ 0 [(.int .i64 (0 : Int)), (.int .i64 (0 : Int)), (.slice none 0 0), (.int .i64 (0 : Int))] fun w10 =>
        (sxStore w10 ⟨b1, 0, none⟩ 0 [(.int .i64 (0 : Int)), (.int .i64 (0 : Int)), (.int .i64 (0 : Int)), (.int .i64 (0 : Int)), (.int .i64 (0 : Int)), (.int .i64 (0 : Int)), (.int .i64 (0 : Int)), (.int .i64 (0 : Int)), (.int .i64 (0 : Int)), (.int .i64 (0 : Int)), (.int .i64 (0 : Int)), (.int .i64 (0 : Int)), (.bool false), (.slice none 0 0)] fun w11 =>
        (∃ r_03 r_14 : Int, ∃ r_2_a1 : Option Addr, ∃ r_2_l1 r_2_c1 : Nat, ∃ r_33 : Int, cellsAt w11 ⟨b, 0, none⟩ 0 [(.int .i64 r_03), (.int .i64 r_14), (.slice r_2_a1 r_2_l1 r_2_c1), (.int .i64 r_33)] ∧
        (∃ r_04 r_15 r_22 r_34 r_42 r_52 r_62 r_72 r_82 r_92 r_102 r_113 : Int, ∃ r_122 : Bool, ∃ r_13_a2 : Option Addr, ∃ r_13_l2 r_13_c2 : Nat, cellsAt w11 ⟨b1, 0, none⟩ 0 [(.int .i64 r_04), (.int .i64 r_15), (.int .i64 r_22), (.int .i64 r_34), (.int .i64 r_42), (.int .i64 r_52), (.int .i64 r_62), (.int .i64 r_72), (.int .i64 r_82), (.int .i64 r_92), (.int .i64 r_102), (.int .i64 r_113), (.bool r_122), (.slice r_13_a2 r_13_l2 r_13_c2)] ∧
        R (.tuple #[(.agg #[.int .i64 r_03, .int .i64 r_14, .slice r_2_a1 r_2_l1 r_2_c1, .int .i64 r_33]), (.agg #[.int .i64 r_04, .int .i64 r_15, .int .i64 r_22, .int .i64 r_34, .int .i64 r_42, .int .i64 r_52, .int .i64 r_62, .int .i64 r_72, .int .i64 r_82, .int .i64 r_92, .int .i64 r_102, .int .i64 r_113, .bool r_122, .slice r_13_a2 r_13_l2 r_13_c2]), (.int .i64 r1)]) w11)))))
        ((kDrew w9 fun w12 =>
        (∃ S : Nat → Prop,
        (S b2 ∧
        (∃ x_0 x_1 x_2 x_3 x_4 x_5 x_6 x_7 x_8 x_9 x_10 x_11 : Int, ∃ x_12 : Bool, ∃ x_13_a : Option Addr, ∃ x_13_l x_13_c : Nat, cellsAt w12 ⟨b2, 0, none⟩ 0 [(.int .i64 x_0), (.int .i64 x_1), (.int .i64 x_2), (.int .i64 x_3), (.int .i64 x_4), (.int .i64 x_5), (.int .i64 x_6), (.int .i64 x_7), (.int .i64 x_8), (.int .i64 x_9), (.int .i64 x_10), (.int .i64 x_11), (.bool x_12), (.slice x_13_a x_13_l x_13_c)] ∧
        (KeepsB S w12 w12 ∧ (sxStore w12 ⟨b, 0, none⟩ 0 [(.int .i64 bits), (.int .i64 (0 : Int)), (.slice none 0 0), (.int .i64 (0 : Int))] fun w13 =>
        (KeepsB S w12 w13 ∧ (sxStore w13 ⟨b1, 0, none⟩ 0 [(.int .i64 x_0), (.int .i64 x_1), (.int .i64 x_2), (.int .i64 x_3), (.int .i64 x_4), (.int .i64 x_5), (.int .i64 x_6), (.int .i64 x_7), (.int .i64 x_8), (.int .i64 x_9), (.int .i64 x_10), (.int .i64 x_11), (.bool x_12), (.slice x_13_a x_13_l x_13_c)] fun w14 =>
        (∃ r_05 r_16 : Int, ∃ r_2_a2 : Option Addr, ∃ r_2_l2 r_2_c2 : Nat, ∃ r_35 : Int, cellsAt w14 ⟨b, 0, none⟩ 0 [(.int .i64 r_05), (.int .i64 r_16), (.slice r_2_a2 r_2_l2 r_2_c2), (.int .i64 r_35)] ∧
        (∃ r_06 r_17 r_23 r_36 r_43 r_53 r_63 r_73 r_83 r_93 r_103 r_114 : Int, ∃ r_123 : Bool, ∃ r_13_a3 : Option Addr, ∃ r_13_l3 r_13_c3 : Nat, cellsAt w14 ⟨b1, 0, none⟩ 0 [(.int .i64 r_06), (.int .i64 r_17), (.int .i64 r_23), (.int .i64 r_36), (.int .i64 r_43), (.int .i64 r_53), (.int .i64 r_63), (.int .i64 r_73), (.int .i64 r_83), (.int .i64 r_93), (.int .i64 r_103), (.int .i64 r_114), (.bool r_123), (.slice r_13_a3 r_13_l3 r_13_c3)] ∧
        R (.tuple #[(.agg #[.int .i64 r_05, .int .i64 r_16, .slice r_2_a2 r_2_l2 r_2_c2, .int .i64 r_35]), (.agg #[.int .i64 r_06, .int .i64 r_17, .int .i64 r_23, .int .i64 r_36, .int .i64 r_43, .int .i64 r_53, .int .i64 r_63, .int .i64 r_73, .int .i64 r_83, .int .i64 r_93, .int .i64 r_103, .int .i64 r_114, .bool r_123, .slice r_13_a3 r_13_l3 r_13_c3]), (.int .i64 (0 : Int))]) w14)))))))))))))))))) ∧
  (Calls Try.prog N_unack_bitsValid #[(.int .i64 bits)] w2 fun e_ w3 =>
  ∃ r : Bool, e_ = .returned (.bool r) ∧
  (bsplit (!r)
    (J true w3)
    ((bsplit (decide (wait < (1 : Int)))
      (J true w3)
      (J (decide (wait > (1000 : Int))) w3))))))))
theorem F_unack_New_eq (bits : Int) (wait : Int) (w : World) (R : Value → World → Prop) : sxFn Try.prog TT h_unack_New Try.f8 #[(.int .i64 bits), (.int .i64 wait)] w R = F_unack_New bits wait w R := by kernel_rfl
theorem F_unack_New_ok {R : Ending → World → Prop} (bits : Int) (wait : Int) (w : World) (h : F_unack_New bits wait w fun v w' => R (.returned v) w') : Calls Try.prog N_unack_New #[(.int .i64 bits), (.int .i64 wait)] w R :=
  calls_of (f := 8) follows_ok Try.func8 (Eq.mpr (F_unack_New_eq bits wait w _) h)

def h_ref23_New : H := (.seq .reg (.seq .reg (.seq (.seq .reg (.cond (.seq .reg .leaf) .leaf)) (.seq (.draw .blk (.one 0 .pre (.one 2 .stable (.one 1 .keep (.one 3 .keep (.one 4 .keep (.one 5 .stable .nil))))))) .leaf))))
def F_ref23_New (n : Int) (wait : Int) (w : World) (R : Value → World → Prop) : Prop :=
  (kAlloc w #[.int .i64 (0 : Int), .int .i64 (0 : Int), .slice none 0 0, .int .i64 (0 : Int)] Ty_api_Cutter fun b w1 =>
  (kAlloc w1 #[.int .i64 (0 : Int), .int .i64 (0 : Int), .int .i64 (0 : Int), .int .i64 (0 : Int), .int .i64 (0 : Int), .int .i64 (0 : Int), .int .i64 (0 : Int), .int .i64 (0 : Int), .int .i64 (0 : Int), .int .i64 (0 : Int), .int .i64 (0 : Int), .int .i64 (0 : Int), .bool false, .slice none 0 0] Ty_api_Receiver fun b1 w2 =>
  (Calls Try.prog N_ref23_Link #[(.int .i64 n), (.int .i64 wait)] w2 fun e_ w3 =>
  ∃ r_0 r_1 r_2 r_3 r_4 r_5 : Int, e_ = .returned (.agg #[.int .i64 r_0, .int .i64 r_1, .int .i64 r_2, .int .i64 r_3, .int .i64 r_4, .int .i64 r_5]) ∧
  (Calls Try.prog N_ref21_New #[(.agg #[.int .i64 r_0, .int .i64 r_1, .int .i64 r_2, .int .i64 r_3, .int .i64 r_4, .int .i64 r_5])] w3 fun e_1 w4 =>
  ∃ r_01 r_11 r_21 r_31 r_41 r_51 r_6 r_7 r_8 r_9 r_10 r_111 : Int, ∃ r_12 : Bool, ∃ r_13_a : Option Addr, ∃ r_13_l r_13_c : Nat, ∃ r : Int, e_1 = .returned (.tuple #[(.agg #[.int .i64 r_01, .int .i64 r_11, .int .i64 r_21, .int .i64 r_31, .int .i64 r_41, .int .i64 r_51, .int .i64 r_6, .int .i64 r_7, .int .i64 r_8, .int .i64 r_9, .int .i64 r_10, .int .i64 r_111, .bool r_12, .slice r_13_a r_13_l r_13_c]), (.int .i64 r)]) ∧
  (kAlloc w4 #[.int .i64 (0 : Int), .int .i64 (0 : Int), .int .i64 (0 : Int), .int .i64 (0 : Int), .int .i64 (0 : Int), .int .i64 (0 : Int), .int .i64 (0 : Int), .int .i64 (0 : Int), .int .i64 (0 : Int), .int .i64 (0 : Int), .int .i64 (0 : Int), .int .i64 (0 : Int), .bool false, .slice none 0 0] Ty_api_Receiver fun b2 w5 =>
  (sxStore w5 ⟨b2, 0, none⟩ 0 [(.int .i64 r_01), (.int .i64 r_11), (.int .i64 r_21), (.int .i64 r_31), (.int .i64 r_41), (.int .i64 r_51), (.int .i64 r_6), (.int .i64 r_7), (.int .i64 r_8), (.int .i64 r_9), (.int .i64 r_10), (.int .i64 r_111), (.bool r_12), (.slice r_13_a r_13_l r_13_c)] fun w6 =>
  (bsplit (!decide (r = (0 : Int)))
    ((sxStore w6 ⟨b, 0, none⟩ 0 [(.int .i64 (0 : Int)), (.int .i64 (0 : Int)), (.slice none 0 0), (.int .i64 (0 : Int))] fun w7 =>
    (sxStore w7 ⟨b1, 0, none⟩ 0 [(.int .i64 (0 : Int)), (.int .i64 (0 : Int)), (.int .i64 (0 : Int)), (.int .i64 (0 : Int)), (.int .i64 (0 : Int)), (.int .i64 (0 : Int)), (.int .i64 (0 : Int)), (.int .i64 (0 : Int)), (.int .i64 (0 : Int)), (.int .i64 (0 : Int)), (.int .i64 (0 : Int)), (.int .i64 (0 : Int)), (.bool false), (.slice none 0 0)] fun w8 =>
    (∃ r_02 r_13 : Int, ∃ r_2_a : Option Addr, ∃ r_2_l r_2_c : Nat, ∃ r_32 : Int, cellsAt w8 ⟨b, 0, none⟩ 0 [(.int .i64 r_02), (.int .i64 r_13), (.slice r_2_a r_2_l r_2_c), (.int .i64 r_32)] ∧
    (∃ r_03 r_14 r_22 r_33 r_42 r_52 r_61 r_71 r_81 r_91 r_101 r_112 : Int, ∃ r_121 : Bool, ∃ r_13_a1 : Option Addr, ∃ r_13_l1 r_13_c1 : Nat, cellsAt w8 ⟨b1, 0, none⟩ 0 [(.int .i64 r_03), (.int .i64 r_14), (.int .i64 r_22), (.int .i64 r_33), (.int .i64 r_42), (.int .i64 r_52), (.int .i64 r_61), (.int .i64 r_71), (.int .i64 r_81), (.int .i64 r_91), (.int .i64 r_101), (.int .i64 r_112), (.bool r_121), (.slice r_13_a1 r_13_l1 r_13_c1)] ∧
    R (.tuple #[(.agg #[.int .i64 r_02, .int .i64 r_13, .slice r_2_a r_2_l r_2_c, .int .i64 r_32]), (.agg #[.int .i64 r_03, .int .i64 r_14, .int .i64 r_22, .int .i64 r_33, .int .i64 r_42, .int .i64 r_52, .int .i64 r_61, .int .i64 r_71, .int .i64 r_81, .int .i64 r_91, .int .i64 r_101, .int .i64 r_112, .bool r_121, .slice r_13_a1 r_13_l1 r_13_c1]), (.int .i64 (3 : Int))]) w8)))))
    ((kDrew w6 fun w9 =>
    (∃ S : Nat → Prop,
    (S b2 ∧
    (∃ x_0 x_1 x_2 x_3 x_4 x_5 x_6 x_7 x_8 x_9 x_10 x_11 : Int, ∃ x_12 : Bool, ∃ x_13_a : Option Addr, ∃ x_13_l x_13_c : Nat, cellsAt w9 ⟨b2, 0, none⟩ 0 [(.int .i64 x_0), (.int .i64 x_1), (.int .i64 x_2), (.int .i64 x_3), (.int .i64 x_4), (.int .i64 x_5), (.int .i64 x_6), (.int .i64 x_7), (.int .i64 x_8), (.int .i64 x_9), (.int .i64 x_10), (.int .i64 x_11), (.bool x_12), (.slice x_13_a x_13_l x_13_c)] ∧
    (KeepsB S w9 w9 ∧ (sxStore w9 ⟨b, 0, none⟩ 0 [(.int .i64 n), (.int .i64 (0 : Int)), (.slice none 0 0), (.int .i64 (0 : Int))] fun w10 =>
    (KeepsB S w9 w10 ∧ (sxStore w10 ⟨b1, 0, none⟩ 0 [(.int .i64 x_0), (.int .i64 x_1), (.int .i64 x_2), (.int .i64 x_3), (.int .i64 x_4), (.int .i64 x_5), (.int .i64 x_6), (.int .i64 x_7), (.int .i64 x_8), (.int .i64 x_9), (.int .i64 x_10), (.int .i64 x_11), (.bool x_12), (.slice x_13_a x_13_l x_13_c)] fun w11 =>
    (KeepsB S w9 w11 ∧ (∃ r_04 r_15 : Int, ∃ r_2_a1 : Option Addr, ∃ r_2_l1 r_2_c1 : Nat, ∃ r_34 : Int, cellsAt w11 ⟨b, 0, none⟩ 0 [(.int .i64 r_04), (.int .i64 r_15), (.slice r_2_a1 r_2_l1 r_2_c1), (.int .i64 r_34)] ∧
    (∃ r_05 r_16 r_23 r_35 r_43 r_53 r_62 r_72 r_82 r_92 r_102 r_113 : Int, ∃ r_122 : Bool, ∃ r_13_a2 : Option Addr, ∃ r_13_l2 r_13_c2 : Nat, cellsAt w11 ⟨b1, 0, none⟩ 0 [(.int .i64 r_05), (.int .i64 r_16), (.int .i64 r_23), (.int .i64 r_35), (.int .i64 r_43), (.int .i64 r_53), (.int .i64 r_62), (.int .i64 r_72), (.int .i64 r_82), (.int .i64 r_92), (.int .i64 r_102), (.int .i64 r_113), (.bool r_122), (.slice r_13_a2 r_13_l2 r_13_c2)] ∧
    R (.tuple #[(.agg #[.int .i64 r_04, .int .i64 r_15, .slice r_2_a1 r_2_l1 r_2_c1, .int .i64 r_34]), (.agg #[.int .i64 r_05, .int .i64 r_16, .int .i64 r_23, .int .i64 r_35, .int .i64 r_43, .int .i64 r_53, .int .i64 r_62, .int .i64 r_72, .int .i64 r_82, .int .i64 r_92, .int .i64 r_102, .int .i64 r_113, .bool r_122, .slice r_13_a2 r_13_l2 r_13_c2]), (.int .i64 (0 : Int))]) w11)))))))))))))))))))
theorem F_ref23_New_eq (n : Int) (wait : Int) (w : World) (R : Value → World → Prop) : sxFn Try.prog TT h_ref23_New Try.f9 #[(.int .i64 n), (.int .i64 wait)] w R = F_ref23_New n wait w R := by kernel_rfl
theorem F_ref23_New_ok {R : Ending → World → Prop} (n : Int) (wait : Int) (w : World) (h : F_ref23_New n wait w fun v w' => R (.returned v) w') : Calls Try.prog N_ref23_New #[(.int .i64 n), (.int .i64 wait)] w R :=
  calls_of (f := 9) follows_ok Try.func9 (Eq.mpr (F_ref23_New_eq n wait w _) h)

def h_law23_agree : H := (.seq .reg (.seq .reg (.seq .reg (.seq .reg (.seq .reg (.seq (.draw .blk (.one 0 .pur (.one 1 .pur (.one 2 .pur (.one 3 .pur (.one 4 .pur (.one 5 .pur (.one 6 .pur (.one 7 .pur (.one 8 .pur (.one 9 .pre (.one 10 .pre (.one 11 .keep (.one 12 .pur (.one 13 .pur (.one 14 .stable (.one 15 .stable (.one 16 .keep (.one 17 .pur (.one 18 .pur (.one 19 .pur (.one 20 .pur (.one 21 .keep (.one 22 .pur (.one 23 .pur (.one 24 .stable (.one 26 .stable (.one 25 .keep (.one 27 .keep (.one 28 .pur (.one 29 .pur (.one 30 .pur (.one 31 .stable (.one 33 .stable (.one 32 .keep (.one 34 .last (.one 35 .pur (.one 36 .pur (.one 37 .pur .nil))))))))))))))))))))))))))))))))))))))) .leaf))))))
def F_law23_agree (c_0 : Int) (c_1 : Int) (c_2_a : Option Addr) (c_2_l : Nat) (c_2_c : Nat) (c_3 : Int) (data_a : Option Addr) (data_l : Nat) (data_c : Nat) (size : Int) (w : World) (R : Value → World → Prop) : Prop :=
  (kAlloc w #[(.int .i64 c_0), (.int .i64 c_1), (.slice c_2_a c_2_l c_2_c), (.int .i64 c_3)] Ty_api_Cutter fun b w1 =>
  (∃ x_0 x_1 : Int, ∃ x_2_a : Option Addr, ∃ x_2_l x_2_c : Nat, ∃ x_3 : Int, cellsAt w1 ⟨b, 0, none⟩ 0 [(.int .i64 x_0), (.int .i64 x_1), (.slice x_2_a x_2_l x_2_c), (.int .i64 x_3)] ∧
  (Calls Try.prog N_unack_Submit #[(.agg #[.int .i64 x_0, .int .i64 x_1, .slice x_2_a x_2_l x_2_c, .int .i64 x_3]), (.slice data_a data_l data_c)] w1 fun e_ w2 =>
  ∃ r_0 r_1 : Int, ∃ r_2_a : Option Addr, ∃ r_2_l r_2_c : Nat, ∃ r_3 r : Int, e_ = .returned (.tuple #[(.agg #[.int .i64 r_0, .int .i64 r_1, .slice r_2_a r_2_l r_2_c, .int .i64 r_3]), (.int .i64 r)]) ∧
  (kAlloc w2 #[.int .i64 (0 : Int), .int .i64 (0 : Int), .slice none 0 0, .int .i64 (0 : Int)] Ty_api_Cutter fun b1 w3 =>
  (sxStore w3 ⟨b1, 0, none⟩ 0 [(.int .i64 r_0), (.int .i64 r_1), (.slice r_2_a r_2_l r_2_c), (.int .i64 r_3)] fun w4 =>
  (∃ x_01 x_11 : Int, ∃ x_2_a1 : Option Addr, ∃ x_2_l1 x_2_c1 : Nat, ∃ x_31 : Int, cellsAt w4 ⟨b, 0, none⟩ 0 [(.int .i64 x_01), (.int .i64 x_11), (.slice x_2_a1 x_2_l1 x_2_c1), (.int .i64 x_31)] ∧
  (Calls Try.prog N_ref23_Submit #[(.agg #[.int .i64 x_01, .int .i64 x_11, .slice x_2_a1 x_2_l1 x_2_c1, .int .i64 x_31]), (.slice data_a data_l data_c)] w4 fun e_1 w5 =>
  ∃ r_01 r_11 : Int, ∃ r_2_a1 : Option Addr, ∃ r_2_l1 r_2_c1 : Nat, ∃ r_31 r1 : Int, e_1 = .returned (.tuple #[(.agg #[.int .i64 r_01, .int .i64 r_11, .slice r_2_a1 r_2_l1 r_2_c1, .int .i64 r_31]), (.int .i64 r1)]) ∧
  (kAlloc w5 #[.int .i64 (0 : Int), .int .i64 (0 : Int), .slice none 0 0, .int .i64 (0 : Int)] Ty_api_Cutter fun b2 w6 =>
  (sxStore w6 ⟨b2, 0, none⟩ 0 [(.int .i64 r_01), (.int .i64 r_11), (.slice r_2_a1 r_2_l1 r_2_c1), (.int .i64 r_31)] fun w7 =>
  (∃ x_02 x_12 : Int, ∃ x_2_a2 : Option Addr, ∃ x_2_l2 x_2_c2 : Nat, ∃ x_32 : Int, cellsAt w7 ⟨b, 0, none⟩ 0 [(.int .i64 x_02), (.int .i64 x_12), (.slice x_2_a2 x_2_l2 x_2_c2), (.int .i64 x_32)] ∧
  (Calls Try.prog N_unack_Build #[(.agg #[.int .i64 x_02, .int .i64 x_12, .slice x_2_a2 x_2_l2 x_2_c2, .int .i64 x_32]), (.int .i64 size)] w7 fun e_2 w8 =>
  ∃ r_02 r_12 : Int, ∃ r_2_a2 : Option Addr, ∃ r_2_l2 r_2_c2 : Nat, ∃ r_32 : Int, ∃ r_a : Option Addr, ∃ r_l r_c : Nat, ∃ r2 : Int, e_2 = .returned (.tuple #[(.agg #[.int .i64 r_02, .int .i64 r_12, .slice r_2_a2 r_2_l2 r_2_c2, .int .i64 r_32]), (.slice r_a r_l r_c), (.int .i64 r2)]) ∧
  (kAlloc w8 #[.int .i64 (0 : Int), .int .i64 (0 : Int), .slice none 0 0, .int .i64 (0 : Int)] Ty_api_Cutter fun b3 w9 =>
  (sxStore w9 ⟨b3, 0, none⟩ 0 [(.int .i64 r_02), (.int .i64 r_12), (.slice r_2_a2 r_2_l2 r_2_c2), (.int .i64 r_32)] fun w10 =>
  (∃ x_03 x_13 : Int, ∃ x_2_a3 : Option Addr, ∃ x_2_l3 x_2_c3 : Nat, ∃ x_33 : Int, cellsAt w10 ⟨b, 0, none⟩ 0 [(.int .i64 x_03), (.int .i64 x_13), (.slice x_2_a3 x_2_l3 x_2_c3), (.int .i64 x_33)] ∧
  (Calls Try.prog N_ref23_Build #[(.agg #[.int .i64 x_03, .int .i64 x_13, .slice x_2_a3 x_2_l3 x_2_c3, .int .i64 x_33]), (.int .i64 size)] w10 fun e_3 w11 =>
  ∃ r_03 r_13 : Int, ∃ r_2_a3 : Option Addr, ∃ r_2_l3 r_2_c3 : Nat, ∃ r_33 : Int, ∃ r_a1 : Option Addr, ∃ r_l1 r_c1 : Nat, ∃ r3 : Int, e_3 = .returned (.tuple #[(.agg #[.int .i64 r_03, .int .i64 r_13, .slice r_2_a3 r_2_l3 r_2_c3, .int .i64 r_33]), (.slice r_a1 r_l1 r_c1), (.int .i64 r3)]) ∧
  (kAlloc w11 #[.int .i64 (0 : Int), .int .i64 (0 : Int), .slice none 0 0, .int .i64 (0 : Int)] Ty_api_Cutter fun b4 w12 =>
  (sxStore w12 ⟨b4, 0, none⟩ 0 [(.int .i64 r_03), (.int .i64 r_13), (.slice r_2_a3 r_2_l3 r_2_c3), (.int .i64 r_33)] fun w13 =>
  (kDrew w13 fun w14 =>
  (∃ S : Nat → Prop,
  (bsplit (decide (r = r1))
    ((bsplit (decide (r2 = r3))
      ((∃ x_04 x_14 : Int, ∃ x_2_a4 : Option Addr, ∃ x_2_l4 x_2_c4 : Nat, ∃ x_34 : Int, cellsAt w14 ⟨b1, 0, none⟩ 0 [(.int .i64 x_04), (.int .i64 x_14), (.slice x_2_a4 x_2_l4 x_2_c4), (.int .i64 x_34)] ∧
      (∃ x_05 x_15 : Int, ∃ x_2_a5 : Option Addr, ∃ x_2_l5 x_2_c5 : Nat, ∃ x_35 : Int, cellsAt w14 ⟨b2, 0, none⟩ 0 [(.int .i64 x_05), (.int .i64 x_15), (.slice x_2_a5 x_2_l5 x_2_c5), (.int .i64 x_35)] ∧
      (Calls Try.prog N_law23_same #[(.agg #[.int .i64 x_04, .int .i64 x_14, .slice x_2_a4 x_2_l4 x_2_c4, .int .i64 x_34]), (.agg #[.int .i64 x_05, .int .i64 x_15, .slice x_2_a5 x_2_l5 x_2_c5, .int .i64 x_35])] w14 fun e_4 w15 =>
      ∃ r4 : Bool, e_4 = .returned (.bool r4) ∧
      (KeepsB S w14 w15 ∧ (bsplit r4
        ((S b3 ∧
        (∃ x_06 x_16 : Int, ∃ x_2_a6 : Option Addr, ∃ x_2_l6 x_2_c6 : Nat, ∃ x_36 : Int, cellsAt w14 ⟨b3, 0, none⟩ 0 [(.int .i64 x_06), (.int .i64 x_16), (.slice x_2_a6 x_2_l6 x_2_c6), (.int .i64 x_36)] ∧
        (S b4 ∧
        (∃ x_07 x_17 : Int, ∃ x_2_a7 : Option Addr, ∃ x_2_l7 x_2_c7 : Nat, ∃ x_37 : Int, cellsAt w14 ⟨b4, 0, none⟩ 0 [(.int .i64 x_07), (.int .i64 x_17), (.slice x_2_a7 x_2_l7 x_2_c7), (.int .i64 x_37)] ∧
        (Calls Try.prog N_law23_same #[(.agg #[.int .i64 x_06, .int .i64 x_16, .slice x_2_a6 x_2_l6 x_2_c6, .int .i64 x_36]), (.agg #[.int .i64 x_07, .int .i64 x_17, .slice x_2_a7 x_2_l7 x_2_c7, .int .i64 x_37])] w15 fun e_5 w16 =>
        ∃ r5 : Bool, e_5 = .returned (.bool r5) ∧
        (KeepsB S w14 w16 ∧ (bsplit r5
          ((Calls Try.prog N_roll_Same #[(.slice r_a r_l r_c), (.slice r_a1 r_l1 r_c1)] w16 fun e_6 w17 =>
          ∃ r6 : Bool, e_6 = .returned (.bool r6) ∧
          (KeepsB S w14 w17 ∧ (bsplit r6
            ((S b ∧
            (∃ x_08 x_18 : Int, ∃ x_2_a8 : Option Addr, ∃ x_2_l8 x_2_c8 : Nat, ∃ x_38 : Int, cellsAt w14 ⟨b, 0, none⟩ 0 [(.int .i64 x_08), (.int .i64 x_18), (.slice x_2_a8 x_2_l8 x_2_c8), (.int .i64 x_38)] ∧
            (S b ∧
            (∃ x_09 x_19 : Int, ∃ x_2_a9 : Option Addr, ∃ x_2_l9 x_2_c9 : Nat, ∃ x_39 : Int, cellsAt w14 ⟨b, 0, none⟩ 0 [(.int .i64 x_09), (.int .i64 x_19), (.slice x_2_a9 x_2_l9 x_2_c9), (.int .i64 x_39)] ∧
            (Calls Try.prog N_unack_Valid #[(.agg #[.int .i64 x_08, .int .i64 x_18, .slice x_2_a8 x_2_l8 x_2_c8, .int .i64 x_38])] w17 fun e_7 w18 =>
            ∃ r7 : Bool, e_7 = .returned (.bool r7) ∧
            (KeepsB S w14 w18 ∧ (Calls Try.prog N_ref23_Valid #[(.agg #[.int .i64 x_09, .int .i64 x_19, .slice x_2_a9 x_2_l9 x_2_c9, .int .i64 x_39])] w18 fun e_8 w19 =>
            ∃ r8 : Bool, e_8 = .returned (.bool r8) ∧
            (KeepsB S w14 w19 ∧ (bsplit (r7 == r8)
              ((S b ∧
              (∃ x_010 x_110 : Int, ∃ x_2_a10 : Option Addr, ∃ x_2_l10 x_2_c10 : Nat, ∃ x_310 : Int, cellsAt w14 ⟨b, 0, none⟩ 0 [(.int .i64 x_010), (.int .i64 x_110), (.slice x_2_a10 x_2_l10 x_2_c10), (.int .i64 x_310)] ∧
              (S b ∧
              (∃ x_011 x_111 : Int, ∃ x_2_a11 : Option Addr, ∃ x_2_l11 x_2_c11 : Nat, ∃ x_311 : Int, cellsAt w14 ⟨b, 0, none⟩ 0 [(.int .i64 x_011), (.int .i64 x_111), (.slice x_2_a11 x_2_l11 x_2_c11), (.int .i64 x_311)] ∧
              (Calls Try.prog N_unack_Waiting #[(.agg #[.int .i64 x_010, .int .i64 x_110, .slice x_2_a10 x_2_l10 x_2_c10, .int .i64 x_310])] w19 fun e_9 w20 =>
              ∃ r9 : Int, e_9 = .returned (.int .i64 r9) ∧
              (KeepsB S w14 w20 ∧ (Calls Try.prog N_ref23_Waiting #[(.agg #[.int .i64 x_011, .int .i64 x_111, .slice x_2_a11 x_2_l11 x_2_c11, .int .i64 x_311])] w20 fun e_10 w21 =>
              ∃ r10 : Int, e_10 = .returned (.int .i64 r10) ∧
              (kLet (decide (r9 = r10)) fun x =>
              R (.bool x) w21)))))))))
              (R (.bool false) w19)))))))))))
            (R (.bool false) w17)))))
          (R (.bool false) w16)))))))))
        (R (.bool false) w15)))))))
      (R (.bool false) w14)))
    (R (.bool false) w14)))))))))))))))))))))
theorem F_law23_agree_eq (c_0 : Int) (c_1 : Int) (c_2_a : Option Addr) (c_2_l : Nat) (c_2_c : Nat) (c_3 : Int) (data_a : Option Addr) (data_l : Nat) (data_c : Nat) (size : Int) (w : World) (R : Value → World → Prop) : sxFn Try.prog TT h_law23_agree Try.f10 #[(.agg #[.int .i64 c_0, .int .i64 c_1, .slice c_2_a c_2_l c_2_c, .int .i64 c_3]), (.slice data_a data_l data_c), (.int .i64 size)] w R = F_law23_agree c_0 c_1 c_2_a c_2_l c_2_c c_3 data_a data_l data_c size w R := by kernel_rfl
theorem F_law23_agree_ok {R : Ending → World → Prop} (c_0 : Int) (c_1 : Int) (c_2_a : Option Addr) (c_2_l : Nat) (c_2_c : Nat) (c_3 : Int) (data_a : Option Addr) (data_l : Nat) (data_c : Nat) (size : Int) (w : World) (h : F_law23_agree c_0 c_1 c_2_a c_2_l c_2_c c_3 data_a data_l data_c size w fun v w' => R (.returned v) w') : Calls Try.prog N_law23_agree #[(.agg #[.int .i64 c_0, .int .i64 c_1, .slice c_2_a c_2_l c_2_c, .int .i64 c_3]), (.slice data_a data_l data_c), (.int .i64 size)] w R :=
  calls_of (f := 10) follows_ok Try.func10 (Eq.mpr (F_law23_agree_eq c_0 c_1 c_2_a c_2_l c_2_c c_3 data_a data_l data_c size w _) h)

def h_law23_same : H := (.seq .reg (.seq .reg .leaf))
def F_law23_same (a_0 : Int) (a_1 : Int) (a_2_a : Option Addr) (a_2_l : Nat) (a_2_c : Nat) (a_3 : Int) (b_0 : Int) (b_1 : Int) (b_2_a : Option Addr) (b_2_l : Nat) (b_2_c : Nat) (b_3 : Int) (w : World) (R : Value → World → Prop) : Prop :=
  (kAlloc w #[(.int .i64 a_0), (.int .i64 a_1), (.slice a_2_a a_2_l a_2_c), (.int .i64 a_3)] Ty_api_Cutter fun b w1 =>
  (kAlloc w1 #[(.int .i64 b_0), (.int .i64 b_1), (.slice b_2_a b_2_l b_2_c), (.int .i64 b_3)] Ty_api_Cutter fun b1 w2 =>
  (kLd w2 ⟨b, 0, none⟩ .i64 fun x =>
  (kLd w2 ⟨b1, 0, none⟩ .i64 fun x1 =>
  (bsplit (decide (x = x1))
    ((kLd w2 ⟨b, 1, none⟩ .i64 fun x2 =>
    (kLd w2 ⟨b1, 1, none⟩ .i64 fun x3 =>
    (bsplit (decide (x2 = x3))
      ((kLd w2 ⟨b, 3, none⟩ .i64 fun x4 =>
      (kLd w2 ⟨b1, 3, none⟩ .i64 fun x5 =>
      (bsplit (decide (x4 = x5))
        ((kLdS w2 ⟨b, 2, none⟩ fun x_a x_l x_c =>
        (kLdS w2 ⟨b1, 2, none⟩ fun x_a1 x_l1 x_c1 =>
        (Calls Try.prog N_roll_SameAll #[(.slice x_a x_l x_c), (.slice x_a1 x_l1 x_c1)] w2 fun e_ w3 =>
        ∃ r : Bool, e_ = .returned (.bool r) ∧
        R (.bool r) w3))))
        (R (.bool false) w2)))))
      (R (.bool false) w2)))))
    (R (.bool false) w2))))))
theorem F_law23_same_eq (a_0 : Int) (a_1 : Int) (a_2_a : Option Addr) (a_2_l : Nat) (a_2_c : Nat) (a_3 : Int) (b_0 : Int) (b_1 : Int) (b_2_a : Option Addr) (b_2_l : Nat) (b_2_c : Nat) (b_3 : Int) (w : World) (R : Value → World → Prop) : sxFn Try.prog TT h_law23_same Try.f11 #[(.agg #[.int .i64 a_0, .int .i64 a_1, .slice a_2_a a_2_l a_2_c, .int .i64 a_3]), (.agg #[.int .i64 b_0, .int .i64 b_1, .slice b_2_a b_2_l b_2_c, .int .i64 b_3])] w R = F_law23_same a_0 a_1 a_2_a a_2_l a_2_c a_3 b_0 b_1 b_2_a b_2_l b_2_c b_3 w R := by kernel_rfl
theorem F_law23_same_ok {R : Ending → World → Prop} (a_0 : Int) (a_1 : Int) (a_2_a : Option Addr) (a_2_l : Nat) (a_2_c : Nat) (a_3 : Int) (b_0 : Int) (b_1 : Int) (b_2_a : Option Addr) (b_2_l : Nat) (b_2_c : Nat) (b_3 : Int) (w : World) (h : F_law23_same a_0 a_1 a_2_a a_2_l a_2_c a_3 b_0 b_1 b_2_a b_2_l b_2_c b_3 w fun v w' => R (.returned v) w') : Calls Try.prog N_law23_same #[(.agg #[.int .i64 a_0, .int .i64 a_1, .slice a_2_a a_2_l a_2_c, .int .i64 a_3]), (.agg #[.int .i64 b_0, .int .i64 b_1, .slice b_2_a b_2_l b_2_c, .int .i64 b_3])] w R :=
  calls_of (f := 11) follows_ok Try.func11 (Eq.mpr (F_law23_same_eq a_0 a_1 a_2_a a_2_l a_2_c a_3 b_0 b_1 b_2_a b_2_l b_2_c b_3 w _) h)

def h_ref21_Same : H := (.seq .reg (.seq (.cut [(70, .p .bool)] [8, 9, 10, 11, 12, 13, 14, 15, 16, 17, 18, 19, 20, 21, 22, 23, 24, 25, 26, 27, 28, 29, 30, 31, 32, 33, 34, 35, 36, 37, 38, 39, 40, 41, 42, 43, 44, 45, 46, 47, 48, 49, 50, 51, 52, 53, 54, 55, 56, 57, 58, 59, 60, 61, 62, 63, 64, 65, 66, 67, 68, 69, 70] .reg (.cond (.seq .reg .leaf) .leaf)) (.seq (.seq .reg (.block (.loop [(5, .p (.int .i64))] [4, 5, 6, 7, 71, 72, 73, 74, 75, 76, 77, 78, 79, 80, 81, 82, 83, 84, 85, 86, 87, 88, 89, 90, 91, 92, 93, 94, 95, 96, 97, 98, 99, 100, 101, 102, 103, 104, 105, 106, 107, 108, 109, 110, 111, 112, 113, 114, 115, 116, 117, 118, 119, 120, 121, 122] (.seq (.seq .reg (.cond .leaf .leaf)) (.seq (.block (.cut [(6, .p .addr), (7, .p .addr)] [6, 7, 78, 79, 80, 81, 82, 83, 84, 85, 86, 87] (.draw .blk (.one 0 .stable (.one 1 .stable (.one 2 .stable (.one 3 .stable (.one 4 .stable (.one 5 .stable (.one 6 .stable (.one 7 .stable (.one 8 .stable (.one 9 .stable (.alt 10 (.one 11 .keep (.one 12 .keep (.one 13 .last .nil))) (.alt 11 (.one 10 .keep (.one 12 .keep (.one 13 .last .nil))) .endAlt))))))))))))) (.cut [(122, .p .bool)] [88, 89, 90, 91, 92, 93, 94, 95, 96, 97, 98, 99, 100, 101, 102, 103, 104, 105, 106, 107, 108, 109, 110, 111, 112, 113, 114, 115, 116, 117, 118, 119, 120, 121, 122] .reg (.cond (.seq .reg .leaf) .leaf)))) .reg))))) (.seq .reg .leaf))))
def F_ref21_Same (a_0 : Int) (a_1 : Int) (a_2 : Int) (a_3 : Int) (a_4 : Int) (a_5 : Int) (a_6 : Int) (a_7 : Int) (a_8 : Int) (a_9 : Int) (a_10 : Int) (a_11 : Int) (a_12 : Bool) (a_13_a : Option Addr) (a_13_l : Nat) (a_13_c : Nat) (b_0 : Int) (b_1 : Int) (b_2 : Int) (b_3 : Int) (b_4 : Int) (b_5 : Int) (b_6 : Int) (b_7 : Int) (b_8 : Int) (b_9 : Int) (b_10 : Int) (b_11 : Int) (b_12 : Bool) (b_13_a : Option Addr) (b_13_l : Nat) (b_13_c : Nat) (w : World) (R : Value → World → Prop) : Prop :=
  (kAlloc w #[(.int .i64 a_0), (.int .i64 a_1), (.int .i64 a_2), (.int .i64 a_3), (.int .i64 a_4), (.int .i64 a_5), (.int .i64 a_6), (.int .i64 a_7), (.int .i64 a_8), (.int .i64 a_9), (.int .i64 a_10), (.int .i64 a_11), (.bool a_12), (.slice a_13_a a_13_l a_13_c)] Ty_api_Receiver fun b w1 =>
  (kAlloc w1 #[(.int .i64 b_0), (.int .i64 b_1), (.int .i64 b_2), (.int .i64 b_3), (.int .i64 b_4), (.int .i64 b_5), (.int .i64 b_6), (.int .i64 b_7), (.int .i64 b_8), (.int .i64 b_9), (.int .i64 b_10), (.int .i64 b_11), (.bool b_12), (.slice b_13_a b_13_l b_13_c)] Ty_api_Receiver fun b1 w2 =>
  (∃ J : Bool → World → Prop,
  (∀ (_junk : Env) (x14 : Bool) (w3 : World), J x14 w3 →
    (bsplit x14
      (R (.bool false) w3)
      ((∃ I : Int → Nat × (World → Prop), (I (0 : Int)).2 w3 ∧
      (∀ (_junk : Env) (i : Int) (w4 : World), (I i).2 w4 →
        (kLdS w4 ⟨b, 13, none⟩ fun _ x_l2 _ =>
        (bsplit (decide (i < (x_l2 : Int)))
          ((∃ J1 : Addr → Addr → World → Prop,
          (∀ (_junk : Env) (x15 : Addr) (y : Addr) (w14 : World), J1 x15 y w14 →
            (∃ J2 : Bool → World → Prop,
            (∀ (_junk : Env) (x22 : Bool) (w17 : World), J2 x22 w17 →
              (bsplit x22
                (R (.bool false) w17)
                ((kW .i64 (i + (1 : Int)) fun x23 =>
                ((I x23).2 w17 ∧ (I x23).1 < (I i).1))))) ∧
            (kLd w14 x15 .i64 fun x16 =>
            (kLd w14 y .i64 fun x17 =>
            (bsplit (!decide (x16 = x17))
              (J2 true w14)
              ((kLdB w14 (x15.add 1) fun x18 =>
              (kLdB w14 (y.add 1) fun x19 =>
              (bsplit (!(x18 == x19))
                (J2 true w14)
                ((kLd w14 (x15.add 2) .i64 fun x20 =>
                (kLd w14 (y.add 2) .i64 fun x21 =>
                (bsplit (!decide (x20 = x21))
                  (J2 true w14)
                  ((kLdS w14 (x15.add 3) fun x_a5 x_l5 x_c5 =>
                  (kLdS w14 (y.add 3) fun x_a6 x_l6 x_c6 =>
                  (Calls Try.prog N_ref01_Same #[(.slice x_a5 x_l5 x_c5), (.slice x_a6 x_l6 x_c6)] w14 fun e_ w15 =>
                  ∃ r1 : Bool, e_ = .returned (.bool r1) ∧
                  (bsplit (!r1)
                    (J2 true w15)
                    ((kLdS w15 (x15.add 4) fun x_a7 x_l7 x_c7 =>
                    (kLdS w15 (y.add 4) fun x_a8 x_l8 x_c8 =>
                    (Calls Try.prog N_ref18_SameRanges #[(.slice x_a7 x_l7 x_c7), (.slice x_a8 x_l8 x_c8)] w15 fun e_1 w16 =>
                    ∃ r2 : Bool, e_1 = .returned (.bool r2) ∧
                    J2 (!r2) w16)))))))))))))))))))))) ∧
          (kDrew w4 fun w5 =>
          (∃ S : Nat → Prop,
          (S b ∧
          (kLdS w5 ⟨b, 13, none⟩ fun x_a3 x_l3 _ =>
          (kIx x_a3 x_l3 i fun b2 =>
          (S (b2.add (i.toNat * 5)).block ∧
          (∃ x_02 : Int, ∃ x_12 : Bool, ∃ x_22 : Int, ∃ x_3_a : Option Addr, ∃ x_3_l x_3_c : Nat, ∃ x_4_a : Option Addr, ∃ x_4_l x_4_c : Nat, cellsAt w5 (b2.add (i.toNat * 5)) 0 [(.int .i64 x_02), (.bool x_12), (.int .i64 x_22), (.slice x_3_a x_3_l x_3_c), (.slice x_4_a x_4_l x_4_c)] ∧
          (S b1 ∧
          (kLdS w5 ⟨b1, 13, none⟩ fun x_a4 x_l4 _ =>
          (kIx x_a4 x_l4 i fun b3 =>
          (S (b3.add (i.toNat * 5)).block ∧
          (∃ x_03 : Int, ∃ x_13 : Bool, ∃ x_23 : Int, ∃ x_3_a1 : Option Addr, ∃ x_3_l1 x_3_c1 : Nat, ∃ x_4_a1 : Option Addr, ∃ x_4_l1 x_4_c1 : Nat, cellsAt w5 (b3.add (i.toNat * 5)) 0 [(.int .i64 x_03), (.bool x_13), (.int .i64 x_23), (.slice x_3_a1 x_3_l1 x_3_c1), (.slice x_4_a1 x_4_l1 x_4_c1)] ∧
          ((kAlloc w5 #[.int .i64 (0 : Int), .bool false, .int .i64 (0 : Int), .slice none 0 0, .slice none 0 0] Ty_api_Partial fun b6 w10 =>
          (KeepsB S w5 w10 ∧ (kAlloc w10 #[.int .i64 (0 : Int), .bool false, .int .i64 (0 : Int), .slice none 0 0, .slice none 0 0] Ty_api_Partial fun b7 w11 =>
          (KeepsB S w5 w11 ∧ (sxStore w11 ⟨b6, 0, none⟩ 0 [(.int .i64 x_02), (.bool x_12), (.int .i64 x_22), (.slice x_3_a x_3_l x_3_c), (.slice x_4_a x_4_l x_4_c)] fun w12 =>
          (KeepsB S w5 w12 ∧ (sxStore w12 ⟨b7, 0, none⟩ 0 [(.int .i64 x_03), (.bool x_13), (.int .i64 x_23), (.slice x_3_a1 x_3_l1 x_3_c1), (.slice x_4_a1 x_4_l1 x_4_c1)] fun w13 =>
          J1 ⟨b6, 0, none⟩ ⟨b7, 0, none⟩ w13))))))) ∧
          ((kAlloc w5 #[.int .i64 (0 : Int), .bool false, .int .i64 (0 : Int), .slice none 0 0, .slice none 0 0] Ty_api_Partial fun b4 w6 =>
          (KeepsB S w5 w6 ∧ (kAlloc w6 #[.int .i64 (0 : Int), .bool false, .int .i64 (0 : Int), .slice none 0 0, .slice none 0 0] Ty_api_Partial fun b5 w7 =>
          (KeepsB S w5 w7 ∧ (sxStore w7 ⟨b5, 0, none⟩ 0 [(.int .i64 x_02), (.bool x_12), (.int .i64 x_22), (.slice x_3_a x_3_l x_3_c), (.slice x_4_a x_4_l x_4_c)] fun w8 =>
          (KeepsB S w5 w8 ∧ (sxStore w8 ⟨b4, 0, none⟩ 0 [(.int .i64 x_03), (.bool x_13), (.int .i64 x_23), (.slice x_3_a1 x_3_l1 x_3_c1), (.slice x_4_a1 x_4_l1 x_4_c1)] fun w9 =>
          J1 ⟨b5, 0, none⟩ ⟨b4, 0, none⟩ w9))))))) ∧
          True))))))))))))))))
          (R (.bool true) w4)))))))) ∧
  (∃ x_0 x_1 x_2 x_3 x_4 x_5 : Int, cellsAt w2 ⟨b, 0, none⟩ 0 [(.int .i64 x_0), (.int .i64 x_1), (.int .i64 x_2), (.int .i64 x_3), (.int .i64 x_4), (.int .i64 x_5)] ∧
  (∃ x_01 x_11 x_21 x_31 x_41 x_51 : Int, cellsAt w2 ⟨b1, 0, none⟩ 0 [(.int .i64 x_01), (.int .i64 x_11), (.int .i64 x_21), (.int .i64 x_31), (.int .i64 x_41), (.int .i64 x_51)] ∧
  (EqP Try.prog .neq Ty_api_Link (.tmp 9) (.tmp 11) (.agg #[.int .i64 x_0, .int .i64 x_1, .int .i64 x_2, .int .i64 x_3, .int .i64 x_4, .int .i64 x_5]) (.agg #[.int .i64 x_01, .int .i64 x_11, .int .i64 x_21, .int .i64 x_31, .int .i64 x_41, .int .i64 x_51]) fun r =>
  (bsplit r
    (J true w2)
    ((kLd w2 ⟨b, 6, none⟩ .i64 fun x =>
    (kLd w2 ⟨b1, 6, none⟩ .i64 fun x1 =>
    (bsplit (!decide (x = x1))
      (J true w2)
      ((kLd w2 ⟨b, 7, none⟩ .i64 fun x2 =>
      (kLd w2 ⟨b1, 7, none⟩ .i64 fun x3 =>
      (bsplit (!decide (x2 = x3))
        (J true w2)
        ((kLd w2 ⟨b, 8, none⟩ .i64 fun x4 =>
        (kLd w2 ⟨b1, 8, none⟩ .i64 fun x5 =>
        (bsplit (!decide (x4 = x5))
          (J true w2)
          ((kLd w2 ⟨b, 9, none⟩ .i64 fun x6 =>
          (kLd w2 ⟨b1, 9, none⟩ .i64 fun x7 =>
          (bsplit (!decide (x6 = x7))
            (J true w2)
            ((kLd w2 ⟨b, 10, none⟩ .i64 fun x8 =>
            (kLd w2 ⟨b1, 10, none⟩ .i64 fun x9 =>
            (bsplit (!decide (x8 = x9))
              (J true w2)
              ((kLd w2 ⟨b, 11, none⟩ .i64 fun x10 =>
              (kLd w2 ⟨b1, 11, none⟩ .i64 fun x11 =>
              (bsplit (!decide (x10 = x11))
                (J true w2)
                ((kLdB w2 ⟨b, 12, none⟩ fun x12 =>
                (kLdB w2 ⟨b1, 12, none⟩ fun x13 =>
                (bsplit (!(x12 == x13))
                  (J true w2)
                  ((kLdS w2 ⟨b, 13, none⟩ fun _ x_l _ =>
                  (kLdS w2 ⟨b1, 13, none⟩ fun _ x_l1 _ =>
                  J (!decide ((x_l : Int) = (x_l1 : Int))) w2))))))))))))))))))))))))))))))))))))))
theorem F_ref21_Same_eq (a_0 : Int) (a_1 : Int) (a_2 : Int) (a_3 : Int) (a_4 : Int) (a_5 : Int) (a_6 : Int) (a_7 : Int) (a_8 : Int) (a_9 : Int) (a_10 : Int) (a_11 : Int) (a_12 : Bool) (a_13_a : Option Addr) (a_13_l : Nat) (a_13_c : Nat) (b_0 : Int) (b_1 : Int) (b_2 : Int) (b_3 : Int) (b_4 : Int) (b_5 : Int) (b_6 : Int) (b_7 : Int) (b_8 : Int) (b_9 : Int) (b_10 : Int) (b_11 : Int) (b_12 : Bool) (b_13_a : Option Addr) (b_13_l : Nat) (b_13_c : Nat) (w : World) (R : Value → World → Prop) : sxFn Try.prog TT h_ref21_Same Try.f12 #[(.agg #[.int .i64 a_0, .int .i64 a_1, .int .i64 a_2, .int .i64 a_3, .int .i64 a_4, .int .i64 a_5, .int .i64 a_6, .int .i64 a_7, .int .i64 a_8, .int .i64 a_9, .int .i64 a_10, .int .i64 a_11, .bool a_12, .slice a_13_a a_13_l a_13_c]), (.agg #[.int .i64 b_0, .int .i64 b_1, .int .i64 b_2, .int .i64 b_3, .int .i64 b_4, .int .i64 b_5, .int .i64 b_6, .int .i64 b_7, .int .i64 b_8, .int .i64 b_9, .int .i64 b_10, .int .i64 b_11, .bool b_12, .slice b_13_a b_13_l b_13_c])] w R = F_ref21_Same a_0 a_1 a_2 a_3 a_4 a_5 a_6 a_7 a_8 a_9 a_10 a_11 a_12 a_13_a a_13_l a_13_c b_0 b_1 b_2 b_3 b_4 b_5 b_6 b_7 b_8 b_9 b_10 b_11 b_12 b_13_a b_13_l b_13_c w R := by kernel_rfl
theorem F_ref21_Same_ok {R : Ending → World → Prop} (a_0 : Int) (a_1 : Int) (a_2 : Int) (a_3 : Int) (a_4 : Int) (a_5 : Int) (a_6 : Int) (a_7 : Int) (a_8 : Int) (a_9 : Int) (a_10 : Int) (a_11 : Int) (a_12 : Bool) (a_13_a : Option Addr) (a_13_l : Nat) (a_13_c : Nat) (b_0 : Int) (b_1 : Int) (b_2 : Int) (b_3 : Int) (b_4 : Int) (b_5 : Int) (b_6 : Int) (b_7 : Int) (b_8 : Int) (b_9 : Int) (b_10 : Int) (b_11 : Int) (b_12 : Bool) (b_13_a : Option Addr) (b_13_l : Nat) (b_13_c : Nat) (w : World) (h : F_ref21_Same a_0 a_1 a_2 a_3 a_4 a_5 a_6 a_7 a_8 a_9 a_10 a_11 a_12 a_13_a a_13_l a_13_c b_0 b_1 b_2 b_3 b_4 b_5 b_6 b_7 b_8 b_9 b_10 b_11 b_12 b_13_a b_13_l b_13_c w fun v w' => R (.returned v) w') : Calls Try.prog N_ref21_Same #[(.agg #[.int .i64 a_0, .int .i64 a_1, .int .i64 a_2, .int .i64 a_3, .int .i64 a_4, .int .i64 a_5, .int .i64 a_6, .int .i64 a_7, .int .i64 a_8, .int .i64 a_9, .int .i64 a_10, .int .i64 a_11, .bool a_12, .slice a_13_a a_13_l a_13_c]), (.agg #[.int .i64 b_0, .int .i64 b_1, .int .i64 b_2, .int .i64 b_3, .int .i64 b_4, .int .i64 b_5, .int .i64 b_6, .int .i64 b_7, .int .i64 b_8, .int .i64 b_9, .int .i64 b_10, .int .i64 b_11, .bool b_12, .slice b_13_a b_13_l b_13_c])] w R :=
  calls_of (f := 12) follows_ok Try.func12 (Eq.mpr (F_ref21_Same_eq a_0 a_1 a_2 a_3 a_4 a_5 a_6 a_7 a_8 a_9 a_10 a_11 a_12 a_13_a a_13_l a_13_c b_0 b_1 b_2 b_3 b_4 b_5 b_6 b_7 b_8 b_9 b_10 b_11 b_12 b_13_a b_13_l b_13_c w _) h)

def h_unack_Submit : H := (.seq .reg (.seq .reg (.seq (.block (.seq .reg (.cond (.seq .reg .leaf) (.seq .reg (.cond (.seq .reg .leaf) (.seq .reg (.cond (.seq .reg .leaf) .leaf))))))) (.seq (.draw .blk (.one 0 .pur (.one 1 .stable (.one 2 .pur (.one 3 .keep (.one 4 .keep (.one 5 .last (.one 6 .pur (.one 7 .last .nil))))))))) (.seq .reg .leaf)))))
def F_unack_Submit (c_0 : Int) (c_1 : Int) (c_2_a : Option Addr) (c_2_l : Nat) (c_2_c : Nat) (c_3 : Int) (data_a : Option Addr) (data_l : Nat) (data_c : Nat) (w : World) (R : Value → World → Prop) : Prop :=
  (kAlloc w #[(.int .i64 c_0), (.int .i64 c_1), (.slice c_2_a c_2_l c_2_c), (.int .i64 c_3)] Ty_api_Cutter fun b w1 =>
  (kAlloc w1 #[.int .i64 (0 : Int), .int .i64 (0 : Int), .slice none 0 0, .int .i64 (0 : Int)] Ty_api_Cutter fun b1 w2 =>
  (∃ x_0 x_1 : Int, ∃ x_2_a : Option Addr, ∃ x_2_l x_2_c : Nat, ∃ x_3 : Int, cellsAt w2 ⟨b, 0, none⟩ 0 [(.int .i64 x_0), (.int .i64 x_1), (.slice x_2_a x_2_l x_2_c), (.int .i64 x_3)] ∧
  (Calls Try.prog N_own_Cutter #[(.agg #[.int .i64 x_0, .int .i64 x_1, .slice x_2_a x_2_l x_2_c, .int .i64 x_3])] w2 fun e_ w3 =>
  ∃ r_0 r_1 : Int, ∃ r_2_a : Option Addr, ∃ r_2_l r_2_c : Nat, ∃ r_3 : Int, e_ = .returned (.agg #[.int .i64 r_0, .int .i64 r_1, .slice r_2_a r_2_l r_2_c, .int .i64 r_3]) ∧
  (kAlloc w3 #[.int .i64 (0 : Int), .int .i64 (0 : Int), .slice none 0 0, .int .i64 (0 : Int)] Ty_api_Cutter fun b2 w4 =>
  (sxStore w4 ⟨b2, 0, none⟩ 0 [(.int .i64 r_0), (.int .i64 r_1), (.slice r_2_a r_2_l r_2_c), (.int .i64 r_3)] fun w5 =>
  (∃ x_01 x_11 : Int, ∃ x_2_a1 : Option Addr, ∃ x_2_l1 x_2_c1 : Nat, ∃ x_31 : Int, cellsAt w5 ⟨b, 0, none⟩ 0 [(.int .i64 x_01), (.int .i64 x_11), (.slice x_2_a1 x_2_l1 x_2_c1), (.int .i64 x_31)] ∧
  (Calls Try.prog N_unack_Valid #[(.agg #[.int .i64 x_01, .int .i64 x_11, .slice x_2_a1 x_2_l1 x_2_c1, .int .i64 x_31])] w5 fun e_1 w6 =>
  ∃ r : Bool, e_1 = .returned (.bool r) ∧
  (bsplit (!r)
    ((∃ x_02 x_12 : Int, ∃ x_2_a2 : Option Addr, ∃ x_2_l2 x_2_c2 : Nat, ∃ x_32 : Int, cellsAt w6 ⟨b2, 0, none⟩ 0 [(.int .i64 x_02), (.int .i64 x_12), (.slice x_2_a2 x_2_l2 x_2_c2), (.int .i64 x_32)] ∧
    (sxStore w6 ⟨b1, 0, none⟩ 0 [(.int .i64 x_02), (.int .i64 x_12), (.slice x_2_a2 x_2_l2 x_2_c2), (.int .i64 x_32)] fun w7 =>
    (∃ r_01 r_11 : Int, ∃ r_2_a1 : Option Addr, ∃ r_2_l1 r_2_c1 : Nat, ∃ r_31 : Int, cellsAt w7 ⟨b1, 0, none⟩ 0 [(.int .i64 r_01), (.int .i64 r_11), (.slice r_2_a1 r_2_l1 r_2_c1), (.int .i64 r_31)] ∧
    R (.tuple #[(.agg #[.int .i64 r_01, .int .i64 r_11, .slice r_2_a1 r_2_l1 r_2_c1, .int .i64 r_31]), (.int .i64 (1 : Int))]) w7))))
    ((Calls Try.prog N_unack_sized #[(.slice data_a data_l data_c)] w6 fun e_2 w8 =>
    ∃ r1 : Bool, e_2 = .returned (.bool r1) ∧
    (bsplit (!r1)
      ((∃ x_03 x_13 : Int, ∃ x_2_a3 : Option Addr, ∃ x_2_l3 x_2_c3 : Nat, ∃ x_33 : Int, cellsAt w8 ⟨b2, 0, none⟩ 0 [(.int .i64 x_03), (.int .i64 x_13), (.slice x_2_a3 x_2_l3 x_2_c3), (.int .i64 x_33)] ∧
      (sxStore w8 ⟨b1, 0, none⟩ 0 [(.int .i64 x_03), (.int .i64 x_13), (.slice x_2_a3 x_2_l3 x_2_c3), (.int .i64 x_33)] fun w9 =>
      (∃ r_02 r_12 : Int, ∃ r_2_a2 : Option Addr, ∃ r_2_l2 r_2_c2 : Nat, ∃ r_32 : Int, cellsAt w9 ⟨b1, 0, none⟩ 0 [(.int .i64 r_02), (.int .i64 r_12), (.slice r_2_a2 r_2_l2 r_2_c2), (.int .i64 r_32)] ∧
      R (.tuple #[(.agg #[.int .i64 r_02, .int .i64 r_12, .slice r_2_a2 r_2_l2 r_2_c2, .int .i64 r_32]), (.int .i64 (2 : Int))]) w9))))
      ((kLdS w8 ⟨b, 2, none⟩ fun _ x_l _ =>
      (kLet (decide ((x_l : Int) = (256 : Int))) fun x =>
      (bsplit x
        ((∃ x_04 x_14 : Int, ∃ x_2_a4 : Option Addr, ∃ x_2_l4 x_2_c4 : Nat, ∃ x_34 : Int, cellsAt w8 ⟨b2, 0, none⟩ 0 [(.int .i64 x_04), (.int .i64 x_14), (.slice x_2_a4 x_2_l4 x_2_c4), (.int .i64 x_34)] ∧
        (sxStore w8 ⟨b1, 0, none⟩ 0 [(.int .i64 x_04), (.int .i64 x_14), (.slice x_2_a4 x_2_l4 x_2_c4), (.int .i64 x_34)] fun w10 =>
        (∃ r_03 r_13 : Int, ∃ r_2_a3 : Option Addr, ∃ r_2_l3 r_2_c3 : Nat, ∃ r_33 : Int, cellsAt w10 ⟨b1, 0, none⟩ 0 [(.int .i64 r_03), (.int .i64 r_13), (.slice r_2_a3 r_2_l3 r_2_c3), (.int .i64 r_33)] ∧
        R (.tuple #[(.agg #[.int .i64 r_03, .int .i64 r_13, .slice r_2_a3 r_2_l3 r_2_c3, .int .i64 r_33]), (.int .i64 (13 : Int))]) w10))))
        ((kDrew w8 fun w11 =>
        (∃ S : Nat → Prop,
        (S b2 ∧
        (kLdS w11 ⟨b2, 2, none⟩ fun x_a1 x_l1 x_c1 =>
        (Calls Try.prog N_slices_Clone_Sbyte_byte #[(.slice data_a data_l data_c)] w11 fun e_3 w12 =>
        ∃ r_a : Option Addr, ∃ r_l r_c : Nat, e_3 = .returned (.slice r_a r_l r_c) ∧
        (KeepsB S w11 w12 ∧ (kAlloc w12 #[(.slice r_a r_l r_c)] Ty_S_uint8 fun b3 w13 =>
        (KeepsB S w11 w13 ∧ (AppP Try.prog #[Ty_S_S_uint8, Ty_S_S_uint8] Ty_S_S_uint8 #[(.slice x_a1 x_l1 x_c1), (.slice (some ⟨b3, 0, none⟩) 1 1)] w13 fun x_a2 x_l2 x_c2 w14 =>
        (kSet w14 ⟨b2, 2, none⟩ (.slice x_a2 x_l2 x_c2) fun w15 =>
        (∃ x_05 x_15 : Int, ∃ x_2_a5 : Option Addr, ∃ x_2_l5 x_2_c5 : Nat, ∃ x_35 : Int, cellsAt w15 ⟨b2, 0, none⟩ 0 [(.int .i64 x_05), (.int .i64 x_15), (.slice x_2_a5 x_2_l5 x_2_c5), (.int .i64 x_35)] ∧
        (sxStore w15 ⟨b1, 0, none⟩ 0 [(.int .i64 x_05), (.int .i64 x_15), (.slice x_2_a5 x_2_l5 x_2_c5), (.int .i64 x_35)] fun w16 =>
        (∃ r_04 r_14 : Int, ∃ r_2_a4 : Option Addr, ∃ r_2_l4 r_2_c4 : Nat, ∃ r_34 : Int, cellsAt w16 ⟨b1, 0, none⟩ 0 [(.int .i64 r_04), (.int .i64 r_14), (.slice r_2_a4 r_2_l4 r_2_c4), (.int .i64 r_34)] ∧
        R (.tuple #[(.agg #[.int .i64 r_04, .int .i64 r_14, .slice r_2_a4 r_2_l4 r_2_c4, .int .i64 r_34]), (.int .i64 (0 : Int))]) w16))))))))))))))))))))))))))))))
theorem F_unack_Submit_eq (c_0 : Int) (c_1 : Int) (c_2_a : Option Addr) (c_2_l : Nat) (c_2_c : Nat) (c_3 : Int) (data_a : Option Addr) (data_l : Nat) (data_c : Nat) (w : World) (R : Value → World → Prop) : sxFn Try.prog TT h_unack_Submit Try.f13 #[(.agg #[.int .i64 c_0, .int .i64 c_1, .slice c_2_a c_2_l c_2_c, .int .i64 c_3]), (.slice data_a data_l data_c)] w R = F_unack_Submit c_0 c_1 c_2_a c_2_l c_2_c c_3 data_a data_l data_c w R := by kernel_rfl
theorem F_unack_Submit_ok {R : Ending → World → Prop} (c_0 : Int) (c_1 : Int) (c_2_a : Option Addr) (c_2_l : Nat) (c_2_c : Nat) (c_3 : Int) (data_a : Option Addr) (data_l : Nat) (data_c : Nat) (w : World) (h : F_unack_Submit c_0 c_1 c_2_a c_2_l c_2_c c_3 data_a data_l data_c w fun v w' => R (.returned v) w') : Calls Try.prog N_unack_Submit #[(.agg #[.int .i64 c_0, .int .i64 c_1, .slice c_2_a c_2_l c_2_c, .int .i64 c_3]), (.slice data_a data_l data_c)] w R :=
  calls_of (f := 13) follows_ok Try.func13 (Eq.mpr (F_unack_Submit_eq c_0 c_1 c_2_a c_2_l c_2_c c_3 data_a data_l data_c w _) h)

def h_unack_Waiting : H := (.seq .reg (.seq (.seq .reg (.cond (.seq .reg .leaf) .leaf)) (.seq .reg (.seq (.seq .reg (.block (.loop [(3, .p (.int .i64)), (15, .p (.int .i64))] [3, 5, 15, 16, 17, 18, 19, 20, 21, 22, 23] (.seq .reg (.seq (.cond .leaf .leaf) (.seq (.block (.seq .reg .reg)) .reg)))))) (.seq .reg .leaf)))))
def F_unack_Waiting (c_0 : Int) (c_1 : Int) (c_2_a : Option Addr) (c_2_l : Nat) (c_2_c : Nat) (c_3 : Int) (w : World) (R : Value → World → Prop) : Prop :=
  (kAlloc w #[(.int .i64 c_0), (.int .i64 c_1), (.slice c_2_a c_2_l c_2_c), (.int .i64 c_3)] Ty_api_Cutter fun b w1 =>
  (∃ x_0 x_1 : Int, ∃ x_2_a : Option Addr, ∃ x_2_l x_2_c : Nat, ∃ x_3 : Int, cellsAt w1 ⟨b, 0, none⟩ 0 [(.int .i64 x_0), (.int .i64 x_1), (.slice x_2_a x_2_l x_2_c), (.int .i64 x_3)] ∧
  (Calls Try.prog N_unack_Valid #[(.agg #[.int .i64 x_0, .int .i64 x_1, .slice x_2_a x_2_l x_2_c, .int .i64 x_3])] w1 fun e_ w2 =>
  ∃ r : Bool, e_ = .returned (.bool r) ∧
  (bsplit (!r)
    (R (.int .i64 (0 : Int)) w2)
    ((kLd w2 ⟨b, 3, none⟩ .i64 fun x =>
    (kW .i64 (0 - x) fun x1 =>
    (kLdS w2 ⟨b, 2, none⟩ fun x_a x_l _ =>
    (∃ I : Int → Int → Nat × (World → Prop), (I x1 (0 : Int)).2 w2 ∧
    (∀ (_junk : Env) (n : Int) (x2 : Int) (w3 : World), (I n x2).2 w3 →
      (bsplit (decide (x2 < (x_l : Int)))
        ((kIx x_a x_l x2 fun b1 =>
        (kLdS w3 (b1.add (x2.toNat * 1)) fun _ x_l1 _ =>
        (kW .i64 (n + (x_l1 : Int)) fun x3 =>
        (kW .i64 (x2 + (1 : Int)) fun x4 =>
        ((I x3 x4).2 w3 ∧ (I x3 x4).1 < (I n x2).1))))))
        (R (.int .i64 n) w3))))))))))))
theorem F_unack_Waiting_eq (c_0 : Int) (c_1 : Int) (c_2_a : Option Addr) (c_2_l : Nat) (c_2_c : Nat) (c_3 : Int) (w : World) (R : Value → World → Prop) : sxFn Try.prog TT h_unack_Waiting Try.f14 #[(.agg #[.int .i64 c_0, .int .i64 c_1, .slice c_2_a c_2_l c_2_c, .int .i64 c_3])] w R = F_unack_Waiting c_0 c_1 c_2_a c_2_l c_2_c c_3 w R := by kernel_rfl
theorem F_unack_Waiting_ok {R : Ending → World → Prop} (c_0 : Int) (c_1 : Int) (c_2_a : Option Addr) (c_2_l : Nat) (c_2_c : Nat) (c_3 : Int) (w : World) (h : F_unack_Waiting c_0 c_1 c_2_a c_2_l c_2_c c_3 w fun v w' => R (.returned v) w') : Calls Try.prog N_unack_Waiting #[(.agg #[.int .i64 c_0, .int .i64 c_1, .slice c_2_a c_2_l c_2_c, .int .i64 c_3])] w R :=
  calls_of (f := 14) follows_ok Try.func14 (Eq.mpr (F_unack_Waiting_eq c_0 c_1 c_2_a c_2_l c_2_c c_3 w _) h)

def h_unack_Build : H := (.seq .reg (.seq .reg (.seq (.block (.seq .reg (.cond (.seq .reg .leaf) (.cut [(19, .p .bool)] [19, 20, 21, 22, 23, 24, 25] .reg (.cond (.seq .reg .leaf) (.seq .reg (.cond (.seq .reg .leaf) .leaf))))))) (.cut [(8, .p .addr), (10, .p (.int .i64))] [8, 9, 10, 33, 34, 35, 36, 37, 38, 39, 40, 41, 42, 43, 44, 45, 46, 47, 48, 49, 50, 51, 52] (.draw .blk (.one 0 .pur (.one 1 .stable (.one 2 .pur (.one 3 .stable (.one 4 .pur (.one 5 .stable (.one 6 .pur (.one 7 .stable (.one 8 .pur (.one 9 .stable (.one 10 .pur (.one 11 .stable (.one 12 .pur (.one 14 .pur (.alt 13 (.alt 15 (.one 16 .pur (.one 17 .pur (.one 18 .pur (.one 19 .pur (.alt 20 (.one 21 .keep (.one 22 .last (.one 23 .last (.one 24 .pur .nil)))) (.alt 21 (.one 20 .keep (.one 22 .last (.one 23 .last (.one 24 .pur .nil)))) .endAlt)))))) (.alt 20 (.alt 15 (.one 16 .pur (.one 17 .pur (.one 18 .pur (.one 19 .pur (.one 21 .keep (.one 22 .last (.one 23 .last (.one 24 .pur .nil)))))))) (.alt 21 (.one 15 .keep (.one 16 .pur (.one 17 .pur (.one 18 .pur (.one 19 .pur (.one 22 .last (.one 23 .last (.one 24 .pur .nil)))))))) .endAlt)) (.alt 21 (.alt 15 (.one 16 .pur (.one 17 .pur (.one 18 .pur (.one 19 .pur (.one 20 .keep (.one 22 .last (.one 23 .last (.one 24 .pur .nil)))))))) (.alt 20 (.one 15 .keep (.one 16 .pur (.one 17 .pur (.one 18 .pur (.one 19 .pur (.one 22 .last (.one 23 .last (.one 24 .pur .nil)))))))) .endAlt)) .endAlt))) (.alt 20 (.alt 13 (.alt 15 (.one 16 .pur (.one 17 .pur (.one 18 .pur (.one 19 .pur (.one 21 .keep (.one 22 .last (.one 23 .last (.one 24 .pur .nil)))))))) (.alt 21 (.one 15 .keep (.one 16 .pur (.one 17 .pur (.one 18 .pur (.one 19 .pur (.one 22 .last (.one 23 .last (.one 24 .pur .nil)))))))) .endAlt)) (.alt 21 (.one 13 .keep (.one 15 .keep (.one 16 .pur (.one 17 .pur (.one 18 .pur (.one 19 .pur (.one 22 .last (.one 23 .last (.one 24 .pur .nil))))))))) .endAlt)) (.alt 21 (.alt 13 (.alt 15 (.one 16 .pur (.one 17 .pur (.one 18 .pur (.one 19 .pur (.one 20 .keep (.one 22 .last (.one 23 .last (.one 24 .pur .nil)))))))) (.alt 20 (.one 15 .keep (.one 16 .pur (.one 17 .pur (.one 18 .pur (.one 19 .pur (.one 22 .last (.one 23 .last (.one 24 .pur .nil)))))))) .endAlt)) (.alt 20 (.one 13 .keep (.one 15 .keep (.one 16 .pur (.one 17 .pur (.one 18 .pur (.one 19 .pur (.one 22 .last (.one 23 .last (.one 24 .pur .nil))))))))) .endAlt)) .endAlt)))))))))))))))))) (.seq (.seq .reg (.cond (.seq .reg .leaf) .leaf)) (.seq .reg (.seq (.seq .reg (.cond (.seq .reg .leaf) .leaf)) (.seq .reg (.seq (.seq (.draw .no (.one 0 .pur (.one 1 .stable (.one 2 .pur (.one 3 .stable (.one 4 .pur (.one 5 .stable (.one 6 .pur (.one 7 .pur .nil))))))))) (.cond (.draw .blk (.one 0 .pur (.one 1 .stable (.one 2 .pur (.one 3 .pur (.one 4 .pre (.one 5 .pur (.one 6 .pre (.one 7 .pur (.one 9 .pur (.one 8 .keep (.one 10 .last (.one 11 .pur (.one 12 .last (.one 13 .pur (.one 14 .last .nil)))))))))))))))) .leaf)) (.seq .reg .leaf))))))))))
def F_unack_Build (c_0 : Int) (c_1 : Int) (c_2_a : Option Addr) (c_2_l : Nat) (c_2_c : Nat) (c_3 : Int) (size : Int) (w : World) (R : Value → World → Prop) : Prop :=
  (kAlloc w #[(.int .i64 c_0), (.int .i64 c_1), (.slice c_2_a c_2_l c_2_c), (.int .i64 c_3)] Ty_api_Cutter fun b w1 =>
  (kAlloc w1 #[.int .i64 (0 : Int), .int .i64 (0 : Int), .slice none 0 0, .int .i64 (0 : Int)] Ty_api_Cutter fun b1 w2 =>
  (∃ x_0 x_1 : Int, ∃ x_2_a : Option Addr, ∃ x_2_l x_2_c : Nat, ∃ x_3 : Int, cellsAt w2 ⟨b, 0, none⟩ 0 [(.int .i64 x_0), (.int .i64 x_1), (.slice x_2_a x_2_l x_2_c), (.int .i64 x_3)] ∧
  (Calls Try.prog N_own_Cutter #[(.agg #[.int .i64 x_0, .int .i64 x_1, .slice x_2_a x_2_l x_2_c, .int .i64 x_3])] w2 fun e_ w3 =>
  ∃ r_0 r_1 : Int, ∃ r_2_a : Option Addr, ∃ r_2_l r_2_c : Nat, ∃ r_3 : Int, e_ = .returned (.agg #[.int .i64 r_0, .int .i64 r_1, .slice r_2_a r_2_l r_2_c, .int .i64 r_3]) ∧
  (kAlloc w3 #[.int .i64 (0 : Int), .int .i64 (0 : Int), .slice none 0 0, .int .i64 (0 : Int)] Ty_api_Cutter fun b2 w4 =>
  (sxStore w4 ⟨b2, 0, none⟩ 0 [(.int .i64 r_0), (.int .i64 r_1), (.slice r_2_a r_2_l r_2_c), (.int .i64 r_3)] fun w5 =>
  (∃ x_01 x_11 : Int, ∃ x_2_a1 : Option Addr, ∃ x_2_l1 x_2_c1 : Nat, ∃ x_31 : Int, cellsAt w5 ⟨b, 0, none⟩ 0 [(.int .i64 x_01), (.int .i64 x_11), (.slice x_2_a1 x_2_l1 x_2_c1), (.int .i64 x_31)] ∧
  (Calls Try.prog N_unack_Valid #[(.agg #[.int .i64 x_01, .int .i64 x_11, .slice x_2_a1 x_2_l1 x_2_c1, .int .i64 x_31])] w5 fun e_1 w6 =>
  ∃ r : Bool, e_1 = .returned (.bool r) ∧
  (bsplit (!r)
    ((∃ x_02 x_12 : Int, ∃ x_2_a2 : Option Addr, ∃ x_2_l2 x_2_c2 : Nat, ∃ x_32 : Int, cellsAt w6 ⟨b2, 0, none⟩ 0 [(.int .i64 x_02), (.int .i64 x_12), (.slice x_2_a2 x_2_l2 x_2_c2), (.int .i64 x_32)] ∧
    (sxStore w6 ⟨b1, 0, none⟩ 0 [(.int .i64 x_02), (.int .i64 x_12), (.slice x_2_a2 x_2_l2 x_2_c2), (.int .i64 x_32)] fun w7 =>
    (∃ r_01 r_11 : Int, ∃ r_2_a1 : Option Addr, ∃ r_2_l1 r_2_c1 : Nat, ∃ r_31 : Int, cellsAt w7 ⟨b1, 0, none⟩ 0 [(.int .i64 r_01), (.int .i64 r_11), (.slice r_2_a1 r_2_l1 r_2_c1), (.int .i64 r_31)] ∧
    R (.tuple #[(.agg #[.int .i64 r_01, .int .i64 r_11, .slice r_2_a1 r_2_l1 r_2_c1, .int .i64 r_31]), (.slice none 0 0), (.int .i64 (1 : Int))]) w7))))
    ((∃ J : Bool → World → Prop,
    (∀ (_junk : Env) (x1 : Bool) (w8 : World), J x1 w8 →
      (bsplit x1
        ((∃ x_03 x_13 : Int, ∃ x_2_a3 : Option Addr, ∃ x_2_l3 x_2_c3 : Nat, ∃ x_33 : Int, cellsAt w8 ⟨b2, 0, none⟩ 0 [(.int .i64 x_03), (.int .i64 x_13), (.slice x_2_a3 x_2_l3 x_2_c3), (.int .i64 x_33)] ∧
        (sxStore w8 ⟨b1, 0, none⟩ 0 [(.int .i64 x_03), (.int .i64 x_13), (.slice x_2_a3 x_2_l3 x_2_c3), (.int .i64 x_33)] fun w9 =>
        (∃ r_02 r_12 : Int, ∃ r_2_a2 : Option Addr, ∃ r_2_l2 r_2_c2 : Nat, ∃ r_32 : Int, cellsAt w9 ⟨b1, 0, none⟩ 0 [(.int .i64 r_02), (.int .i64 r_12), (.slice r_2_a2 r_2_l2 r_2_c2), (.int .i64 r_32)] ∧
        R (.tuple #[(.agg #[.int .i64 r_02, .int .i64 r_12, .slice r_2_a2 r_2_l2 r_2_c2, .int .i64 r_32]), (.slice none 0 0), (.int .i64 (3 : Int))]) w9))))
        ((kLdS w8 ⟨b, 2, none⟩ fun _ x_l _ =>
        (kLet (decide ((x_l : Int) = (0 : Int))) fun x2 =>
        (bsplit x2
          ((∃ x_04 x_14 : Int, ∃ x_2_a4 : Option Addr, ∃ x_2_l4 x_2_c4 : Nat, ∃ x_34 : Int, cellsAt w8 ⟨b2, 0, none⟩ 0 [(.int .i64 x_04), (.int .i64 x_14), (.slice x_2_a4 x_2_l4 x_2_c4), (.int .i64 x_34)] ∧
          (sxStore w8 ⟨b1, 0, none⟩ 0 [(.int .i64 x_04), (.int .i64 x_14), (.slice x_2_a4 x_2_l4 x_2_c4), (.int .i64 x_34)] fun w10 =>
          (∃ r_03 r_13 : Int, ∃ r_2_a3 : Option Addr, ∃ r_2_l3 r_2_c3 : Nat, ∃ r_33 : Int, cellsAt w10 ⟨b1, 0, none⟩ 0 [(.int .i64 r_03), (.int .i64 r_13), (.slice r_2_a3 r_2_l3 r_2_c3), (.int .i64 r_33)] ∧
          R (.tuple #[(.agg #[.int .i64 r_03, .int .i64 r_13, .slice r_2_a3 r_2_l3 r_2_c3, .int .i64 r_33]), (.slice none 0 0), (.int .i64 (14 : Int))]) w10))))
          ((∃ J1 : Addr → Int → World → Prop,
          (∀ (_junk : Env) (first : Addr) (e1 : Int) (w70 : World), J1 first e1 w70 →
            (bsplit (!decide (e1 = (0 : Int)))
              ((∃ x_05 x_15 : Int, ∃ x_2_a5 : Option Addr, ∃ x_2_l5 x_2_c5 : Nat, ∃ x_35 : Int, cellsAt w70 ⟨b2, 0, none⟩ 0 [(.int .i64 x_05), (.int .i64 x_15), (.slice x_2_a5 x_2_l5 x_2_c5), (.int .i64 x_35)] ∧
              (sxStore w70 ⟨b1, 0, none⟩ 0 [(.int .i64 x_05), (.int .i64 x_15), (.slice x_2_a5 x_2_l5 x_2_c5), (.int .i64 x_35)] fun w71 =>
              (∃ r_031 r_131 : Int, ∃ r_2_a4 : Option Addr, ∃ r_2_l4 r_2_c4 : Nat, ∃ r_331 : Int, cellsAt w71 ⟨b1, 0, none⟩ 0 [(.int .i64 r_031), (.int .i64 r_131), (.slice r_2_a4 r_2_l4 r_2_c4), (.int .i64 r_331)] ∧
              R (.tuple #[(.agg #[.int .i64 r_031, .int .i64 r_131, .slice r_2_a4 r_2_l4 r_2_c4, .int .i64 r_331]), (.slice none 0 0), (.int .i64 e1)]) w71))))
              ((kLd w70 ⟨b, 0, none⟩ .i64 fun x7 =>
              (∃ x_06 x_16 x_2 x_36 : Int, ∃ x_4_a : Option Addr, ∃ x_4_l x_4_c : Nat, cellsAt w70 first 0 [(.int .i64 x_06), (.int .i64 x_16), (.int .i64 x_2), (.int .i64 x_36), (.slice x_4_a x_4_l x_4_c)] ∧
              (Calls Try.prog N_segment_Encode #[(.int .i64 x7), (.agg #[.int .i64 x_06, .int .i64 x_16, .int .i64 x_2, .int .i64 x_36, .slice x_4_a x_4_l x_4_c])] w70 fun e_18 w72 =>
              ∃ r_a : Option Addr, ∃ r_l r_c : Nat, ∃ r12 : Int, e_18 = .returned (.tuple #[(.slice r_a r_l r_c), (.int .i64 r12)]) ∧
              (bsplit (!decide (r12 = (0 : Int)))
                ((∃ x_07 x_17 : Int, ∃ x_2_a6 : Option Addr, ∃ x_2_l6 x_2_c6 : Nat, ∃ x_37 : Int, cellsAt w72 ⟨b2, 0, none⟩ 0 [(.int .i64 x_07), (.int .i64 x_17), (.slice x_2_a6 x_2_l6 x_2_c6), (.int .i64 x_37)] ∧
                (sxStore w72 ⟨b1, 0, none⟩ 0 [(.int .i64 x_07), (.int .i64 x_17), (.slice x_2_a6 x_2_l6 x_2_c6), (.int .i64 x_37)] fun w73 =>
                (∃ r_032 r_132 : Int, ∃ r_2_a5 : Option Addr, ∃ r_2_l5 r_2_c5 : Nat, ∃ r_332 : Int, cellsAt w73 ⟨b1, 0, none⟩ 0 [(.int .i64 r_032), (.int .i64 r_132), (.slice r_2_a5 r_2_l5 r_2_c5), (.int .i64 r_332)] ∧
                R (.tuple #[(.agg #[.int .i64 r_032, .int .i64 r_132, .slice r_2_a5 r_2_l5 r_2_c5, .int .i64 r_332]), (.slice none 0 0), (.int .i64 r12)]) w73))))
                ((kLd w72 ⟨b2, 3, none⟩ .i64 fun x8 =>
                (kLdS w72 (first.add 4) fun _ x_l3 _ =>
                (kW .i64 (x8 + (x_l3 : Int)) fun x9 =>
                (kSet w72 ⟨b2, 3, none⟩ (.int .i64 x9) fun w74 =>
                (kDrew w74 fun w75 =>
                (kLd w75 ⟨b2, 3, none⟩ .i64 fun x10 =>
                (kLdS w75 ⟨b2, 2, none⟩ fun x_a4 x_l4 _ =>
                (kIx x_a4 x_l4 (0 : Int) fun b22 =>
                (kLdS w75 (b22.add ((0 : Int).toNat * 1)) fun _ x_l5 _ =>
                (bsplit (decide (x10 = (x_l5 : Int)))
                  ((kDrew w75 fun w76 =>
                  (∃ S1 : Nat → Prop,
                  (S1 b2 ∧
                  (kLdS w76 ⟨b2, 2, none⟩ fun x_a6 x_l6 x_c6 =>
                  ((0 ≤ (1 : Int) ∧ (1 : Int) ≤ ((x_l6 : Nat) : Int)) ∧ (kLd w76 ⟨b, 0, none⟩ .i64 fun x11 =>
                  (kLd w76 ⟨b, 1, none⟩ .i64 fun x12 =>
                  (kW .i64 (x12 + (1 : Int)) fun x13 =>
                  (Calls Try.prog N_serial_Low #[(.int .i64 x11), (.int .i64 x13)] w76 fun e_19 w77 =>
                  ∃ r13 : Int, e_19 = .returned (.int .i64 r13) ∧
                  (KeepsB S1 w76 w77 ∧ (kSet w77 ⟨b2, 2, none⟩ (.slice (slAddr x_c6 ((1 : Int).toNat) 1 x_a6) (x_l6 - (1 : Int).toNat) (x_c6 - (1 : Int).toNat)) fun w78 =>
                  (kSet w78 ⟨b2, 3, none⟩ (.int .i64 (0 : Int)) fun w79 =>
                  (kSet w79 ⟨b2, 1, none⟩ (.int .i64 r13) fun w80 =>
                  (∃ x_08 x_18 : Int, ∃ x_2_a7 : Option Addr, ∃ x_2_l7 x_2_c7 : Nat, ∃ x_38 : Int, cellsAt w80 ⟨b2, 0, none⟩ 0 [(.int .i64 x_08), (.int .i64 x_18), (.slice x_2_a7 x_2_l7 x_2_c7), (.int .i64 x_38)] ∧
                  (sxStore w80 ⟨b1, 0, none⟩ 0 [(.int .i64 x_08), (.int .i64 x_18), (.slice x_2_a7 x_2_l7 x_2_c7), (.int .i64 x_38)] fun w81 =>
                  (∃ r_033 r_133 : Int, ∃ r_2_a6 : Option Addr, ∃ r_2_l6 r_2_c6 : Nat, ∃ r_333 : Int, cellsAt w81 ⟨b1, 0, none⟩ 0 [(.int .i64 r_033), (.int .i64 r_133), (.slice r_2_a6 r_2_l6 r_2_c6), (.int .i64 r_333)] ∧
                  R (.tuple #[(.agg #[.int .i64 r_033, .int .i64 r_133, .slice r_2_a6 r_2_l6 r_2_c6, .int .i64 r_333]), (.slice r_a r_l r_c), (.int .i64 (0 : Int))]) w81)))))))))))))))))
                  ((∃ x_09 x_19 : Int, ∃ x_2_a8 : Option Addr, ∃ x_2_l8 x_2_c8 : Nat, ∃ x_39 : Int, cellsAt w75 ⟨b2, 0, none⟩ 0 [(.int .i64 x_09), (.int .i64 x_19), (.slice x_2_a8 x_2_l8 x_2_c8), (.int .i64 x_39)] ∧
                  (sxStore w75 ⟨b1, 0, none⟩ 0 [(.int .i64 x_09), (.int .i64 x_19), (.slice x_2_a8 x_2_l8 x_2_c8), (.int .i64 x_39)] fun w82 =>
                  (∃ r_034 r_134 : Int, ∃ r_2_a7 : Option Addr, ∃ r_2_l7 r_2_c7 : Nat, ∃ r_334 : Int, cellsAt w82 ⟨b1, 0, none⟩ 0 [(.int .i64 r_034), (.int .i64 r_134), (.slice r_2_a7 r_2_l7 r_2_c7), (.int .i64 r_334)] ∧
                  R (.tuple #[(.agg #[.int .i64 r_034, .int .i64 r_134, .slice r_2_a7 r_2_l7 r_2_c7, .int .i64 r_334]), (.slice r_a r_l r_c), (.int .i64 (0 : Int))]) w82)))))))))))))))))))))) ∧
          (kDrew w8 fun w11 =>
          (∃ S : Nat → Prop,
          (S b ∧
          (kLd w11 ⟨b, 0, none⟩ .i64 fun x3 =>
          (S b ∧
          (kLd w11 ⟨b, 1, none⟩ .i64 fun x4 =>
          (S b ∧
          (kLd w11 ⟨b, 3, none⟩ .i64 fun x5 =>
          (S b2 ∧
          (kLdS w11 ⟨b2, 2, none⟩ fun x_a1 x_l1 _ =>
          (kIx x_a1 x_l1 (0 : Int) fun b3 =>
          (S (b3.add ((0 : Int).toNat * 1)).block ∧
          (kLdS w11 (b3.add ((0 : Int).toNat * 1)) fun x_a2 x_l2 x_c2 =>
          (S b ∧
          (kLd w11 ⟨b, 3, none⟩ .i64 fun x6 =>
          ((0 ≤ x6 ∧ x6 ≤ ((x_l2 : Nat) : Int)) ∧ ((Calls Try.prog N_unack_piece #[(.int .i64 x4), (.int .i64 x5), (.slice (slAddr x_c2 (x6.toNat) 1 x_a2) (x_l2 - x6.toNat) (x_c2 - x6.toNat))] w11 fun e_12 w42 =>
          ∃ r_020 r_120 r_216 r_320 : Int, ∃ r_4_a16 : Option Addr, ∃ r_4_l16 r_4_c16 : Nat, e_12 = .returned (.agg #[.int .i64 r_020, .int .i64 r_120, .int .i64 r_216, .int .i64 r_320, .slice r_4_a16 r_4_l16 r_4_c16]) ∧
          (KeepsB S w11 w42 ∧ ((Calls Try.prog N_segment_Cut #[(.int .i64 x3), (.agg #[.int .i64 r_020, .int .i64 r_120, .int .i64 r_216, .int .i64 r_320, .slice r_4_a16 r_4_l16 r_4_c16]), (.int .i64 size)] w42 fun e_17 w61 =>
          ∃ r_029 r_129 r_225 r_329 : Int, ∃ r_4_a25 : Option Addr, ∃ r_4_l25 r_4_c25 : Nat, ∃ r_030 r_130 r_226 r_330 : Int, ∃ r_4_a26 : Option Addr, ∃ r_4_l26 r_4_c26 : Nat, ∃ r11 : Int, e_17 = .returned (.tuple #[(.agg #[.int .i64 r_029, .int .i64 r_129, .int .i64 r_225, .int .i64 r_329, .slice r_4_a25 r_4_l25 r_4_c25]), (.agg #[.int .i64 r_030, .int .i64 r_130, .int .i64 r_226, .int .i64 r_330, .slice r_4_a26 r_4_l26 r_4_c26]), (.int .i64 r11)]) ∧
          (KeepsB S w11 w61 ∧ ((kAlloc w61 #[.int .i64 (0 : Int), .int .i64 (0 : Int), .int .i64 (0 : Int), .int .i64 (0 : Int), .slice none 0 0] Ty_api_Piece fun b20 w66 =>
          (KeepsB S w11 w66 ∧ (kAlloc w66 #[.int .i64 (0 : Int), .int .i64 (0 : Int), .int .i64 (0 : Int), .int .i64 (0 : Int), .slice none 0 0] Ty_api_Piece fun b21 w67 =>
          (KeepsB S w11 w67 ∧ (sxStore w67 ⟨b20, 0, none⟩ 0 [(.int .i64 r_029), (.int .i64 r_129), (.int .i64 r_225), (.int .i64 r_329), (.slice r_4_a25 r_4_l25 r_4_c25)] fun w68 =>
          (sxStore w68 ⟨b21, 0, none⟩ 0 [(.int .i64 r_030), (.int .i64 r_130), (.int .i64 r_226), (.int .i64 r_330), (.slice r_4_a26 r_4_l26 r_4_c26)] fun w69 =>
          J1 ⟨b20, 0, none⟩ r11 w69)))))) ∧
          ((kAlloc w61 #[.int .i64 (0 : Int), .int .i64 (0 : Int), .int .i64 (0 : Int), .int .i64 (0 : Int), .slice none 0 0] Ty_api_Piece fun b18 w62 =>
          (KeepsB S w11 w62 ∧ (kAlloc w62 #[.int .i64 (0 : Int), .int .i64 (0 : Int), .int .i64 (0 : Int), .int .i64 (0 : Int), .slice none 0 0] Ty_api_Piece fun b19 w63 =>
          (KeepsB S w11 w63 ∧ (sxStore w63 ⟨b19, 0, none⟩ 0 [(.int .i64 r_029), (.int .i64 r_129), (.int .i64 r_225), (.int .i64 r_329), (.slice r_4_a25 r_4_l25 r_4_c25)] fun w64 =>
          (sxStore w64 ⟨b18, 0, none⟩ 0 [(.int .i64 r_030), (.int .i64 r_130), (.int .i64 r_226), (.int .i64 r_330), (.slice r_4_a26 r_4_l26 r_4_c26)] fun w65 =>
          J1 ⟨b19, 0, none⟩ r11 w65)))))) ∧
          True)))) ∧
          ((kAlloc w42 #[.int .i64 (0 : Int), .int .i64 (0 : Int), .int .i64 (0 : Int), .int .i64 (0 : Int), .slice none 0 0] Ty_api_Piece fun b15 w52 =>
          (KeepsB S w11 w52 ∧ ((Calls Try.prog N_segment_Cut #[(.int .i64 x3), (.agg #[.int .i64 r_020, .int .i64 r_120, .int .i64 r_216, .int .i64 r_320, .slice r_4_a16 r_4_l16 r_4_c16]), (.int .i64 size)] w52 fun e_16 w57 =>
          ∃ r_027 r_127 r_223 r_327 : Int, ∃ r_4_a23 : Option Addr, ∃ r_4_l23 r_4_c23 : Nat, ∃ r_028 r_128 r_224 r_328 : Int, ∃ r_4_a24 : Option Addr, ∃ r_4_l24 r_4_c24 : Nat, ∃ r10 : Int, e_16 = .returned (.tuple #[(.agg #[.int .i64 r_027, .int .i64 r_127, .int .i64 r_223, .int .i64 r_327, .slice r_4_a23 r_4_l23 r_4_c23]), (.agg #[.int .i64 r_028, .int .i64 r_128, .int .i64 r_224, .int .i64 r_328, .slice r_4_a24 r_4_l24 r_4_c24]), (.int .i64 r10)]) ∧
          (KeepsB S w11 w57 ∧ (kAlloc w57 #[.int .i64 (0 : Int), .int .i64 (0 : Int), .int .i64 (0 : Int), .int .i64 (0 : Int), .slice none 0 0] Ty_api_Piece fun b17 w58 =>
          (KeepsB S w11 w58 ∧ (sxStore w58 ⟨b15, 0, none⟩ 0 [(.int .i64 r_027), (.int .i64 r_127), (.int .i64 r_223), (.int .i64 r_327), (.slice r_4_a23 r_4_l23 r_4_c23)] fun w59 =>
          (sxStore w59 ⟨b17, 0, none⟩ 0 [(.int .i64 r_028), (.int .i64 r_128), (.int .i64 r_224), (.int .i64 r_328), (.slice r_4_a24 r_4_l24 r_4_c24)] fun w60 =>
          J1 ⟨b15, 0, none⟩ r10 w60)))))) ∧
          ((kAlloc w52 #[.int .i64 (0 : Int), .int .i64 (0 : Int), .int .i64 (0 : Int), .int .i64 (0 : Int), .slice none 0 0] Ty_api_Piece fun b16 w53 =>
          (KeepsB S w11 w53 ∧ (Calls Try.prog N_segment_Cut #[(.int .i64 x3), (.agg #[.int .i64 r_020, .int .i64 r_120, .int .i64 r_216, .int .i64 r_320, .slice r_4_a16 r_4_l16 r_4_c16]), (.int .i64 size)] w53 fun e_15 w54 =>
          ∃ r_025 r_125 r_221 r_325 : Int, ∃ r_4_a21 : Option Addr, ∃ r_4_l21 r_4_c21 : Nat, ∃ r_026 r_126 r_222 r_326 : Int, ∃ r_4_a22 : Option Addr, ∃ r_4_l22 r_4_c22 : Nat, ∃ r9 : Int, e_15 = .returned (.tuple #[(.agg #[.int .i64 r_025, .int .i64 r_125, .int .i64 r_221, .int .i64 r_325, .slice r_4_a21 r_4_l21 r_4_c21]), (.agg #[.int .i64 r_026, .int .i64 r_126, .int .i64 r_222, .int .i64 r_326, .slice r_4_a22 r_4_l22 r_4_c22]), (.int .i64 r9)]) ∧
          (KeepsB S w11 w54 ∧ (sxStore w54 ⟨b15, 0, none⟩ 0 [(.int .i64 r_025), (.int .i64 r_125), (.int .i64 r_221), (.int .i64 r_325), (.slice r_4_a21 r_4_l21 r_4_c21)] fun w55 =>
          (sxStore w55 ⟨b16, 0, none⟩ 0 [(.int .i64 r_026), (.int .i64 r_126), (.int .i64 r_222), (.int .i64 r_326), (.slice r_4_a22 r_4_l22 r_4_c22)] fun w56 =>
          J1 ⟨b15, 0, none⟩ r9 w56)))))) ∧
          True)))) ∧
          ((kAlloc w42 #[.int .i64 (0 : Int), .int .i64 (0 : Int), .int .i64 (0 : Int), .int .i64 (0 : Int), .slice none 0 0] Ty_api_Piece fun b12 w43 =>
          (KeepsB S w11 w43 ∧ ((Calls Try.prog N_segment_Cut #[(.int .i64 x3), (.agg #[.int .i64 r_020, .int .i64 r_120, .int .i64 r_216, .int .i64 r_320, .slice r_4_a16 r_4_l16 r_4_c16]), (.int .i64 size)] w43 fun e_14 w48 =>
          ∃ r_023 r_123 r_219 r_323 : Int, ∃ r_4_a19 : Option Addr, ∃ r_4_l19 r_4_c19 : Nat, ∃ r_024 r_124 r_220 r_324 : Int, ∃ r_4_a20 : Option Addr, ∃ r_4_l20 r_4_c20 : Nat, ∃ r8 : Int, e_14 = .returned (.tuple #[(.agg #[.int .i64 r_023, .int .i64 r_123, .int .i64 r_219, .int .i64 r_323, .slice r_4_a19 r_4_l19 r_4_c19]), (.agg #[.int .i64 r_024, .int .i64 r_124, .int .i64 r_220, .int .i64 r_324, .slice r_4_a20 r_4_l20 r_4_c20]), (.int .i64 r8)]) ∧
          (KeepsB S w11 w48 ∧ (kAlloc w48 #[.int .i64 (0 : Int), .int .i64 (0 : Int), .int .i64 (0 : Int), .int .i64 (0 : Int), .slice none 0 0] Ty_api_Piece fun b14 w49 =>
          (KeepsB S w11 w49 ∧ (sxStore w49 ⟨b14, 0, none⟩ 0 [(.int .i64 r_023), (.int .i64 r_123), (.int .i64 r_219), (.int .i64 r_323), (.slice r_4_a19 r_4_l19 r_4_c19)] fun w50 =>
          (sxStore w50 ⟨b12, 0, none⟩ 0 [(.int .i64 r_024), (.int .i64 r_124), (.int .i64 r_220), (.int .i64 r_324), (.slice r_4_a20 r_4_l20 r_4_c20)] fun w51 =>
          J1 ⟨b14, 0, none⟩ r8 w51)))))) ∧
          ((kAlloc w43 #[.int .i64 (0 : Int), .int .i64 (0 : Int), .int .i64 (0 : Int), .int .i64 (0 : Int), .slice none 0 0] Ty_api_Piece fun b13 w44 =>
          (KeepsB S w11 w44 ∧ (Calls Try.prog N_segment_Cut #[(.int .i64 x3), (.agg #[.int .i64 r_020, .int .i64 r_120, .int .i64 r_216, .int .i64 r_320, .slice r_4_a16 r_4_l16 r_4_c16]), (.int .i64 size)] w44 fun e_13 w45 =>
          ∃ r_021 r_121 r_217 r_321 : Int, ∃ r_4_a17 : Option Addr, ∃ r_4_l17 r_4_c17 : Nat, ∃ r_022 r_122 r_218 r_322 : Int, ∃ r_4_a18 : Option Addr, ∃ r_4_l18 r_4_c18 : Nat, ∃ r7 : Int, e_13 = .returned (.tuple #[(.agg #[.int .i64 r_021, .int .i64 r_121, .int .i64 r_217, .int .i64 r_321, .slice r_4_a17 r_4_l17 r_4_c17]), (.agg #[.int .i64 r_022, .int .i64 r_122, .int .i64 r_218, .int .i64 r_322, .slice r_4_a18 r_4_l18 r_4_c18]), (.int .i64 r7)]) ∧
          (KeepsB S w11 w45 ∧ (sxStore w45 ⟨b13, 0, none⟩ 0 [(.int .i64 r_021), (.int .i64 r_121), (.int .i64 r_217), (.int .i64 r_321), (.slice r_4_a17 r_4_l17 r_4_c17)] fun w46 =>
          (sxStore w46 ⟨b12, 0, none⟩ 0 [(.int .i64 r_022), (.int .i64 r_122), (.int .i64 r_218), (.int .i64 r_322), (.slice r_4_a18 r_4_l18 r_4_c18)] fun w47 =>
          J1 ⟨b13, 0, none⟩ r7 w47)))))) ∧
          True)))) ∧
          True))))) ∧
          ((kAlloc w11 #[.int .i64 (0 : Int), .int .i64 (0 : Int), .int .i64 (0 : Int), .int .i64 (0 : Int), .slice none 0 0] Ty_api_Piece fun b8 w27 =>
          (KeepsB S w11 w27 ∧ ((Calls Try.prog N_unack_piece #[(.int .i64 x4), (.int .i64 x5), (.slice (slAddr x_c2 (x6.toNat) 1 x_a2) (x_l2 - x6.toNat) (x_c2 - x6.toNat))] w27 fun e_9 w33 =>
          ∃ r_015 r_115 r_211 r_315 : Int, ∃ r_4_a11 : Option Addr, ∃ r_4_l11 r_4_c11 : Nat, e_9 = .returned (.agg #[.int .i64 r_015, .int .i64 r_115, .int .i64 r_211, .int .i64 r_315, .slice r_4_a11 r_4_l11 r_4_c11]) ∧
          (KeepsB S w11 w33 ∧ ((Calls Try.prog N_segment_Cut #[(.int .i64 x3), (.agg #[.int .i64 r_015, .int .i64 r_115, .int .i64 r_211, .int .i64 r_315, .slice r_4_a11 r_4_l11 r_4_c11]), (.int .i64 size)] w33 fun e_11 w38 =>
          ∃ r_018 r_118 r_214 r_318 : Int, ∃ r_4_a14 : Option Addr, ∃ r_4_l14 r_4_c14 : Nat, ∃ r_019 r_119 r_215 r_319 : Int, ∃ r_4_a15 : Option Addr, ∃ r_4_l15 r_4_c15 : Nat, ∃ r6 : Int, e_11 = .returned (.tuple #[(.agg #[.int .i64 r_018, .int .i64 r_118, .int .i64 r_214, .int .i64 r_318, .slice r_4_a14 r_4_l14 r_4_c14]), (.agg #[.int .i64 r_019, .int .i64 r_119, .int .i64 r_215, .int .i64 r_319, .slice r_4_a15 r_4_l15 r_4_c15]), (.int .i64 r6)]) ∧
          (KeepsB S w11 w38 ∧ (kAlloc w38 #[.int .i64 (0 : Int), .int .i64 (0 : Int), .int .i64 (0 : Int), .int .i64 (0 : Int), .slice none 0 0] Ty_api_Piece fun b11 w39 =>
          (KeepsB S w11 w39 ∧ (sxStore w39 ⟨b8, 0, none⟩ 0 [(.int .i64 r_018), (.int .i64 r_118), (.int .i64 r_214), (.int .i64 r_318), (.slice r_4_a14 r_4_l14 r_4_c14)] fun w40 =>
          (sxStore w40 ⟨b11, 0, none⟩ 0 [(.int .i64 r_019), (.int .i64 r_119), (.int .i64 r_215), (.int .i64 r_319), (.slice r_4_a15 r_4_l15 r_4_c15)] fun w41 =>
          J1 ⟨b8, 0, none⟩ r6 w41)))))) ∧
          ((kAlloc w33 #[.int .i64 (0 : Int), .int .i64 (0 : Int), .int .i64 (0 : Int), .int .i64 (0 : Int), .slice none 0 0] Ty_api_Piece fun b10 w34 =>
          (KeepsB S w11 w34 ∧ (Calls Try.prog N_segment_Cut #[(.int .i64 x3), (.agg #[.int .i64 r_015, .int .i64 r_115, .int .i64 r_211, .int .i64 r_315, .slice r_4_a11 r_4_l11 r_4_c11]), (.int .i64 size)] w34 fun e_10 w35 =>
          ∃ r_016 r_116 r_212 r_316 : Int, ∃ r_4_a12 : Option Addr, ∃ r_4_l12 r_4_c12 : Nat, ∃ r_017 r_117 r_213 r_317 : Int, ∃ r_4_a13 : Option Addr, ∃ r_4_l13 r_4_c13 : Nat, ∃ r5 : Int, e_10 = .returned (.tuple #[(.agg #[.int .i64 r_016, .int .i64 r_116, .int .i64 r_212, .int .i64 r_316, .slice r_4_a12 r_4_l12 r_4_c12]), (.agg #[.int .i64 r_017, .int .i64 r_117, .int .i64 r_213, .int .i64 r_317, .slice r_4_a13 r_4_l13 r_4_c13]), (.int .i64 r5)]) ∧
          (KeepsB S w11 w35 ∧ (sxStore w35 ⟨b8, 0, none⟩ 0 [(.int .i64 r_016), (.int .i64 r_116), (.int .i64 r_212), (.int .i64 r_316), (.slice r_4_a12 r_4_l12 r_4_c12)] fun w36 =>
          (sxStore w36 ⟨b10, 0, none⟩ 0 [(.int .i64 r_017), (.int .i64 r_117), (.int .i64 r_213), (.int .i64 r_317), (.slice r_4_a13 r_4_l13 r_4_c13)] fun w37 =>
          J1 ⟨b8, 0, none⟩ r5 w37)))))) ∧
          True)))) ∧
          ((kAlloc w27 #[.int .i64 (0 : Int), .int .i64 (0 : Int), .int .i64 (0 : Int), .int .i64 (0 : Int), .slice none 0 0] Ty_api_Piece fun b9 w28 =>
          (KeepsB S w11 w28 ∧ (Calls Try.prog N_unack_piece #[(.int .i64 x4), (.int .i64 x5), (.slice (slAddr x_c2 (x6.toNat) 1 x_a2) (x_l2 - x6.toNat) (x_c2 - x6.toNat))] w28 fun e_7 w29 =>
          ∃ r_012 r_112 r_28 r_312 : Int, ∃ r_4_a8 : Option Addr, ∃ r_4_l8 r_4_c8 : Nat, e_7 = .returned (.agg #[.int .i64 r_012, .int .i64 r_112, .int .i64 r_28, .int .i64 r_312, .slice r_4_a8 r_4_l8 r_4_c8]) ∧
          (KeepsB S w11 w29 ∧ (Calls Try.prog N_segment_Cut #[(.int .i64 x3), (.agg #[.int .i64 r_012, .int .i64 r_112, .int .i64 r_28, .int .i64 r_312, .slice r_4_a8 r_4_l8 r_4_c8]), (.int .i64 size)] w29 fun e_8 w30 =>
          ∃ r_013 r_113 r_29 r_313 : Int, ∃ r_4_a9 : Option Addr, ∃ r_4_l9 r_4_c9 : Nat, ∃ r_014 r_114 r_210 r_314 : Int, ∃ r_4_a10 : Option Addr, ∃ r_4_l10 r_4_c10 : Nat, ∃ r4 : Int, e_8 = .returned (.tuple #[(.agg #[.int .i64 r_013, .int .i64 r_113, .int .i64 r_29, .int .i64 r_313, .slice r_4_a9 r_4_l9 r_4_c9]), (.agg #[.int .i64 r_014, .int .i64 r_114, .int .i64 r_210, .int .i64 r_314, .slice r_4_a10 r_4_l10 r_4_c10]), (.int .i64 r4)]) ∧
          (KeepsB S w11 w30 ∧ (sxStore w30 ⟨b8, 0, none⟩ 0 [(.int .i64 r_013), (.int .i64 r_113), (.int .i64 r_29), (.int .i64 r_313), (.slice r_4_a9 r_4_l9 r_4_c9)] fun w31 =>
          (sxStore w31 ⟨b9, 0, none⟩ 0 [(.int .i64 r_014), (.int .i64 r_114), (.int .i64 r_210), (.int .i64 r_314), (.slice r_4_a10 r_4_l10 r_4_c10)] fun w32 =>
          J1 ⟨b8, 0, none⟩ r4 w32)))))))) ∧
          True)))) ∧
          ((kAlloc w11 #[.int .i64 (0 : Int), .int .i64 (0 : Int), .int .i64 (0 : Int), .int .i64 (0 : Int), .slice none 0 0] Ty_api_Piece fun b4 w12 =>
          (KeepsB S w11 w12 ∧ ((Calls Try.prog N_unack_piece #[(.int .i64 x4), (.int .i64 x5), (.slice (slAddr x_c2 (x6.toNat) 1 x_a2) (x_l2 - x6.toNat) (x_c2 - x6.toNat))] w12 fun e_4 w18 =>
          ∃ r_07 r_17 r_23 r_37 : Int, ∃ r_4_a3 : Option Addr, ∃ r_4_l3 r_4_c3 : Nat, e_4 = .returned (.agg #[.int .i64 r_07, .int .i64 r_17, .int .i64 r_23, .int .i64 r_37, .slice r_4_a3 r_4_l3 r_4_c3]) ∧
          (KeepsB S w11 w18 ∧ ((Calls Try.prog N_segment_Cut #[(.int .i64 x3), (.agg #[.int .i64 r_07, .int .i64 r_17, .int .i64 r_23, .int .i64 r_37, .slice r_4_a3 r_4_l3 r_4_c3]), (.int .i64 size)] w18 fun e_6 w23 =>
          ∃ r_010 r_110 r_26 r_310 : Int, ∃ r_4_a6 : Option Addr, ∃ r_4_l6 r_4_c6 : Nat, ∃ r_011 r_111 r_27 r_311 : Int, ∃ r_4_a7 : Option Addr, ∃ r_4_l7 r_4_c7 : Nat, ∃ r3 : Int, e_6 = .returned (.tuple #[(.agg #[.int .i64 r_010, .int .i64 r_110, .int .i64 r_26, .int .i64 r_310, .slice r_4_a6 r_4_l6 r_4_c6]), (.agg #[.int .i64 r_011, .int .i64 r_111, .int .i64 r_27, .int .i64 r_311, .slice r_4_a7 r_4_l7 r_4_c7]), (.int .i64 r3)]) ∧
          (KeepsB S w11 w23 ∧ (kAlloc w23 #[.int .i64 (0 : Int), .int .i64 (0 : Int), .int .i64 (0 : Int), .int .i64 (0 : Int), .slice none 0 0] Ty_api_Piece fun b7 w24 =>
          (KeepsB S w11 w24 ∧ (sxStore w24 ⟨b7, 0, none⟩ 0 [(.int .i64 r_010), (.int .i64 r_110), (.int .i64 r_26), (.int .i64 r_310), (.slice r_4_a6 r_4_l6 r_4_c6)] fun w25 =>
          (sxStore w25 ⟨b4, 0, none⟩ 0 [(.int .i64 r_011), (.int .i64 r_111), (.int .i64 r_27), (.int .i64 r_311), (.slice r_4_a7 r_4_l7 r_4_c7)] fun w26 =>
          J1 ⟨b7, 0, none⟩ r3 w26)))))) ∧
          ((kAlloc w18 #[.int .i64 (0 : Int), .int .i64 (0 : Int), .int .i64 (0 : Int), .int .i64 (0 : Int), .slice none 0 0] Ty_api_Piece fun b6 w19 =>
          (KeepsB S w11 w19 ∧ (Calls Try.prog N_segment_Cut #[(.int .i64 x3), (.agg #[.int .i64 r_07, .int .i64 r_17, .int .i64 r_23, .int .i64 r_37, .slice r_4_a3 r_4_l3 r_4_c3]), (.int .i64 size)] w19 fun e_5 w20 =>
          ∃ r_08 r_18 r_24 r_38 : Int, ∃ r_4_a4 : Option Addr, ∃ r_4_l4 r_4_c4 : Nat, ∃ r_09 r_19 r_25 r_39 : Int, ∃ r_4_a5 : Option Addr, ∃ r_4_l5 r_4_c5 : Nat, ∃ r2 : Int, e_5 = .returned (.tuple #[(.agg #[.int .i64 r_08, .int .i64 r_18, .int .i64 r_24, .int .i64 r_38, .slice r_4_a4 r_4_l4 r_4_c4]), (.agg #[.int .i64 r_09, .int .i64 r_19, .int .i64 r_25, .int .i64 r_39, .slice r_4_a5 r_4_l5 r_4_c5]), (.int .i64 r2)]) ∧
          (KeepsB S w11 w20 ∧ (sxStore w20 ⟨b6, 0, none⟩ 0 [(.int .i64 r_08), (.int .i64 r_18), (.int .i64 r_24), (.int .i64 r_38), (.slice r_4_a4 r_4_l4 r_4_c4)] fun w21 =>
          (sxStore w21 ⟨b4, 0, none⟩ 0 [(.int .i64 r_09), (.int .i64 r_19), (.int .i64 r_25), (.int .i64 r_39), (.slice r_4_a5 r_4_l5 r_4_c5)] fun w22 =>
          J1 ⟨b6, 0, none⟩ r2 w22)))))) ∧
          True)))) ∧
          ((kAlloc w12 #[.int .i64 (0 : Int), .int .i64 (0 : Int), .int .i64 (0 : Int), .int .i64 (0 : Int), .slice none 0 0] Ty_api_Piece fun b5 w13 =>
          (KeepsB S w11 w13 ∧ (Calls Try.prog N_unack_piece #[(.int .i64 x4), (.int .i64 x5), (.slice (slAddr x_c2 (x6.toNat) 1 x_a2) (x_l2 - x6.toNat) (x_c2 - x6.toNat))] w13 fun e_2 w14 =>
          ∃ r_04 r_14 r_2 r_34 : Int, ∃ r_4_a : Option Addr, ∃ r_4_l r_4_c : Nat, e_2 = .returned (.agg #[.int .i64 r_04, .int .i64 r_14, .int .i64 r_2, .int .i64 r_34, .slice r_4_a r_4_l r_4_c]) ∧
          (KeepsB S w11 w14 ∧ (Calls Try.prog N_segment_Cut #[(.int .i64 x3), (.agg #[.int .i64 r_04, .int .i64 r_14, .int .i64 r_2, .int .i64 r_34, .slice r_4_a r_4_l r_4_c]), (.int .i64 size)] w14 fun e_3 w15 =>
          ∃ r_05 r_15 r_21 r_35 : Int, ∃ r_4_a1 : Option Addr, ∃ r_4_l1 r_4_c1 : Nat, ∃ r_06 r_16 r_22 r_36 : Int, ∃ r_4_a2 : Option Addr, ∃ r_4_l2 r_4_c2 : Nat, ∃ r1 : Int, e_3 = .returned (.tuple #[(.agg #[.int .i64 r_05, .int .i64 r_15, .int .i64 r_21, .int .i64 r_35, .slice r_4_a1 r_4_l1 r_4_c1]), (.agg #[.int .i64 r_06, .int .i64 r_16, .int .i64 r_22, .int .i64 r_36, .slice r_4_a2 r_4_l2 r_4_c2]), (.int .i64 r1)]) ∧
          (KeepsB S w11 w15 ∧ (sxStore w15 ⟨b5, 0, none⟩ 0 [(.int .i64 r_05), (.int .i64 r_15), (.int .i64 r_21), (.int .i64 r_35), (.slice r_4_a1 r_4_l1 r_4_c1)] fun w16 =>
          (sxStore w16 ⟨b4, 0, none⟩ 0 [(.int .i64 r_06), (.int .i64 r_16), (.int .i64 r_22), (.int .i64 r_36), (.slice r_4_a2 r_4_l2 r_4_c2)] fun w17 =>
          J1 ⟨b5, 0, none⟩ r1 w17)))))))) ∧
          True)))) ∧
          True))))))))))))))))))))))))))) ∧
    (bsplit (decide (size < (0 : Int)))
      (J true w6)
      ((kLet (decide (size > (4096 : Int))) fun x =>
      J x w6))))))))))))))
theorem F_unack_Build_eq (c_0 : Int) (c_1 : Int) (c_2_a : Option Addr) (c_2_l : Nat) (c_2_c : Nat) (c_3 : Int) (size : Int) (w : World) (R : Value → World → Prop) : sxFn Try.prog TT h_unack_Build Try.f15 #[(.agg #[.int .i64 c_0, .int .i64 c_1, .slice c_2_a c_2_l c_2_c, .int .i64 c_3]), (.int .i64 size)] w R = F_unack_Build c_0 c_1 c_2_a c_2_l c_2_c c_3 size w R := by kernel_rfl
theorem F_unack_Build_ok {R : Ending → World → Prop} (c_0 : Int) (c_1 : Int) (c_2_a : Option Addr) (c_2_l : Nat) (c_2_c : Nat) (c_3 : Int) (size : Int) (w : World) (h : F_unack_Build c_0 c_1 c_2_a c_2_l c_2_c c_3 size w fun v w' => R (.returned v) w') : Calls Try.prog N_unack_Build #[(.agg #[.int .i64 c_0, .int .i64 c_1, .slice c_2_a c_2_l c_2_c, .int .i64 c_3]), (.int .i64 size)] w R :=
  calls_of (f := 15) follows_ok Try.func15 (Eq.mpr (F_unack_Build_eq c_0 c_1 c_2_a c_2_l c_2_c c_3 size w _) h)

def h_unack_Receive : H := (.seq .reg (.seq .reg (.seq .reg .leaf)))
def F_unack_Receive (r_0 : Int) (r_1 : Int) (r_2 : Int) (r_3 : Int) (r_4 : Int) (r_5 : Int) (r_6 : Int) (r_7 : Int) (r_8 : Int) (r_9 : Int) (r_10 : Int) (r_11 : Int) (r_12 : Bool) (r_13_a : Option Addr) (r_13_l : Nat) (r_13_c : Nat) (b_a : Option Addr) (b_l : Nat) (b_c : Nat) (w : World) (R : Value → World → Prop) : Prop :=
  (kAlloc w #[(.int .i64 r_0), (.int .i64 r_1), (.int .i64 r_2), (.int .i64 r_3), (.int .i64 r_4), (.int .i64 r_5), (.int .i64 r_6), (.int .i64 r_7), (.int .i64 r_8), (.int .i64 r_9), (.int .i64 r_10), (.int .i64 r_11), (.bool r_12), (.slice r_13_a r_13_l r_13_c)] Ty_api_Receiver fun b w1 =>
  (kAlloc w1 #[.int .i64 (0 : Int), .int .i64 (0 : Int), .int .i64 (0 : Int), .int .i64 (0 : Int), .int .i64 (0 : Int), .int .i64 (0 : Int), .int .i64 (0 : Int), .int .i64 (0 : Int), .int .i64 (0 : Int), .int .i64 (0 : Int), .int .i64 (0 : Int), .int .i64 (0 : Int), .bool false, .slice none 0 0] Ty_api_Receiver fun b1 w2 =>
  (∃ x_0 x_1 x_2 x_3 x_4 x_5 x_6 x_7 x_8 x_9 x_10 x_11 : Int, ∃ x_12 : Bool, ∃ x_13_a : Option Addr, ∃ x_13_l x_13_c : Nat, cellsAt w2 ⟨b, 0, none⟩ 0 [(.int .i64 x_0), (.int .i64 x_1), (.int .i64 x_2), (.int .i64 x_3), (.int .i64 x_4), (.int .i64 x_5), (.int .i64 x_6), (.int .i64 x_7), (.int .i64 x_8), (.int .i64 x_9), (.int .i64 x_10), (.int .i64 x_11), (.bool x_12), (.slice x_13_a x_13_l x_13_c)] ∧
  (Calls Try.prog N_receiver_Receive #[(.agg #[.int .i64 x_0, .int .i64 x_1, .int .i64 x_2, .int .i64 x_3, .int .i64 x_4, .int .i64 x_5, .int .i64 x_6, .int .i64 x_7, .int .i64 x_8, .int .i64 x_9, .int .i64 x_10, .int .i64 x_11, .bool x_12, .slice x_13_a x_13_l x_13_c]), (.slice b_a b_l b_c)] w2 fun e_ w3 =>
  ∃ r_01 r_13 r_21 r_31 r_41 r_51 r_61 r_71 r_81 r_91 r_101 r_111 : Int, ∃ r_121 : Bool, ∃ r_13_a1 : Option Addr, ∃ r_13_l1 r_13_c1 : Nat, ∃ r_a : Option Addr, ∃ r_l r_c : Nat, ∃ r : Int, e_ = .returned (.tuple #[(.agg #[.int .i64 r_01, .int .i64 r_13, .int .i64 r_21, .int .i64 r_31, .int .i64 r_41, .int .i64 r_51, .int .i64 r_61, .int .i64 r_71, .int .i64 r_81, .int .i64 r_91, .int .i64 r_101, .int .i64 r_111, .bool r_121, .slice r_13_a1 r_13_l1 r_13_c1]), (.slice r_a r_l r_c), (.int .i64 r)]) ∧
  (kAlloc w3 #[.int .i64 (0 : Int), .int .i64 (0 : Int), .int .i64 (0 : Int), .int .i64 (0 : Int), .int .i64 (0 : Int), .int .i64 (0 : Int), .int .i64 (0 : Int), .int .i64 (0 : Int), .int .i64 (0 : Int), .int .i64 (0 : Int), .int .i64 (0 : Int), .int .i64 (0 : Int), .bool false, .slice none 0 0] Ty_api_Receiver fun b2 w4 =>
  (sxStore w4 ⟨b2, 0, none⟩ 0 [(.int .i64 r_01), (.int .i64 r_13), (.int .i64 r_21), (.int .i64 r_31), (.int .i64 r_41), (.int .i64 r_51), (.int .i64 r_61), (.int .i64 r_71), (.int .i64 r_81), (.int .i64 r_91), (.int .i64 r_101), (.int .i64 r_111), (.bool r_121), (.slice r_13_a1 r_13_l1 r_13_c1)] fun w5 =>
  (∃ x_01 x_13 x_21 x_31 x_41 x_51 x_61 x_71 x_81 x_91 x_101 x_111 : Int, ∃ x_121 : Bool, ∃ x_13_a1 : Option Addr, ∃ x_13_l1 x_13_c1 : Nat, cellsAt w5 ⟨b2, 0, none⟩ 0 [(.int .i64 x_01), (.int .i64 x_13), (.int .i64 x_21), (.int .i64 x_31), (.int .i64 x_41), (.int .i64 x_51), (.int .i64 x_61), (.int .i64 x_71), (.int .i64 x_81), (.int .i64 x_91), (.int .i64 x_101), (.int .i64 x_111), (.bool x_121), (.slice x_13_a1 x_13_l1 x_13_c1)] ∧
  (Calls Try.prog N_unack_plain #[(.agg #[.int .i64 x_01, .int .i64 x_13, .int .i64 x_21, .int .i64 x_31, .int .i64 x_41, .int .i64 x_51, .int .i64 x_61, .int .i64 x_71, .int .i64 x_81, .int .i64 x_91, .int .i64 x_101, .int .i64 x_111, .bool x_121, .slice x_13_a1 x_13_l1 x_13_c1])] w5 fun e_1 w6 =>
  ∃ r_02 r_14 r_22 r_32 r_42 r_52 r_62 r_72 r_82 r_92 r_102 r_112 : Int, ∃ r_122 : Bool, ∃ r_13_a2 : Option Addr, ∃ r_13_l2 r_13_c2 : Nat, e_1 = .returned (.agg #[.int .i64 r_02, .int .i64 r_14, .int .i64 r_22, .int .i64 r_32, .int .i64 r_42, .int .i64 r_52, .int .i64 r_62, .int .i64 r_72, .int .i64 r_82, .int .i64 r_92, .int .i64 r_102, .int .i64 r_112, .bool r_122, .slice r_13_a2 r_13_l2 r_13_c2]) ∧
  (sxStore w6 ⟨b1, 0, none⟩ 0 [(.int .i64 r_02), (.int .i64 r_14), (.int .i64 r_22), (.int .i64 r_32), (.int .i64 r_42), (.int .i64 r_52), (.int .i64 r_62), (.int .i64 r_72), (.int .i64 r_82), (.int .i64 r_92), (.int .i64 r_102), (.int .i64 r_112), (.bool r_122), (.slice r_13_a2 r_13_l2 r_13_c2)] fun w7 =>
  (∃ r_03 r_15 r_23 r_33 r_43 r_53 r_63 r_73 r_83 r_93 r_103 r_113 : Int, ∃ r_123 : Bool, ∃ r_13_a3 : Option Addr, ∃ r_13_l3 r_13_c3 : Nat, cellsAt w7 ⟨b1, 0, none⟩ 0 [(.int .i64 r_03), (.int .i64 r_15), (.int .i64 r_23), (.int .i64 r_33), (.int .i64 r_43), (.int .i64 r_53), (.int .i64 r_63), (.int .i64 r_73), (.int .i64 r_83), (.int .i64 r_93), (.int .i64 r_103), (.int .i64 r_113), (.bool r_123), (.slice r_13_a3 r_13_l3 r_13_c3)] ∧
  R (.tuple #[(.agg #[.int .i64 r_03, .int .i64 r_15, .int .i64 r_23, .int .i64 r_33, .int .i64 r_43, .int .i64 r_53, .int .i64 r_63, .int .i64 r_73, .int .i64 r_83, .int .i64 r_93, .int .i64 r_103, .int .i64 r_113, .bool r_123, .slice r_13_a3 r_13_l3 r_13_c3]), (.slice r_a r_l r_c), (.int .i64 r)]) w7))))))))))
theorem F_unack_Receive_eq (r_0 : Int) (r_1 : Int) (r_2 : Int) (r_3 : Int) (r_4 : Int) (r_5 : Int) (r_6 : Int) (r_7 : Int) (r_8 : Int) (r_9 : Int) (r_10 : Int) (r_11 : Int) (r_12 : Bool) (r_13_a : Option Addr) (r_13_l : Nat) (r_13_c : Nat) (b_a : Option Addr) (b_l : Nat) (b_c : Nat) (w : World) (R : Value → World → Prop) : sxFn Try.prog TT h_unack_Receive Try.f16 #[(.agg #[.int .i64 r_0, .int .i64 r_1, .int .i64 r_2, .int .i64 r_3, .int .i64 r_4, .int .i64 r_5, .int .i64 r_6, .int .i64 r_7, .int .i64 r_8, .int .i64 r_9, .int .i64 r_10, .int .i64 r_11, .bool r_12, .slice r_13_a r_13_l r_13_c]), (.slice b_a b_l b_c)] w R = F_unack_Receive r_0 r_1 r_2 r_3 r_4 r_5 r_6 r_7 r_8 r_9 r_10 r_11 r_12 r_13_a r_13_l r_13_c b_a b_l b_c w R := by kernel_rfl
theorem F_unack_Receive_ok {R : Ending → World → Prop} (r_0 : Int) (r_1 : Int) (r_2 : Int) (r_3 : Int) (r_4 : Int) (r_5 : Int) (r_6 : Int) (r_7 : Int) (r_8 : Int) (r_9 : Int) (r_10 : Int) (r_11 : Int) (r_12 : Bool) (r_13_a : Option Addr) (r_13_l : Nat) (r_13_c : Nat) (b_a : Option Addr) (b_l : Nat) (b_c : Nat) (w : World) (h : F_unack_Receive r_0 r_1 r_2 r_3 r_4 r_5 r_6 r_7 r_8 r_9 r_10 r_11 r_12 r_13_a r_13_l r_13_c b_a b_l b_c w fun v w' => R (.returned v) w') : Calls Try.prog N_unack_Receive #[(.agg #[.int .i64 r_0, .int .i64 r_1, .int .i64 r_2, .int .i64 r_3, .int .i64 r_4, .int .i64 r_5, .int .i64 r_6, .int .i64 r_7, .int .i64 r_8, .int .i64 r_9, .int .i64 r_10, .int .i64 r_11, .bool r_12, .slice r_13_a r_13_l r_13_c]), (.slice b_a b_l b_c)] w R :=
  calls_of (f := 16) follows_ok Try.func16 (Eq.mpr (F_unack_Receive_eq r_0 r_1 r_2 r_3 r_4 r_5 r_6 r_7 r_8 r_9 r_10 r_11 r_12 r_13_a r_13_l r_13_c b_a b_l b_c w _) h)

def h_roll_SameAll : H := (.seq .reg (.seq (.seq .reg (.cond (.seq .reg .leaf) .leaf)) (.seq (.seq .reg (.block (.loop [(5, .p (.int .i64))] [4, 5, 11, 12, 13, 14, 15, 16, 17, 18, 19, 20, 21, 22, 23, 24, 25, 26, 27] (.seq (.seq .reg (.cond .leaf .leaf)) (.seq (.block (.seq (.draw .blk (.one 0 .stable (.one 1 .stable (.one 2 .stable (.one 3 .stable (.one 5 .stable (.one 6 .stable (.one 7 .stable (.one 8 .stable (.alt 4 (.one 9 .keep (.one 10 .stable .nil)) (.alt 9 (.one 4 .keep (.one 10 .stable .nil)) .endAlt))))))))))) (.cond (.seq .reg .leaf) .leaf))) .reg))))) (.seq .reg .leaf))))
def F_roll_SameAll (a_a : Option Addr) (a_l : Nat) (_ : Nat) (b_a : Option Addr) (b_l : Nat) (_ : Nat) (w : World) (R : Value → World → Prop) : Prop :=
  (bsplit (!decide ((a_l : Int) = (b_l : Int)))
    (R (.bool false) w)
    ((∃ I : Int → Nat × (World → Prop), (I (0 : Int)).2 w ∧
    (∀ (_junk : Env) (i : Int) (w1 : World), (I i).2 w1 →
      (bsplit (decide (i < (a_l : Int)))
        ((kDrew w1 fun w2 =>
        (∃ S : Nat → Prop,
        (kIx a_a a_l i fun b =>
        (S (b.add (i.toNat * 1)).block ∧
        (kLdS w2 (b.add (i.toNat * 1)) fun x_a x_l x_c =>
        (kIx b_a b_l i fun b1 =>
        (S (b1.add (i.toNat * 1)).block ∧
        (kLdS w2 (b1.add (i.toNat * 1)) fun x_a1 x_l1 x_c1 =>
        ((ConvS Try.prog Ty_S_uint8 Ty_string (.slice x_a x_l x_c) w2 fun x3 =>
        (KeepsB S w2 w2 ∧ (ConvS Try.prog Ty_S_uint8 Ty_string (.slice x_a1 x_l1 x_c1) w2 fun x4 =>
        (KeepsB S w2 w2 ∧ (bsplit (!(x3 == x4))
          (R (.bool false) w2)
          ((kW .i64 (i + (1 : Int)) fun x5 =>
          ((I x5).2 w2 ∧ (I x5).1 < (I i).1)))))))) ∧
        ((ConvS Try.prog Ty_S_uint8 Ty_string (.slice x_a1 x_l1 x_c1) w2 fun x =>
        (KeepsB S w2 w2 ∧ (ConvS Try.prog Ty_S_uint8 Ty_string (.slice x_a x_l x_c) w2 fun x1 =>
        (KeepsB S w2 w2 ∧ (bsplit (!(x1 == x))
          (R (.bool false) w2)
          ((kW .i64 (i + (1 : Int)) fun x2 =>
          ((I x2).2 w2 ∧ (I x2).1 < (I i).1)))))))) ∧
        True)))))))))))
        (R (.bool true) w1))))))
theorem F_roll_SameAll_eq (a_a : Option Addr) (a_l : Nat) (a_c : Nat) (b_a : Option Addr) (b_l : Nat) (b_c : Nat) (w : World) (R : Value → World → Prop) : sxFn Try.prog TT h_roll_SameAll Try.f17 #[(.slice a_a a_l a_c), (.slice b_a b_l b_c)] w R = F_roll_SameAll a_a a_l a_c b_a b_l b_c w R := by kernel_rfl
theorem F_roll_SameAll_ok {R : Ending → World → Prop} (a_a : Option Addr) (a_l : Nat) (a_c : Nat) (b_a : Option Addr) (b_l : Nat) (b_c : Nat) (w : World) (h : F_roll_SameAll a_a a_l a_c b_a b_l b_c w fun v w' => R (.returned v) w') : Calls Try.prog N_roll_SameAll #[(.slice a_a a_l a_c), (.slice b_a b_l b_c)] w R :=
  calls_of (f := 17) follows_ok Try.func17 (Eq.mpr (F_roll_SameAll_eq a_a a_l a_c b_a b_l b_c w _) h)

def h_roll_Same : H := (.seq .reg (.seq .reg .leaf))
def F_roll_Same (a_a : Option Addr) (a_l : Nat) (a_c : Nat) (b_a : Option Addr) (b_l : Nat) (b_c : Nat) (w : World) (R : Value → World → Prop) : Prop :=
  (ConvS Try.prog Ty_S_uint8 Ty_string (.slice a_a a_l a_c) w fun x =>
  (ConvS Try.prog Ty_S_uint8 Ty_string (.slice b_a b_l b_c) w fun x1 =>
  R (.bool (x == x1)) w))
theorem F_roll_Same_eq (a_a : Option Addr) (a_l : Nat) (a_c : Nat) (b_a : Option Addr) (b_l : Nat) (b_c : Nat) (w : World) (R : Value → World → Prop) : sxFn Try.prog TT h_roll_Same Try.f18 #[(.slice a_a a_l a_c), (.slice b_a b_l b_c)] w R = F_roll_Same a_a a_l a_c b_a b_l b_c w R := by kernel_rfl
theorem F_roll_Same_ok {R : Ending → World → Prop} (a_a : Option Addr) (a_l : Nat) (a_c : Nat) (b_a : Option Addr) (b_l : Nat) (b_c : Nat) (w : World) (h : F_roll_Same a_a a_l a_c b_a b_l b_c w fun v w' => R (.returned v) w') : Calls Try.prog N_roll_Same #[(.slice a_a a_l a_c), (.slice b_a b_l b_c)] w R :=
  calls_of (f := 18) follows_ok Try.func18 (Eq.mpr (F_roll_Same_eq a_a a_l a_c b_a b_l b_c w _) h)

def h_unack_Valid : H := (.seq .reg (.seq (.cut [(30, .p .bool)] [3, 4, 5, 6, 7, 8, 9, 10, 11, 12, 13, 14, 15, 16, 17, 18, 19, 20, 21, 22, 23, 24, 25, 26, 27, 28, 29, 30] (.draw .blk (.one 0 .pur (.one 1 .pre (.one 2 .keep (.one 3 .pur (.one 4 .pur (.one 5 .pur (.one 6 .stable (.one 7 .pur (.one 8 .pur (.one 9 .pur (.one 10 .pur (.one 11 .stable (.one 12 .pur (.one 13 .stable (.one 14 .pur (.one 15 .pur (.one 16 .pur (.one 17 .pur (.one 18 .pur (.one 19 .stable (.one 20 .pur (.one 21 .pur (.one 22 .pur (.one 23 .pur (.one 24 .pur (.one 25 .stable (.one 26 .pur (.one 27 .pur .nil))))))))))))))))))))))))))))) (.cond (.seq .reg .leaf) .leaf)) (.seq (.seq .reg (.cond (.seq .reg .leaf) .leaf)) (.seq (.draw .no (.one 0 .pur (.one 1 .stable (.one 2 .pur (.one 3 .pur (.one 4 .pur (.one 5 .stable (.one 6 .pur (.one 7 .pur (.one 8 .pur (.one 9 .pur (.one 10 .stable (.one 11 .pur (.one 12 .stable (.one 13 .pur (.one 14 .stable (.one 15 .pur (.one 16 .pur (.one 17 .pur (.one 18 .pur (.one 19 .pur .nil))))))))))))))))))))) .leaf))))
def F_unack_Valid (c_0 : Int) (c_1 : Int) (c_2_a : Option Addr) (c_2_l : Nat) (c_2_c : Nat) (c_3 : Int) (w : World) (R : Value → World → Prop) : Prop :=
  (kAlloc w #[(.int .i64 c_0), (.int .i64 c_1), (.slice c_2_a c_2_l c_2_c), (.int .i64 c_3)] Ty_api_Cutter fun b w1 =>
  (∃ J : Bool → World → Prop,
  (∀ (_junk : Env) (x6 : Bool) (w4 : World), J x6 w4 →
    (bsplit x6
      (R (.bool false) w4)
      ((kLdS w4 ⟨b, 2, none⟩ fun x_a1 x_l1 x_c1 =>
      (Calls Try.prog N_slices_ContainsFunc_SSbyte_Sbyte #[(.slice x_a1 x_l1 x_c1), (.func (.func N_unack_Valid_1) #[] #[])] w4 fun e_1 w5 =>
      ∃ r1 : Bool, e_1 = .returned (.bool r1) ∧
      (bsplit r1
        (R (.bool false) w5)
        ((kDrew w5 fun w6 =>
        (kLd w6 ⟨b, 3, none⟩ .i64 fun x7 =>
        (bsplit (decide (x7 = (0 : Int)))
          (R (.bool true) w6)
          ((kLdS w6 ⟨b, 2, none⟩ fun _ x_l2 _ =>
          (bsplit (decide ((x_l2 : Int) > (0 : Int)))
            ((kLd w6 ⟨b, 3, none⟩ .i64 fun x8 =>
            (kLdS w6 ⟨b, 2, none⟩ fun x_a3 x_l3 _ =>
            (kIx x_a3 x_l3 (0 : Int) fun b1 =>
            (kLdS w6 (b1.add ((0 : Int).toNat * 1)) fun _ x_l4 _ =>
            (kLet (decide (x8 < (x_l4 : Int))) fun x9 =>
            R (.bool x9) w6))))))
            (R (.bool false) w6)))))))))))))) ∧
  (kDrew w1 fun w2 =>
  (∃ S : Nat → Prop,
  (kLd w2 ⟨b, 0, none⟩ .i64 fun x =>
  (Calls Try.prog N_unack_bitsValid #[(.int .i64 x)] w2 fun e_ w3 =>
  ∃ r : Bool, e_ = .returned (.bool r) ∧
  (KeepsB S w2 w3 ∧ (bsplit (!r)
    (J true w3)
    ((S b ∧
    (kLd w2 ⟨b, 1, none⟩ .i64 fun x1 =>
    (bsplit (decide (x1 < (0 : Int)))
      (J true w3)
      ((S b ∧
      (kLd w2 ⟨b, 1, none⟩ .i64 fun x2 =>
      (S b ∧
      (kLd w2 ⟨b, 0, none⟩ .i64 fun x3 =>
      (0 ≤ x3 ∧ (kW .i64 ((1 : Int) * 2 ^ (min x3.toNat (IntKind.bits .i64))) fun x4 =>
      (bsplit (decide (x2 ≥ x4))
        (J true w3)
        ((S b ∧
        (kLdS w2 ⟨b, 2, none⟩ fun _ x_l _ =>
        (bsplit (decide ((x_l : Int) > (256 : Int)))
          (J true w3)
          ((S b ∧
          (kLd w2 ⟨b, 3, none⟩ .i64 fun x5 =>
          J (decide (x5 < (0 : Int))) w3)))))))))))))))))))))))))))
theorem F_unack_Valid_eq (c_0 : Int) (c_1 : Int) (c_2_a : Option Addr) (c_2_l : Nat) (c_2_c : Nat) (c_3 : Int) (w : World) (R : Value → World → Prop) : sxFn Try.prog TT h_unack_Valid Try.f19 #[(.agg #[.int .i64 c_0, .int .i64 c_1, .slice c_2_a c_2_l c_2_c, .int .i64 c_3])] w R = F_unack_Valid c_0 c_1 c_2_a c_2_l c_2_c c_3 w R := by kernel_rfl
theorem F_unack_Valid_ok {R : Ending → World → Prop} (c_0 : Int) (c_1 : Int) (c_2_a : Option Addr) (c_2_l : Nat) (c_2_c : Nat) (c_3 : Int) (w : World) (h : F_unack_Valid c_0 c_1 c_2_a c_2_l c_2_c c_3 w fun v w' => R (.returned v) w') : Calls Try.prog N_unack_Valid #[(.agg #[.int .i64 c_0, .int .i64 c_1, .slice c_2_a c_2_l c_2_c, .int .i64 c_3])] w R :=
  calls_of (f := 19) follows_ok Try.func19 (Eq.mpr (F_unack_Valid_eq c_0 c_1 c_2_a c_2_l c_2_c c_3 w _) h)

def h_unack_bitsValid : H := (.seq .reg (.seq .reg .leaf))
def F_unack_bitsValid (bits : Int) (w : World) (R : Value → World → Prop) : Prop :=
  (bsplit (decide (bits ≥ (5 : Int)))
    ((kLet (decide (bits ≤ (9 : Int))) fun x =>
    R (.bool x) w))
    (R (.bool false) w))
theorem F_unack_bitsValid_eq (bits : Int) (w : World) (R : Value → World → Prop) : sxFn Try.prog TT h_unack_bitsValid Try.f20 #[(.int .i64 bits)] w R = F_unack_bitsValid bits w R := by kernel_rfl
theorem F_unack_bitsValid_ok {R : Ending → World → Prop} (bits : Int) (w : World) (h : F_unack_bitsValid bits w fun v w' => R (.returned v) w') : Calls Try.prog N_unack_bitsValid #[(.int .i64 bits)] w R :=
  calls_of (f := 20) follows_ok Try.func20 (Eq.mpr (F_unack_bitsValid_eq bits w _) h)

def h_receiver_New : H := (.seq .reg (.seq (.seq .reg (.cond (.seq .reg .leaf) .leaf)) (.seq .reg .leaf)))
def F_receiver_New (l_0 : Int) (l_1 : Int) (l_2 : Int) (l_3 : Int) (l_4 : Int) (l_5 : Int) (w : World) (R : Value → World → Prop) : Prop :=
  (kAlloc w #[(.int .i64 l_0), (.int .i64 l_1), (.int .i64 l_2), (.int .i64 l_3), (.int .i64 l_4), (.int .i64 l_5)] Ty_api_Link fun b w1 =>
  (kAlloc w1 #[.int .i64 (0 : Int), .int .i64 (0 : Int), .int .i64 (0 : Int), .int .i64 (0 : Int), .int .i64 (0 : Int), .int .i64 (0 : Int), .int .i64 (0 : Int), .int .i64 (0 : Int), .int .i64 (0 : Int), .int .i64 (0 : Int), .int .i64 (0 : Int), .int .i64 (0 : Int), .bool false, .slice none 0 0] Ty_api_Receiver fun b1 w2 =>
  (∃ x_0 x_1 x_2 x_3 x_4 x_5 : Int, cellsAt w2 ⟨b, 0, none⟩ 0 [(.int .i64 x_0), (.int .i64 x_1), (.int .i64 x_2), (.int .i64 x_3), (.int .i64 x_4), (.int .i64 x_5)] ∧
  (Calls Try.prog N_sender_ValidLink #[(.agg #[.int .i64 x_0, .int .i64 x_1, .int .i64 x_2, .int .i64 x_3, .int .i64 x_4, .int .i64 x_5])] w2 fun e_ w3 =>
  ∃ r : Bool, e_ = .returned (.bool r) ∧
  (bsplit (!r)
    ((sxStore w3 ⟨b1, 0, none⟩ 0 [(.int .i64 (0 : Int)), (.int .i64 (0 : Int)), (.int .i64 (0 : Int)), (.int .i64 (0 : Int)), (.int .i64 (0 : Int)), (.int .i64 (0 : Int)), (.int .i64 (0 : Int)), (.int .i64 (0 : Int)), (.int .i64 (0 : Int)), (.int .i64 (0 : Int)), (.int .i64 (0 : Int)), (.int .i64 (0 : Int)), (.bool false), (.slice none 0 0)] fun w4 =>
    (∃ r_0 r_1 r_2 r_3 r_4 r_5 r_6 r_7 r_8 r_9 r_10 r_11 : Int, ∃ r_12 : Bool, ∃ r_13_a : Option Addr, ∃ r_13_l r_13_c : Nat, cellsAt w4 ⟨b1, 0, none⟩ 0 [(.int .i64 r_0), (.int .i64 r_1), (.int .i64 r_2), (.int .i64 r_3), (.int .i64 r_4), (.int .i64 r_5), (.int .i64 r_6), (.int .i64 r_7), (.int .i64 r_8), (.int .i64 r_9), (.int .i64 r_10), (.int .i64 r_11), (.bool r_12), (.slice r_13_a r_13_l r_13_c)] ∧
    R (.tuple #[(.agg #[.int .i64 r_0, .int .i64 r_1, .int .i64 r_2, .int .i64 r_3, .int .i64 r_4, .int .i64 r_5, .int .i64 r_6, .int .i64 r_7, .int .i64 r_8, .int .i64 r_9, .int .i64 r_10, .int .i64 r_11, .bool r_12, .slice r_13_a r_13_l r_13_c]), (.int .i64 (3 : Int))]) w4)))
    ((∃ x_01 x_11 x_21 x_31 x_41 x_51 : Int, cellsAt w3 ⟨b, 0, none⟩ 0 [(.int .i64 x_01), (.int .i64 x_11), (.int .i64 x_21), (.int .i64 x_31), (.int .i64 x_41), (.int .i64 x_51)] ∧
    (sxStore w3 ⟨b1, 0, none⟩ 0 [(.int .i64 x_01), (.int .i64 x_11), (.int .i64 x_21), (.int .i64 x_31), (.int .i64 x_41), (.int .i64 x_51), (.int .i64 (0 : Int)), (.int .i64 (0 : Int)), (.int .i64 (0 : Int)), (.int .i64 (-1 : Int)), (.int .i64 (0 : Int)), (.int .i64 (0 : Int)), (.bool false), (.slice none 0 0)] fun w5 =>
    (∃ r_01 r_13 r_21 r_31 r_41 r_51 r_61 r_71 r_81 r_91 r_101 r_111 : Int, ∃ r_121 : Bool, ∃ r_13_a1 : Option Addr, ∃ r_13_l1 r_13_c1 : Nat, cellsAt w5 ⟨b1, 0, none⟩ 0 [(.int .i64 r_01), (.int .i64 r_13), (.int .i64 r_21), (.int .i64 r_31), (.int .i64 r_41), (.int .i64 r_51), (.int .i64 r_61), (.int .i64 r_71), (.int .i64 r_81), (.int .i64 r_91), (.int .i64 r_101), (.int .i64 r_111), (.bool r_121), (.slice r_13_a1 r_13_l1 r_13_c1)] ∧
    R (.tuple #[(.agg #[.int .i64 r_01, .int .i64 r_13, .int .i64 r_21, .int .i64 r_31, .int .i64 r_41, .int .i64 r_51, .int .i64 r_61, .int .i64 r_71, .int .i64 r_81, .int .i64 r_91, .int .i64 r_101, .int .i64 r_111, .bool r_121, .slice r_13_a1 r_13_l1 r_13_c1]), (.int .i64 (0 : Int))]) w5)))))))))
theorem F_receiver_New_eq (l_0 : Int) (l_1 : Int) (l_2 : Int) (l_3 : Int) (l_4 : Int) (l_5 : Int) (w : World) (R : Value → World → Prop) : sxFn Try.prog TT h_receiver_New Try.f21 #[(.agg #[.int .i64 l_0, .int .i64 l_1, .int .i64 l_2, .int .i64 l_3, .int .i64 l_4, .int .i64 l_5])] w R = F_receiver_New l_0 l_1 l_2 l_3 l_4 l_5 w R := by kernel_rfl
theorem F_receiver_New_ok {R : Ending → World → Prop} (l_0 : Int) (l_1 : Int) (l_2 : Int) (l_3 : Int) (l_4 : Int) (l_5 : Int) (w : World) (h : F_receiver_New l_0 l_1 l_2 l_3 l_4 l_5 w fun v w' => R (.returned v) w') : Calls Try.prog N_receiver_New #[(.agg #[.int .i64 l_0, .int .i64 l_1, .int .i64 l_2, .int .i64 l_3, .int .i64 l_4, .int .i64 l_5])] w R :=
  calls_of (f := 21) follows_ok Try.func21 (Eq.mpr (F_receiver_New_eq l_0 l_1 l_2 l_3 l_4 l_5 w _) h)

def h_ref21_New : H := (.seq .reg (.seq (.seq .reg (.cond (.seq .reg .leaf) .leaf)) (.seq .reg .leaf)))
def F_ref21_New (l_0 : Int) (l_1 : Int) (l_2 : Int) (l_3 : Int) (l_4 : Int) (l_5 : Int) (w : World) (R : Value → World → Prop) : Prop :=
  (kAlloc w #[(.int .i64 l_0), (.int .i64 l_1), (.int .i64 l_2), (.int .i64 l_3), (.int .i64 l_4), (.int .i64 l_5)] Ty_api_Link fun b w1 =>
  (kAlloc w1 #[.int .i64 (0 : Int), .int .i64 (0 : Int), .int .i64 (0 : Int), .int .i64 (0 : Int), .int .i64 (0 : Int), .int .i64 (0 : Int), .int .i64 (0 : Int), .int .i64 (0 : Int), .int .i64 (0 : Int), .int .i64 (0 : Int), .int .i64 (0 : Int), .int .i64 (0 : Int), .bool false, .slice none 0 0] Ty_api_Receiver fun b1 w2 =>
  (∃ x_0 x_1 x_2 x_3 x_4 x_5 : Int, cellsAt w2 ⟨b, 0, none⟩ 0 [(.int .i64 x_0), (.int .i64 x_1), (.int .i64 x_2), (.int .i64 x_3), (.int .i64 x_4), (.int .i64 x_5)] ∧
  (Calls Try.prog N_ref20_ValidLink #[(.agg #[.int .i64 x_0, .int .i64 x_1, .int .i64 x_2, .int .i64 x_3, .int .i64 x_4, .int .i64 x_5])] w2 fun e_ w3 =>
  ∃ r : Bool, e_ = .returned (.bool r) ∧
  (bsplit (!r)
    ((sxStore w3 ⟨b1, 0, none⟩ 0 [(.int .i64 (0 : Int)), (.int .i64 (0 : Int)), (.int .i64 (0 : Int)), (.int .i64 (0 : Int)), (.int .i64 (0 : Int)), (.int .i64 (0 : Int)), (.int .i64 (0 : Int)), (.int .i64 (0 : Int)), (.int .i64 (0 : Int)), (.int .i64 (0 : Int)), (.int .i64 (0 : Int)), (.int .i64 (0 : Int)), (.bool false), (.slice none 0 0)] fun w4 =>
    (∃ r_0 r_1 r_2 r_3 r_4 r_5 r_6 r_7 r_8 r_9 r_10 r_11 : Int, ∃ r_12 : Bool, ∃ r_13_a : Option Addr, ∃ r_13_l r_13_c : Nat, cellsAt w4 ⟨b1, 0, none⟩ 0 [(.int .i64 r_0), (.int .i64 r_1), (.int .i64 r_2), (.int .i64 r_3), (.int .i64 r_4), (.int .i64 r_5), (.int .i64 r_6), (.int .i64 r_7), (.int .i64 r_8), (.int .i64 r_9), (.int .i64 r_10), (.int .i64 r_11), (.bool r_12), (.slice r_13_a r_13_l r_13_c)] ∧
    R (.tuple #[(.agg #[.int .i64 r_0, .int .i64 r_1, .int .i64 r_2, .int .i64 r_3, .int .i64 r_4, .int .i64 r_5, .int .i64 r_6, .int .i64 r_7, .int .i64 r_8, .int .i64 r_9, .int .i64 r_10, .int .i64 r_11, .bool r_12, .slice r_13_a r_13_l r_13_c]), (.int .i64 (3 : Int))]) w4)))
    ((∃ x_01 x_11 x_21 x_31 x_41 x_51 : Int, cellsAt w3 ⟨b, 0, none⟩ 0 [(.int .i64 x_01), (.int .i64 x_11), (.int .i64 x_21), (.int .i64 x_31), (.int .i64 x_41), (.int .i64 x_51)] ∧
    (sxStore w3 ⟨b1, 0, none⟩ 0 [(.int .i64 x_01), (.int .i64 x_11), (.int .i64 x_21), (.int .i64 x_31), (.int .i64 x_41), (.int .i64 x_51), (.int .i64 (0 : Int)), (.int .i64 (0 : Int)), (.int .i64 (0 : Int)), (.int .i64 (-1 : Int)), (.int .i64 (0 : Int)), (.int .i64 (0 : Int)), (.bool false), (.slice none 0 0)] fun w5 =>
    (∃ r_01 r_13 r_21 r_31 r_41 r_51 r_61 r_71 r_81 r_91 r_101 r_111 : Int, ∃ r_121 : Bool, ∃ r_13_a1 : Option Addr, ∃ r_13_l1 r_13_c1 : Nat, cellsAt w5 ⟨b1, 0, none⟩ 0 [(.int .i64 r_01), (.int .i64 r_13), (.int .i64 r_21), (.int .i64 r_31), (.int .i64 r_41), (.int .i64 r_51), (.int .i64 r_61), (.int .i64 r_71), (.int .i64 r_81), (.int .i64 r_91), (.int .i64 r_101), (.int .i64 r_111), (.bool r_121), (.slice r_13_a1 r_13_l1 r_13_c1)] ∧
    R (.tuple #[(.agg #[.int .i64 r_01, .int .i64 r_13, .int .i64 r_21, .int .i64 r_31, .int .i64 r_41, .int .i64 r_51, .int .i64 r_61, .int .i64 r_71, .int .i64 r_81, .int .i64 r_91, .int .i64 r_101, .int .i64 r_111, .bool r_121, .slice r_13_a1 r_13_l1 r_13_c1]), (.int .i64 (0 : Int))]) w5)))))))))
theorem F_ref21_New_eq (l_0 : Int) (l_1 : Int) (l_2 : Int) (l_3 : Int) (l_4 : Int) (l_5 : Int) (w : World) (R : Value → World → Prop) : sxFn Try.prog TT h_ref21_New Try.f22 #[(.agg #[.int .i64 l_0, .int .i64 l_1, .int .i64 l_2, .int .i64 l_3, .int .i64 l_4, .int .i64 l_5])] w R = F_ref21_New l_0 l_1 l_2 l_3 l_4 l_5 w R := by kernel_rfl
theorem F_ref21_New_ok {R : Ending → World → Prop} (l_0 : Int) (l_1 : Int) (l_2 : Int) (l_3 : Int) (l_4 : Int) (l_5 : Int) (w : World) (h : F_ref21_New l_0 l_1 l_2 l_3 l_4 l_5 w fun v w' => R (.returned v) w') : Calls Try.prog N_ref21_New #[(.agg #[.int .i64 l_0, .int .i64 l_1, .int .i64 l_2, .int .i64 l_3, .int .i64 l_4, .int .i64 l_5])] w R :=
  calls_of (f := 22) follows_ok Try.func22 (Eq.mpr (F_ref21_New_eq l_0 l_1 l_2 l_3 l_4 l_5 w _) h)

def h_ref23_Link : H := (.seq .reg (.seq .reg .leaf))
def F_ref23_Link (n : Int) (wait : Int) (w : World) (R : Value → World → Prop) : Prop :=
  (kAlloc w #[.int .i64 (0 : Int), .int .i64 (0 : Int), .int .i64 (0 : Int), .int .i64 (0 : Int), .int .i64 (0 : Int), .int .i64 (0 : Int)] Ty_api_Link fun b w1 =>
  (sxStore w1 ⟨b, 0, none⟩ 0 [(.int .i64 n), (.int .i64 (1 : Int)), (.int .i64 (1 : Int)), (.int .i64 wait), (.int .i64 (0 : Int)), (.int .i64 (1 : Int))] fun w2 =>
  (∃ r_0 r_1 r_2 r_3 r_4 r_5 : Int, cellsAt w2 ⟨b, 0, none⟩ 0 [(.int .i64 r_0), (.int .i64 r_1), (.int .i64 r_2), (.int .i64 r_3), (.int .i64 r_4), (.int .i64 r_5)] ∧
  R (.agg #[.int .i64 r_0, .int .i64 r_1, .int .i64 r_2, .int .i64 r_3, .int .i64 r_4, .int .i64 r_5]) w2)))
theorem F_ref23_Link_eq (n : Int) (wait : Int) (w : World) (R : Value → World → Prop) : sxFn Try.prog TT h_ref23_Link Try.f23 #[(.int .i64 n), (.int .i64 wait)] w R = F_ref23_Link n wait w R := by kernel_rfl
theorem F_ref23_Link_ok {R : Ending → World → Prop} (n : Int) (wait : Int) (w : World) (h : F_ref23_Link n wait w fun v w' => R (.returned v) w') : Calls Try.prog N_ref23_Link #[(.int .i64 n), (.int .i64 wait)] w R :=
  calls_of (f := 23) follows_ok Try.func23 (Eq.mpr (F_ref23_Link_eq n wait w _) h)

def h_ref23_Submit : H := (.seq .reg (.seq (.block (.seq .reg (.cond (.seq .reg .leaf) (.cut [(11, .p .bool)] [11, 12, 13, 14, 15, 16, 17, 18, 19] .reg (.cond (.seq .reg .leaf) (.seq .reg (.cond (.seq .reg .leaf) .leaf))))))) (.seq .reg (.seq .reg .leaf))))
def F_ref23_Submit (c_0 : Int) (c_1 : Int) (c_2_a : Option Addr) (c_2_l : Nat) (c_2_c : Nat) (c_3 : Int) (data_a : Option Addr) (data_l : Nat) (data_c : Nat) (w : World) (R : Value → World → Prop) : Prop :=
  (kAlloc w #[(.int .i64 c_0), (.int .i64 c_1), (.slice c_2_a c_2_l c_2_c), (.int .i64 c_3)] Ty_api_Cutter fun b w1 =>
  (kAlloc w1 #[.int .i64 (0 : Int), .int .i64 (0 : Int), .slice none 0 0, .int .i64 (0 : Int)] Ty_api_Cutter fun b1 w2 =>
  (∃ x_0 x_1 : Int, ∃ x_2_a : Option Addr, ∃ x_2_l x_2_c : Nat, ∃ x_3 : Int, cellsAt w2 ⟨b, 0, none⟩ 0 [(.int .i64 x_0), (.int .i64 x_1), (.slice x_2_a x_2_l x_2_c), (.int .i64 x_3)] ∧
  (Calls Try.prog N_ref23_Valid #[(.agg #[.int .i64 x_0, .int .i64 x_1, .slice x_2_a x_2_l x_2_c, .int .i64 x_3])] w2 fun e_ w3 =>
  ∃ r : Bool, e_ = .returned (.bool r) ∧
  (bsplit (!r)
    ((∃ x_01 x_11 : Int, ∃ x_2_a1 : Option Addr, ∃ x_2_l1 x_2_c1 : Nat, ∃ x_31 : Int, cellsAt w3 ⟨b, 0, none⟩ 0 [(.int .i64 x_01), (.int .i64 x_11), (.slice x_2_a1 x_2_l1 x_2_c1), (.int .i64 x_31)] ∧
    (sxStore w3 ⟨b1, 0, none⟩ 0 [(.int .i64 x_01), (.int .i64 x_11), (.slice x_2_a1 x_2_l1 x_2_c1), (.int .i64 x_31)] fun w4 =>
    (∃ r_0 r_1 : Int, ∃ r_2_a : Option Addr, ∃ r_2_l r_2_c : Nat, ∃ r_3 : Int, cellsAt w4 ⟨b1, 0, none⟩ 0 [(.int .i64 r_0), (.int .i64 r_1), (.slice r_2_a r_2_l r_2_c), (.int .i64 r_3)] ∧
    R (.tuple #[(.agg #[.int .i64 r_0, .int .i64 r_1, .slice r_2_a r_2_l r_2_c, .int .i64 r_3]), (.int .i64 (1 : Int))]) w4))))
    ((∃ J : Bool → World → Prop,
    (∀ (_junk : Env) (x1 : Bool) (w5 : World), J x1 w5 →
      (bsplit x1
        ((∃ x_02 x_12 : Int, ∃ x_2_a2 : Option Addr, ∃ x_2_l2 x_2_c2 : Nat, ∃ x_32 : Int, cellsAt w5 ⟨b, 0, none⟩ 0 [(.int .i64 x_02), (.int .i64 x_12), (.slice x_2_a2 x_2_l2 x_2_c2), (.int .i64 x_32)] ∧
        (sxStore w5 ⟨b1, 0, none⟩ 0 [(.int .i64 x_02), (.int .i64 x_12), (.slice x_2_a2 x_2_l2 x_2_c2), (.int .i64 x_32)] fun w6 =>
        (∃ r_01 r_11 : Int, ∃ r_2_a1 : Option Addr, ∃ r_2_l1 r_2_c1 : Nat, ∃ r_31 : Int, cellsAt w6 ⟨b1, 0, none⟩ 0 [(.int .i64 r_01), (.int .i64 r_11), (.slice r_2_a1 r_2_l1 r_2_c1), (.int .i64 r_31)] ∧
        R (.tuple #[(.agg #[.int .i64 r_01, .int .i64 r_11, .slice r_2_a1 r_2_l1 r_2_c1, .int .i64 r_31]), (.int .i64 (2 : Int))]) w6))))
        ((kLdS w5 ⟨b, 2, none⟩ fun _ x_l _ =>
        (kLet (decide ((x_l : Int) = (256 : Int))) fun x2 =>
        (bsplit x2
          ((∃ x_03 x_13 : Int, ∃ x_2_a3 : Option Addr, ∃ x_2_l3 x_2_c3 : Nat, ∃ x_33 : Int, cellsAt w5 ⟨b, 0, none⟩ 0 [(.int .i64 x_03), (.int .i64 x_13), (.slice x_2_a3 x_2_l3 x_2_c3), (.int .i64 x_33)] ∧
          (sxStore w5 ⟨b1, 0, none⟩ 0 [(.int .i64 x_03), (.int .i64 x_13), (.slice x_2_a3 x_2_l3 x_2_c3), (.int .i64 x_33)] fun w7 =>
          (∃ r_02 r_12 : Int, ∃ r_2_a2 : Option Addr, ∃ r_2_l2 r_2_c2 : Nat, ∃ r_32 : Int, cellsAt w7 ⟨b1, 0, none⟩ 0 [(.int .i64 r_02), (.int .i64 r_12), (.slice r_2_a2 r_2_l2 r_2_c2), (.int .i64 r_32)] ∧
          R (.tuple #[(.agg #[.int .i64 r_02, .int .i64 r_12, .slice r_2_a2 r_2_l2 r_2_c2, .int .i64 r_32]), (.int .i64 (13 : Int))]) w7))))
          ((kAlloc w5 #[] Ty_S_uint8 fun b2 w8 =>
          (kLdS w8 ⟨b, 2, none⟩ fun x_a1 x_l1 x_c1 =>
          (AppP Try.prog #[Ty_S_S_uint8, Ty_S_S_uint8] Ty_S_S_uint8 #[(.slice (some ⟨b2, 0, none⟩) 0 0), (.slice x_a1 x_l1 x_c1)] w8 fun x_a2 x_l2 x_c2 w9 =>
          (kAlloc w9 #[] Ty_uint8 fun b3 w10 =>
          (AppP Try.prog #[Ty_S_uint8, Ty_S_uint8] Ty_S_uint8 #[(.slice (some ⟨b3, 0, none⟩) 0 0), (.slice data_a data_l data_c)] w10 fun x_a3 x_l3 x_c3 w11 =>
          (kAlloc w11 #[(.slice x_a3 x_l3 x_c3)] Ty_S_uint8 fun b4 w12 =>
          (AppP Try.prog #[Ty_S_S_uint8, Ty_S_S_uint8] Ty_S_S_uint8 #[(.slice x_a2 x_l2 x_c2), (.slice (some ⟨b4, 0, none⟩) 1 1)] w12 fun x_a4 x_l4 x_c4 w13 =>
          (kSet w13 ⟨b, 2, none⟩ (.slice x_a4 x_l4 x_c4) fun w14 =>
          (∃ x_04 x_14 : Int, ∃ x_2_a4 : Option Addr, ∃ x_2_l4 x_2_c4 : Nat, ∃ x_34 : Int, cellsAt w14 ⟨b, 0, none⟩ 0 [(.int .i64 x_04), (.int .i64 x_14), (.slice x_2_a4 x_2_l4 x_2_c4), (.int .i64 x_34)] ∧
          (sxStore w14 ⟨b1, 0, none⟩ 0 [(.int .i64 x_04), (.int .i64 x_14), (.slice x_2_a4 x_2_l4 x_2_c4), (.int .i64 x_34)] fun w15 =>
          (∃ r_03 r_13 : Int, ∃ r_2_a3 : Option Addr, ∃ r_2_l3 r_2_c3 : Nat, ∃ r_33 : Int, cellsAt w15 ⟨b1, 0, none⟩ 0 [(.int .i64 r_03), (.int .i64 r_13), (.slice r_2_a3 r_2_l3 r_2_c3), (.int .i64 r_33)] ∧
          R (.tuple #[(.agg #[.int .i64 r_03, .int .i64 r_13, .slice r_2_a3 r_2_l3 r_2_c3, .int .i64 r_33]), (.int .i64 (0 : Int))]) w15)))))))))))))))))) ∧
    (bsplit (decide ((data_l : Int) < (1 : Int)))
      (J true w3)
      ((kLet (decide ((data_l : Int) > (2054 : Int))) fun x =>
      J x w3))))))))))
theorem F_ref23_Submit_eq (c_0 : Int) (c_1 : Int) (c_2_a : Option Addr) (c_2_l : Nat) (c_2_c : Nat) (c_3 : Int) (data_a : Option Addr) (data_l : Nat) (data_c : Nat) (w : World) (R : Value → World → Prop) : sxFn Try.prog TT h_ref23_Submit Try.f24 #[(.agg #[.int .i64 c_0, .int .i64 c_1, .slice c_2_a c_2_l c_2_c, .int .i64 c_3]), (.slice data_a data_l data_c)] w R = F_ref23_Submit c_0 c_1 c_2_a c_2_l c_2_c c_3 data_a data_l data_c w R := by kernel_rfl
theorem F_ref23_Submit_ok {R : Ending → World → Prop} (c_0 : Int) (c_1 : Int) (c_2_a : Option Addr) (c_2_l : Nat) (c_2_c : Nat) (c_3 : Int) (data_a : Option Addr) (data_l : Nat) (data_c : Nat) (w : World) (h : F_ref23_Submit c_0 c_1 c_2_a c_2_l c_2_c c_3 data_a data_l data_c w fun v w' => R (.returned v) w') : Calls Try.prog N_ref23_Submit #[(.agg #[.int .i64 c_0, .int .i64 c_1, .slice c_2_a c_2_l c_2_c, .int .i64 c_3]), (.slice data_a data_l data_c)] w R :=
  calls_of (f := 24) follows_ok Try.func24 (Eq.mpr (F_ref23_Submit_eq c_0 c_1 c_2_a c_2_l c_2_c c_3 data_a data_l data_c w _) h)

def h_ref23_Build : H := (.seq .reg (.seq (.block (.seq .reg (.cond (.seq .reg .leaf) (.cut [(18, .p .bool)] [18, 19, 20, 21, 22, 23, 24] .reg (.cond (.seq .reg .leaf) (.seq .reg (.cond (.seq .reg .leaf) .leaf))))))) (.cut [(7, .p .addr)] [7, 32, 33, 34, 35, 36, 37, 38, 39, 40, 41, 42, 43] (.draw .blk (.one 0 .stable (.one 1 .stable (.one 2 .stable (.one 3 .stable (.one 4 .stable (.one 5 .stable (.one 6 .stable (.one 7 .stable (.one 8 .stable (.one 9 .stable (.one 10 .stable (.alt 11 (.one 12 .keep (.one 13 .last .nil)) (.alt 12 (.one 11 .keep (.one 13 .last .nil)) .endAlt)))))))))))))) (.cut [] [44, 45, 46, 47] (.seq .reg (.cond .reg .leaf)) (.seq .reg (.seq (.seq .reg (.cond (.seq .reg .leaf) .leaf)) (.seq .reg (.seq .reg (.seq (.seq (.draw .no (.one 0 .stable (.one 1 .stable (.one 2 .stable (.one 3 .stable (.one 4 .stable (.one 5 .stable (.one 6 .stable (.one 7 .stable .nil))))))))) (.cond (.seq .reg (.seq .reg .reg)) .leaf)) (.seq .reg .leaf))))))))))
def F_ref23_Build (c_0 : Int) (c_1 : Int) (c_2_a : Option Addr) (c_2_l : Nat) (c_2_c : Nat) (c_3 : Int) (size : Int) (w : World) (R : Value → World → Prop) : Prop :=
  (kAlloc w #[(.int .i64 c_0), (.int .i64 c_1), (.slice c_2_a c_2_l c_2_c), (.int .i64 c_3)] Ty_api_Cutter fun b w1 =>
  (kAlloc w1 #[.int .i64 (0 : Int), .int .i64 (0 : Int), .slice none 0 0, .int .i64 (0 : Int)] Ty_api_Cutter fun b1 w2 =>
  (∃ x_0 x_1 : Int, ∃ x_2_a : Option Addr, ∃ x_2_l x_2_c : Nat, ∃ x_3 : Int, cellsAt w2 ⟨b, 0, none⟩ 0 [(.int .i64 x_0), (.int .i64 x_1), (.slice x_2_a x_2_l x_2_c), (.int .i64 x_3)] ∧
  (Calls Try.prog N_ref23_Valid #[(.agg #[.int .i64 x_0, .int .i64 x_1, .slice x_2_a x_2_l x_2_c, .int .i64 x_3])] w2 fun e_ w3 =>
  ∃ r : Bool, e_ = .returned (.bool r) ∧
  (bsplit (!r)
    ((∃ x_01 x_11 : Int, ∃ x_2_a1 : Option Addr, ∃ x_2_l1 x_2_c1 : Nat, ∃ x_31 : Int, cellsAt w3 ⟨b, 0, none⟩ 0 [(.int .i64 x_01), (.int .i64 x_11), (.slice x_2_a1 x_2_l1 x_2_c1), (.int .i64 x_31)] ∧
    (sxStore w3 ⟨b1, 0, none⟩ 0 [(.int .i64 x_01), (.int .i64 x_11), (.slice x_2_a1 x_2_l1 x_2_c1), (.int .i64 x_31)] fun w4 =>
    (∃ r_0 r_1 : Int, ∃ r_2_a : Option Addr, ∃ r_2_l r_2_c : Nat, ∃ r_3 : Int, cellsAt w4 ⟨b1, 0, none⟩ 0 [(.int .i64 r_0), (.int .i64 r_1), (.slice r_2_a r_2_l r_2_c), (.int .i64 r_3)] ∧
    R (.tuple #[(.agg #[.int .i64 r_0, .int .i64 r_1, .slice r_2_a r_2_l r_2_c, .int .i64 r_3]), (.slice none 0 0), (.int .i64 (1 : Int))]) w4))))
    ((∃ J : Bool → World → Prop,
    (∀ (_junk : Env) (x1 : Bool) (w5 : World), J x1 w5 →
      (bsplit x1
        ((∃ x_02 x_12 : Int, ∃ x_2_a2 : Option Addr, ∃ x_2_l2 x_2_c2 : Nat, ∃ x_32 : Int, cellsAt w5 ⟨b, 0, none⟩ 0 [(.int .i64 x_02), (.int .i64 x_12), (.slice x_2_a2 x_2_l2 x_2_c2), (.int .i64 x_32)] ∧
        (sxStore w5 ⟨b1, 0, none⟩ 0 [(.int .i64 x_02), (.int .i64 x_12), (.slice x_2_a2 x_2_l2 x_2_c2), (.int .i64 x_32)] fun w6 =>
        (∃ r_01 r_11 : Int, ∃ r_2_a1 : Option Addr, ∃ r_2_l1 r_2_c1 : Nat, ∃ r_31 : Int, cellsAt w6 ⟨b1, 0, none⟩ 0 [(.int .i64 r_01), (.int .i64 r_11), (.slice r_2_a1 r_2_l1 r_2_c1), (.int .i64 r_31)] ∧
        R (.tuple #[(.agg #[.int .i64 r_01, .int .i64 r_11, .slice r_2_a1 r_2_l1 r_2_c1, .int .i64 r_31]), (.slice none 0 0), (.int .i64 (3 : Int))]) w6))))
        ((kLdS w5 ⟨b, 2, none⟩ fun _ x_l _ =>
        (kLet (decide ((x_l : Int) = (0 : Int))) fun x2 =>
        (bsplit x2
          ((∃ x_03 x_13 : Int, ∃ x_2_a3 : Option Addr, ∃ x_2_l3 x_2_c3 : Nat, ∃ x_33 : Int, cellsAt w5 ⟨b, 0, none⟩ 0 [(.int .i64 x_03), (.int .i64 x_13), (.slice x_2_a3 x_2_l3 x_2_c3), (.int .i64 x_33)] ∧
          (sxStore w5 ⟨b1, 0, none⟩ 0 [(.int .i64 x_03), (.int .i64 x_13), (.slice x_2_a3 x_2_l3 x_2_c3), (.int .i64 x_33)] fun w7 =>
          (∃ r_02 r_12 : Int, ∃ r_2_a2 : Option Addr, ∃ r_2_l2 r_2_c2 : Nat, ∃ r_32 : Int, cellsAt w7 ⟨b1, 0, none⟩ 0 [(.int .i64 r_02), (.int .i64 r_12), (.slice r_2_a2 r_2_l2 r_2_c2), (.int .i64 r_32)] ∧
          R (.tuple #[(.agg #[.int .i64 r_02, .int .i64 r_12, .slice r_2_a2 r_2_l2 r_2_c2, .int .i64 r_32]), (.slice none 0 0), (.int .i64 (14 : Int))]) w7))))
          ((∃ J1 : Addr → World → Prop,
          (∀ (_junk : Env) (p : Addr) (w13 : World), J1 p w13 →
            (∃ J2 : World → Prop,
            (∀ (_junk : Env)  (w15 : World), J2 w15 →
              (kLd w15 ⟨b, 0, none⟩ .i64 fun x7 =>
              (∃ x_04 x_14 x_2 x_34 : Int, ∃ x_4_a : Option Addr, ∃ x_4_l x_4_c : Nat, cellsAt w15 p 0 [(.int .i64 x_04), (.int .i64 x_14), (.int .i64 x_2), (.int .i64 x_34), (.slice x_4_a x_4_l x_4_c)] ∧
              (Calls Try.prog N_ref18_Cut #[(.int .i64 x7), (.agg #[.int .i64 x_04, .int .i64 x_14, .int .i64 x_2, .int .i64 x_34, .slice x_4_a x_4_l x_4_c]), (.int .i64 size)] w15 fun e_1 w16 =>
              ∃ r_03 r_13 r_2 r_33 : Int, ∃ r_4_a : Option Addr, ∃ r_4_l r_4_c : Nat, ∃ r_04 r_14 r_21 r_34 : Int, ∃ r_4_a1 : Option Addr, ∃ r_4_l1 r_4_c1 : Nat, ∃ r1 : Int, e_1 = .returned (.tuple #[(.agg #[.int .i64 r_03, .int .i64 r_13, .int .i64 r_2, .int .i64 r_33, .slice r_4_a r_4_l r_4_c]), (.agg #[.int .i64 r_04, .int .i64 r_14, .int .i64 r_21, .int .i64 r_34, .slice r_4_a1 r_4_l1 r_4_c1]), (.int .i64 r1)]) ∧
              (kAlloc w16 #[.int .i64 (0 : Int), .int .i64 (0 : Int), .int .i64 (0 : Int), .int .i64 (0 : Int), .slice none 0 0] Ty_api_Piece fun b5 w17 =>
              (kAlloc w17 #[.int .i64 (0 : Int), .int .i64 (0 : Int), .int .i64 (0 : Int), .int .i64 (0 : Int), .slice none 0 0] Ty_api_Piece fun b6 w18 =>
              (sxStore w18 ⟨b5, 0, none⟩ 0 [(.int .i64 r_03), (.int .i64 r_13), (.int .i64 r_2), (.int .i64 r_33), (.slice r_4_a r_4_l r_4_c)] fun w19 =>
              (sxStore w19 ⟨b6, 0, none⟩ 0 [(.int .i64 r_04), (.int .i64 r_14), (.int .i64 r_21), (.int .i64 r_34), (.slice r_4_a1 r_4_l1 r_4_c1)] fun w20 =>
              (bsplit (!decide (r1 = (0 : Int)))
                ((∃ x_05 x_15 : Int, ∃ x_2_a4 : Option Addr, ∃ x_2_l4 x_2_c4 : Nat, ∃ x_35 : Int, cellsAt w20 ⟨b, 0, none⟩ 0 [(.int .i64 x_05), (.int .i64 x_15), (.slice x_2_a4 x_2_l4 x_2_c4), (.int .i64 x_35)] ∧
                (sxStore w20 ⟨b1, 0, none⟩ 0 [(.int .i64 x_05), (.int .i64 x_15), (.slice x_2_a4 x_2_l4 x_2_c4), (.int .i64 x_35)] fun w21 =>
                (∃ r_05 r_15 : Int, ∃ r_2_a3 : Option Addr, ∃ r_2_l3 r_2_c3 : Nat, ∃ r_35 : Int, cellsAt w21 ⟨b1, 0, none⟩ 0 [(.int .i64 r_05), (.int .i64 r_15), (.slice r_2_a3 r_2_l3 r_2_c3), (.int .i64 r_35)] ∧
                R (.tuple #[(.agg #[.int .i64 r_05, .int .i64 r_15, .slice r_2_a3 r_2_l3 r_2_c3, .int .i64 r_35]), (.slice none 0 0), (.int .i64 r1)]) w21))))
                ((kLd w20 ⟨b, 0, none⟩ .i64 fun x8 =>
                (∃ x_06 x_16 x_21 x_36 : Int, ∃ x_4_a1 : Option Addr, ∃ x_4_l1 x_4_c1 : Nat, cellsAt w20 ⟨b5, 0, none⟩ 0 [(.int .i64 x_06), (.int .i64 x_16), (.int .i64 x_21), (.int .i64 x_36), (.slice x_4_a1 x_4_l1 x_4_c1)] ∧
                (Calls Try.prog N_ref18_Encode #[(.int .i64 x8), (.agg #[.int .i64 x_06, .int .i64 x_16, .int .i64 x_21, .int .i64 x_36, .slice x_4_a1 x_4_l1 x_4_c1])] w20 fun e_2 w22 =>
                ∃ r_a : Option Addr, ∃ r_l r_c : Nat, ∃ r2 : Int, e_2 = .returned (.tuple #[(.slice r_a r_l r_c), (.int .i64 r2)]) ∧
                (kLd w22 ⟨b, 3, none⟩ .i64 fun x9 =>
                (kLdS w22 ⟨b5, 4, none⟩ fun _ x_l3 _ =>
                (kW .i64 (x9 + (x_l3 : Int)) fun x10 =>
                (kSet w22 ⟨b, 3, none⟩ (.int .i64 x10) fun w23 =>
                (kDrew w23 fun w24 =>
                (kLd w24 ⟨b, 3, none⟩ .i64 fun x11 =>
                (kLdS w24 ⟨b, 2, none⟩ fun x_a4 x_l4 _ =>
                (kIx x_a4 x_l4 (0 : Int) fun b7 =>
                (kLdS w24 (b7.add ((0 : Int).toNat * 1)) fun _ x_l5 _ =>
                (bsplit (decide (x11 = (x_l5 : Int)))
                  ((kSet w24 ⟨b, 3, none⟩ (.int .i64 (0 : Int)) fun w25 =>
                  (kLd w25 ⟨b, 1, none⟩ .i64 fun x12 =>
                  (kW .i64 (x12 + (1 : Int)) fun x13 =>
                  (kLd w25 ⟨b, 0, none⟩ .i64 fun x14 =>
                  (kW .u64 (x14) fun x15 =>
                  (0 ≤ x15 ∧ (kW .i64 ((1 : Int) * 2 ^ (min x15.toNat (IntKind.bits .i64))) fun x16 =>
                  (x16 ≠ 0 ∧ (kLet (Int.tmod x13 x16) fun x17 =>
                  (kSet w25 ⟨b, 1, none⟩ (.int .i64 x17) fun w26 =>
                  (kAlloc w26 #[] Ty_S_uint8 fun b8 w27 =>
                  (kLdS w27 ⟨b, 2, none⟩ fun x_a6 x_l6 x_c6 =>
                  ((0 ≤ (1 : Int) ∧ (1 : Int) ≤ ((x_l6 : Nat) : Int)) ∧ (AppP Try.prog #[Ty_S_S_uint8, Ty_S_S_uint8] Ty_S_S_uint8 #[(.slice (some ⟨b8, 0, none⟩) 0 0), (.slice (slAddr x_c6 ((1 : Int).toNat) 1 x_a6) (x_l6 - (1 : Int).toNat) (x_c6 - (1 : Int).toNat))] w27 fun x_a7 x_l7 x_c7 w28 =>
                  (kSet w28 ⟨b, 2, none⟩ (.slice x_a7 x_l7 x_c7) fun w29 =>
                  (∃ x_07 x_17 : Int, ∃ x_2_a5 : Option Addr, ∃ x_2_l5 x_2_c5 : Nat, ∃ x_37 : Int, cellsAt w29 ⟨b, 0, none⟩ 0 [(.int .i64 x_07), (.int .i64 x_17), (.slice x_2_a5 x_2_l5 x_2_c5), (.int .i64 x_37)] ∧
                  (sxStore w29 ⟨b1, 0, none⟩ 0 [(.int .i64 x_07), (.int .i64 x_17), (.slice x_2_a5 x_2_l5 x_2_c5), (.int .i64 x_37)] fun w30 =>
                  (∃ r_06 r_16 : Int, ∃ r_2_a4 : Option Addr, ∃ r_2_l4 r_2_c4 : Nat, ∃ r_36 : Int, cellsAt w30 ⟨b1, 0, none⟩ 0 [(.int .i64 r_06), (.int .i64 r_16), (.slice r_2_a4 r_2_l4 r_2_c4), (.int .i64 r_36)] ∧
                  R (.tuple #[(.agg #[.int .i64 r_06, .int .i64 r_16, .slice r_2_a4 r_2_l4 r_2_c4, .int .i64 r_36]), (.slice r_a r_l r_c), (.int .i64 (0 : Int))]) w30)))))))))))))))))))
                  ((∃ x_08 x_18 : Int, ∃ x_2_a6 : Option Addr, ∃ x_2_l6 x_2_c6 : Nat, ∃ x_38 : Int, cellsAt w24 ⟨b, 0, none⟩ 0 [(.int .i64 x_08), (.int .i64 x_18), (.slice x_2_a6 x_2_l6 x_2_c6), (.int .i64 x_38)] ∧
                  (sxStore w24 ⟨b1, 0, none⟩ 0 [(.int .i64 x_08), (.int .i64 x_18), (.slice x_2_a6 x_2_l6 x_2_c6), (.int .i64 x_38)] fun w31 =>
                  (∃ r_07 r_17 : Int, ∃ r_2_a5 : Option Addr, ∃ r_2_l5 r_2_c5 : Nat, ∃ r_37 : Int, cellsAt w31 ⟨b1, 0, none⟩ 0 [(.int .i64 r_07), (.int .i64 r_17), (.slice r_2_a5 r_2_l5 r_2_c5), (.int .i64 r_37)] ∧
                  R (.tuple #[(.agg #[.int .i64 r_07, .int .i64 r_17, .slice r_2_a5 r_2_l5 r_2_c5, .int .i64 r_37]), (.slice r_a r_l r_c), (.int .i64 (0 : Int))]) w31))))))))))))))))))))))))))) ∧
            (kLd w13 ⟨b, 3, none⟩ .i64 fun x6 =>
            (bsplit (decide (x6 > (0 : Int)))
              ((kSet w13 (p.add 1) (.int .i64 (2 : Int)) fun w14 =>
              J2 w14))
              (J2 w13))))) ∧
          (kDrew w5 fun w8 =>
          (∃ S : Nat → Prop,
          (S b ∧
          (kLd w8 ⟨b, 1, none⟩ .i64 fun x3 =>
          (S b ∧
          (kLd w8 ⟨b, 3, none⟩ .i64 fun x4 =>
          (S b ∧
          (kLdS w8 ⟨b, 2, none⟩ fun x_a1 x_l1 _ =>
          (kIx x_a1 x_l1 (0 : Int) fun b2 =>
          (S (b2.add ((0 : Int).toNat * 1)).block ∧
          (kLdS w8 (b2.add ((0 : Int).toNat * 1)) fun x_a2 x_l2 x_c2 =>
          (S b ∧
          (kLd w8 ⟨b, 3, none⟩ .i64 fun x5 =>
          ((0 ≤ x5 ∧ x5 ≤ ((x_l2 : Nat) : Int)) ∧ ((KeepsB S w8 w8 ∧ (kAlloc w8 #[.int .i64 (0 : Int), .int .i64 (0 : Int), .int .i64 (0 : Int), .int .i64 (0 : Int), .slice none 0 0] Ty_api_Piece fun b4 w11 =>
          (KeepsB S w8 w11 ∧ (sxStore w11 ⟨b4, 0, none⟩ 0 [(.int .i64 x3), (.int .i64 (0 : Int)), (.int .i64 (0 : Int)), (.int .i64 x4), (.slice (slAddr x_c2 (x5.toNat) 1 x_a2) (x_l2 - x5.toNat) (x_c2 - x5.toNat))] fun w12 =>
          J1 ⟨b4, 0, none⟩ w12)))) ∧
          ((kAlloc w8 #[.int .i64 (0 : Int), .int .i64 (0 : Int), .int .i64 (0 : Int), .int .i64 (0 : Int), .slice none 0 0] Ty_api_Piece fun b3 w9 =>
          (KeepsB S w8 w9 ∧ (KeepsB S w8 w9 ∧ (sxStore w9 ⟨b3, 0, none⟩ 0 [(.int .i64 x3), (.int .i64 (0 : Int)), (.int .i64 (0 : Int)), (.int .i64 x4), (.slice (slAddr x_c2 (x5.toNat) 1 x_a2) (x_l2 - x5.toNat) (x_c2 - x5.toNat))] fun w10 =>
          J1 ⟨b3, 0, none⟩ w10)))) ∧
          True)))))))))))))))))))))))) ∧
    (bsplit (decide (size < (0 : Int)))
      (J true w3)
      ((kLet (decide (size > (4096 : Int))) fun x =>
      J x w3))))))))))
theorem F_ref23_Build_eq (c_0 : Int) (c_1 : Int) (c_2_a : Option Addr) (c_2_l : Nat) (c_2_c : Nat) (c_3 : Int) (size : Int) (w : World) (R : Value → World → Prop) : sxFn Try.prog TT h_ref23_Build Try.f25 #[(.agg #[.int .i64 c_0, .int .i64 c_1, .slice c_2_a c_2_l c_2_c, .int .i64 c_3]), (.int .i64 size)] w R = F_ref23_Build c_0 c_1 c_2_a c_2_l c_2_c c_3 size w R := by kernel_rfl
theorem F_ref23_Build_ok {R : Ending → World → Prop} (c_0 : Int) (c_1 : Int) (c_2_a : Option Addr) (c_2_l : Nat) (c_2_c : Nat) (c_3 : Int) (size : Int) (w : World) (h : F_ref23_Build c_0 c_1 c_2_a c_2_l c_2_c c_3 size w fun v w' => R (.returned v) w') : Calls Try.prog N_ref23_Build #[(.agg #[.int .i64 c_0, .int .i64 c_1, .slice c_2_a c_2_l c_2_c, .int .i64 c_3]), (.int .i64 size)] w R :=
  calls_of (f := 25) follows_ok Try.func25 (Eq.mpr (F_ref23_Build_eq c_0 c_1 c_2_a c_2_l c_2_c c_3 size w _) h)

def h_ref23_Valid : H := (.seq .reg (.seq (.cut [(32, .p .bool)] [4, 5, 6, 7, 8, 9, 10, 11, 12, 13, 14, 15, 16, 17, 18, 19, 20, 21, 22, 23, 24, 25, 26, 27, 28, 29, 30, 31, 32] .reg (.cond (.seq .reg .leaf) .leaf)) (.seq (.seq .reg (.block (.loop [(3, .p (.int .i64))] [2, 3, 33, 34, 35, 36, 37, 38, 39, 40, 41, 42, 43, 44, 45, 46, 47, 48, 49, 50, 51, 52, 53, 54, 55] (.seq (.seq .reg (.cond .leaf .leaf)) (.seq (.block (.seq .reg (.cond (.seq .reg .leaf) .leaf))) .reg))))) (.seq (.seq .reg (.cond (.seq .reg .leaf) .leaf)) (.seq (.draw .no (.one 0 .stable (.one 1 .stable (.one 2 .stable (.one 3 .stable (.one 4 .stable (.one 5 .stable (.one 6 .stable (.one 7 .stable (.one 8 .stable .nil)))))))))) .leaf)))))
def F_ref23_Valid (c_0 : Int) (c_1 : Int) (c_2_a : Option Addr) (c_2_l : Nat) (c_2_c : Nat) (c_3 : Int) (w : World) (R : Value → World → Prop) : Prop :=
  (kAlloc w #[(.int .i64 c_0), (.int .i64 c_1), (.slice c_2_a c_2_l c_2_c), (.int .i64 c_3)] Ty_api_Cutter fun b w1 =>
  (∃ J : Bool → World → Prop,
  (∀ (_junk : Env) (x7 : Bool) (w3 : World), J x7 w3 →
    (bsplit x7
      (R (.bool false) w3)
      ((∃ I : Int → Nat × (World → Prop), (I (0 : Int)).2 w3 ∧
      (∀ (_junk : Env) (i : Int) (w4 : World), (I i).2 w4 →
        (kLdS w4 ⟨b, 2, none⟩ fun _ x_l1 _ =>
        (bsplit (decide (i < (x_l1 : Int)))
          ((kLdS w4 ⟨b, 2, none⟩ fun x_a2 x_l2 _ =>
          (kIx x_a2 x_l2 i fun b1 =>
          (kLdS w4 (b1.add (i.toNat * 1)) fun _ x_l3 _ =>
          (bsplit (decide ((x_l3 : Int) < (1 : Int)))
            (R (.bool false) w4)
            ((kLdS w4 ⟨b, 2, none⟩ fun x_a4 x_l4 _ =>
            (kIx x_a4 x_l4 i fun b2 =>
            (kLdS w4 (b2.add (i.toNat * 1)) fun _ x_l5 _ =>
            (bsplit (decide ((x_l5 : Int) > (2054 : Int)))
              (R (.bool false) w4)
              ((kW .i64 (i + (1 : Int)) fun x9 =>
              ((I x9).2 w4 ∧ (I x9).1 < (I i).1)))))))))))))
          ((kLdS w4 ⟨b, 2, none⟩ fun _ x_l6 _ =>
          (bsplit (decide ((x_l6 : Int) = (0 : Int)))
            ((kLd w4 ⟨b, 3, none⟩ .i64 fun x10 =>
            (kLet (decide (x10 = (0 : Int))) fun x11 =>
            R (.bool x11) w4)))
            ((kDrew w4 fun w5 =>
            (kLd w5 ⟨b, 3, none⟩ .i64 fun x12 =>
            (kLdS w5 ⟨b, 2, none⟩ fun x_a7 x_l7 _ =>
            (kIx x_a7 x_l7 (0 : Int) fun b3 =>
            (kLdS w5 (b3.add ((0 : Int).toNat * 1)) fun _ x_l8 _ =>
            (kLet (decide (x12 < (x_l8 : Int))) fun x13 =>
            R (.bool x13) w5))))))))))))))))) ∧
  (kLd w1 ⟨b, 0, none⟩ .i64 fun x =>
  (Calls Try.prog N_ref23_bits #[(.int .i64 x)] w1 fun e_ w2 =>
  ∃ r : Bool, e_ = .returned (.bool r) ∧
  (bsplit (!r)
    (J true w2)
    ((kLd w2 ⟨b, 1, none⟩ .i64 fun x1 =>
    (bsplit (decide (x1 < (0 : Int)))
      (J true w2)
      ((kLd w2 ⟨b, 1, none⟩ .i64 fun x2 =>
      (kLd w2 ⟨b, 0, none⟩ .i64 fun x3 =>
      (kW .u64 (x3) fun x4 =>
      (0 ≤ x4 ∧ (kW .i64 ((1 : Int) * 2 ^ (min x4.toNat (IntKind.bits .i64))) fun x5 =>
      (bsplit (decide (x2 ≥ x5))
        (J true w2)
        ((kLdS w2 ⟨b, 2, none⟩ fun _ x_l _ =>
        (bsplit (decide ((x_l : Int) > (256 : Int)))
          (J true w2)
          ((kLd w2 ⟨b, 3, none⟩ .i64 fun x6 =>
          J (decide (x6 < (0 : Int))) w2))))))))))))))))))))
theorem F_ref23_Valid_eq (c_0 : Int) (c_1 : Int) (c_2_a : Option Addr) (c_2_l : Nat) (c_2_c : Nat) (c_3 : Int) (w : World) (R : Value → World → Prop) : sxFn Try.prog TT h_ref23_Valid Try.f26 #[(.agg #[.int .i64 c_0, .int .i64 c_1, .slice c_2_a c_2_l c_2_c, .int .i64 c_3])] w R = F_ref23_Valid c_0 c_1 c_2_a c_2_l c_2_c c_3 w R := by kernel_rfl
theorem F_ref23_Valid_ok {R : Ending → World → Prop} (c_0 : Int) (c_1 : Int) (c_2_a : Option Addr) (c_2_l : Nat) (c_2_c : Nat) (c_3 : Int) (w : World) (h : F_ref23_Valid c_0 c_1 c_2_a c_2_l c_2_c c_3 w fun v w' => R (.returned v) w') : Calls Try.prog N_ref23_Valid #[(.agg #[.int .i64 c_0, .int .i64 c_1, .slice c_2_a c_2_l c_2_c, .int .i64 c_3])] w R :=
  calls_of (f := 26) follows_ok Try.func26 (Eq.mpr (F_ref23_Valid_eq c_0 c_1 c_2_a c_2_l c_2_c c_3 w _) h)

def h_ref23_Waiting : H := (.seq .reg (.seq (.seq .reg (.cond (.seq .reg .leaf) .leaf)) (.seq .reg (.seq (.seq .reg (.block (.loop [(3, .p (.int .i64)), (4, .p (.int .i64))] [3, 4, 11, 12, 13, 14, 15, 16, 17, 18, 19, 20, 21, 22, 23, 24, 25] (.seq (.seq .reg (.cond .leaf .leaf)) (.seq (.block .reg) .reg))))) (.seq .reg .leaf)))))
def F_ref23_Waiting (c_0 : Int) (c_1 : Int) (c_2_a : Option Addr) (c_2_l : Nat) (c_2_c : Nat) (c_3 : Int) (w : World) (R : Value → World → Prop) : Prop :=
  (kAlloc w #[(.int .i64 c_0), (.int .i64 c_1), (.slice c_2_a c_2_l c_2_c), (.int .i64 c_3)] Ty_api_Cutter fun b w1 =>
  (∃ x_0 x_1 : Int, ∃ x_2_a : Option Addr, ∃ x_2_l x_2_c : Nat, ∃ x_3 : Int, cellsAt w1 ⟨b, 0, none⟩ 0 [(.int .i64 x_0), (.int .i64 x_1), (.slice x_2_a x_2_l x_2_c), (.int .i64 x_3)] ∧
  (Calls Try.prog N_ref23_Valid #[(.agg #[.int .i64 x_0, .int .i64 x_1, .slice x_2_a x_2_l x_2_c, .int .i64 x_3])] w1 fun e_ w2 =>
  ∃ r : Bool, e_ = .returned (.bool r) ∧
  (bsplit (!r)
    (R (.int .i64 (0 : Int)) w2)
    ((kLd w2 ⟨b, 3, none⟩ .i64 fun x =>
    (kW .i64 (0 - x) fun x1 =>
    (∃ I : Int → Int → Nat × (World → Prop), (I x1 (0 : Int)).2 w2 ∧
    (∀ (_junk : Env) (n : Int) (i : Int) (w3 : World), (I n i).2 w3 →
      (kLdS w3 ⟨b, 2, none⟩ fun _ x_l _ =>
      (bsplit (decide (i < (x_l : Int)))
        ((kLdS w3 ⟨b, 2, none⟩ fun x_a1 x_l1 _ =>
        (kIx x_a1 x_l1 i fun b1 =>
        (kLdS w3 (b1.add (i.toNat * 1)) fun _ x_l2 _ =>
        (kW .i64 (n + (x_l2 : Int)) fun x2 =>
        (kW .i64 (i + (1 : Int)) fun x3 =>
        ((I x2 x3).2 w3 ∧ (I x2 x3).1 < (I n i).1)))))))
        (R (.int .i64 n) w3))))))))))))
theorem F_ref23_Waiting_eq (c_0 : Int) (c_1 : Int) (c_2_a : Option Addr) (c_2_l : Nat) (c_2_c : Nat) (c_3 : Int) (w : World) (R : Value → World → Prop) : sxFn Try.prog TT h_ref23_Waiting Try.f27 #[(.agg #[.int .i64 c_0, .int .i64 c_1, .slice c_2_a c_2_l c_2_c, .int .i64 c_3])] w R = F_ref23_Waiting c_0 c_1 c_2_a c_2_l c_2_c c_3 w R := by kernel_rfl
theorem F_ref23_Waiting_ok {R : Ending → World → Prop} (c_0 : Int) (c_1 : Int) (c_2_a : Option Addr) (c_2_l : Nat) (c_2_c : Nat) (c_3 : Int) (w : World) (h : F_ref23_Waiting c_0 c_1 c_2_a c_2_l c_2_c c_3 w fun v w' => R (.returned v) w') : Calls Try.prog N_ref23_Waiting #[(.agg #[.int .i64 c_0, .int .i64 c_1, .slice c_2_a c_2_l c_2_c, .int .i64 c_3])] w R :=
  calls_of (f := 27) follows_ok Try.func27 (Eq.mpr (F_ref23_Waiting_eq c_0 c_1 c_2_a c_2_l c_2_c c_3 w _) h)

def h_ref01_Same : H := (.seq .reg (.seq .reg .leaf))
def F_ref01_Same (a_a : Option Addr) (a_l : Nat) (a_c : Nat) (b_a : Option Addr) (b_l : Nat) (b_c : Nat) (w : World) (R : Value → World → Prop) : Prop :=
  (ConvS Try.prog Ty_S_uint8 Ty_string (.slice a_a a_l a_c) w fun x =>
  (ConvS Try.prog Ty_S_uint8 Ty_string (.slice b_a b_l b_c) w fun x1 =>
  R (.bool (x == x1)) w))
theorem F_ref01_Same_eq (a_a : Option Addr) (a_l : Nat) (a_c : Nat) (b_a : Option Addr) (b_l : Nat) (b_c : Nat) (w : World) (R : Value → World → Prop) : sxFn Try.prog TT h_ref01_Same Try.f28 #[(.slice a_a a_l a_c), (.slice b_a b_l b_c)] w R = F_ref01_Same a_a a_l a_c b_a b_l b_c w R := by kernel_rfl
theorem F_ref01_Same_ok {R : Ending → World → Prop} (a_a : Option Addr) (a_l : Nat) (a_c : Nat) (b_a : Option Addr) (b_l : Nat) (b_c : Nat) (w : World) (h : F_ref01_Same a_a a_l a_c b_a b_l b_c w fun v w' => R (.returned v) w') : Calls Try.prog N_ref01_Same #[(.slice a_a a_l a_c), (.slice b_a b_l b_c)] w R :=
  calls_of (f := 28) follows_ok Try.func28 (Eq.mpr (F_ref01_Same_eq a_a a_l a_c b_a b_l b_c w _) h)

def h_ref18_SameRanges : H := (.seq .reg (.seq (.seq .reg (.cond (.seq .reg .leaf) .leaf)) (.seq (.seq .reg (.block (.loop [(5, .p (.int .i64))] [4, 5, 11, 12, 13, 14, 15, 16, 17, 18, 19, 20, 21, 22, 23, 24, 25] (.seq (.seq .reg (.cond .leaf .leaf)) (.seq (.block (.seq (.draw .no (.one 0 .stable (.one 1 .stable (.one 2 .stable (.one 3 .stable (.one 4 .stable (.one 5 .stable (.one 6 .stable (.one 7 .stable (.one 8 .stable .nil)))))))))) (.cond (.seq .reg .leaf) .leaf))) .reg))))) (.seq .reg .leaf))))
def F_ref18_SameRanges (a_a : Option Addr) (a_l : Nat) (_ : Nat) (b_a : Option Addr) (b_l : Nat) (_ : Nat) (w : World) (R : Value → World → Prop) : Prop :=
  (bsplit (!decide ((a_l : Int) = (b_l : Int)))
    (R (.bool false) w)
    ((∃ I : Int → Nat × (World → Prop), (I (0 : Int)).2 w ∧
    (∀ (_junk : Env) (i : Int) (w1 : World), (I i).2 w1 →
      (bsplit (decide (i < (a_l : Int)))
        ((kDrew w1 fun w2 =>
        (kIx a_a a_l i fun b =>
        (∃ x_0 x_1 x_2 : Int, cellsAt w2 (b.add (i.toNat * 3)) 0 [(.int .i64 x_0), (.int .i64 x_1), (.int .i64 x_2)] ∧
        (kIx b_a b_l i fun b1 =>
        (∃ x_01 x_11 x_21 : Int, cellsAt w2 (b1.add (i.toNat * 3)) 0 [(.int .i64 x_01), (.int .i64 x_11), (.int .i64 x_21)] ∧
        (EqP Try.prog .neq Ty_api_Range (.tmp 20) (.tmp 24) (.agg #[.int .i64 x_0, .int .i64 x_1, .int .i64 x_2]) (.agg #[.int .i64 x_01, .int .i64 x_11, .int .i64 x_21]) fun r =>
        (bsplit r
          (R (.bool false) w2)
          ((kW .i64 (i + (1 : Int)) fun x =>
          ((I x).2 w2 ∧ (I x).1 < (I i).1)))))))))))
        (R (.bool true) w1))))))
theorem F_ref18_SameRanges_eq (a_a : Option Addr) (a_l : Nat) (a_c : Nat) (b_a : Option Addr) (b_l : Nat) (b_c : Nat) (w : World) (R : Value → World → Prop) : sxFn Try.prog TT h_ref18_SameRanges Try.f29 #[(.slice a_a a_l a_c), (.slice b_a b_l b_c)] w R = F_ref18_SameRanges a_a a_l a_c b_a b_l b_c w R := by kernel_rfl
theorem F_ref18_SameRanges_ok {R : Ending → World → Prop} (a_a : Option Addr) (a_l : Nat) (a_c : Nat) (b_a : Option Addr) (b_l : Nat) (b_c : Nat) (w : World) (h : F_ref18_SameRanges a_a a_l a_c b_a b_l b_c w fun v w' => R (.returned v) w') : Calls Try.prog N_ref18_SameRanges #[(.slice a_a a_l a_c), (.slice b_a b_l b_c)] w R :=
  calls_of (f := 29) follows_ok Try.func29 (Eq.mpr (F_ref18_SameRanges_eq a_a a_l a_c b_a b_l b_c w _) h)

def h_own_Cutter : H := (.seq .reg (.seq .reg (.seq .reg .leaf)))
def F_own_Cutter (c_0 : Int) (c_1 : Int) (c_2_a : Option Addr) (c_2_l : Nat) (c_2_c : Nat) (c_3 : Int) (w : World) (R : Value → World → Prop) : Prop :=
  (kAlloc w #[(.int .i64 c_0), (.int .i64 c_1), (.slice c_2_a c_2_l c_2_c), (.int .i64 c_3)] Ty_api_Cutter fun b w1 =>
  (kAlloc w1 #[.int .i64 (0 : Int), .int .i64 (0 : Int), .slice none 0 0, .int .i64 (0 : Int)] Ty_api_Cutter fun b1 w2 =>
  (kLdS w2 ⟨b, 2, none⟩ fun x_a x_l x_c =>
  (Calls Try.prog N_own_List #[(.slice x_a x_l x_c)] w2 fun e_ w3 =>
  ∃ r_a : Option Addr, ∃ r_l r_c : Nat, e_ = .returned (.slice r_a r_l r_c) ∧
  (kSet w3 ⟨b, 2, none⟩ (.slice r_a r_l r_c) fun w4 =>
  (∃ x_0 x_1 : Int, ∃ x_2_a : Option Addr, ∃ x_2_l x_2_c : Nat, ∃ x_3 : Int, cellsAt w4 ⟨b, 0, none⟩ 0 [(.int .i64 x_0), (.int .i64 x_1), (.slice x_2_a x_2_l x_2_c), (.int .i64 x_3)] ∧
  (sxStore w4 ⟨b1, 0, none⟩ 0 [(.int .i64 x_0), (.int .i64 x_1), (.slice x_2_a x_2_l x_2_c), (.int .i64 x_3)] fun w5 =>
  (∃ r_0 r_1 : Int, ∃ r_2_a : Option Addr, ∃ r_2_l r_2_c : Nat, ∃ r_3 : Int, cellsAt w5 ⟨b1, 0, none⟩ 0 [(.int .i64 r_0), (.int .i64 r_1), (.slice r_2_a r_2_l r_2_c), (.int .i64 r_3)] ∧
  R (.agg #[.int .i64 r_0, .int .i64 r_1, .slice r_2_a r_2_l r_2_c, .int .i64 r_3]) w5))))))))
theorem F_own_Cutter_eq (c_0 : Int) (c_1 : Int) (c_2_a : Option Addr) (c_2_l : Nat) (c_2_c : Nat) (c_3 : Int) (w : World) (R : Value → World → Prop) : sxFn Try.prog TT h_own_Cutter Try.f30 #[(.agg #[.int .i64 c_0, .int .i64 c_1, .slice c_2_a c_2_l c_2_c, .int .i64 c_3])] w R = F_own_Cutter c_0 c_1 c_2_a c_2_l c_2_c c_3 w R := by kernel_rfl
theorem F_own_Cutter_ok {R : Ending → World → Prop} (c_0 : Int) (c_1 : Int) (c_2_a : Option Addr) (c_2_l : Nat) (c_2_c : Nat) (c_3 : Int) (w : World) (h : F_own_Cutter c_0 c_1 c_2_a c_2_l c_2_c c_3 w fun v w' => R (.returned v) w') : Calls Try.prog N_own_Cutter #[(.agg #[.int .i64 c_0, .int .i64 c_1, .slice c_2_a c_2_l c_2_c, .int .i64 c_3])] w R :=
  calls_of (f := 30) follows_ok Try.func30 (Eq.mpr (F_own_Cutter_eq c_0 c_1 c_2_a c_2_l c_2_c c_3 w _) h)

def h_unack_sized : H := (.seq .reg (.seq .reg .leaf))
def F_unack_sized (_ : Option Addr) (b_l : Nat) (_ : Nat) (w : World) (R : Value → World → Prop) : Prop :=
  (bsplit (decide ((b_l : Int) ≥ (1 : Int)))
    ((kLet (decide ((b_l : Int) ≤ (2054 : Int))) fun x =>
    R (.bool x) w))
    (R (.bool false) w))
theorem F_unack_sized_eq (b_a : Option Addr) (b_l : Nat) (b_c : Nat) (w : World) (R : Value → World → Prop) : sxFn Try.prog TT h_unack_sized Try.f31 #[(.slice b_a b_l b_c)] w R = F_unack_sized b_a b_l b_c w R := by kernel_rfl
theorem F_unack_sized_ok {R : Ending → World → Prop} (b_a : Option Addr) (b_l : Nat) (b_c : Nat) (w : World) (h : F_unack_sized b_a b_l b_c w fun v w' => R (.returned v) w') : Calls Try.prog N_unack_sized #[(.slice b_a b_l b_c)] w R :=
  calls_of (f := 31) follows_ok Try.func31 (Eq.mpr (F_unack_sized_eq b_a b_l b_c w _) h)

def h_slices_Clone_Sbyte_byte : H := (.seq .reg (.seq (.seq .reg (.cond (.seq .reg .leaf) .leaf)) (.seq .reg .leaf)))
def F_slices_Clone_Sbyte_byte (s_a : Option Addr) (s_l : Nat) (s_c : Nat) (w : World) (R : Value → World → Prop) : Prop :=
  (bsplit s_a.isNone
    (R (.slice none 0 0) w)
    ((kAlloc w #[] Ty_uint8 fun b w1 =>
    (AppP Try.prog #[Ty_S_uint8, Ty_S_uint8] Ty_S_uint8 #[(.slice (some ⟨b, 0, none⟩) 0 0), (.slice s_a s_l s_c)] w1 fun x_a x_l x_c w2 =>
    R (.slice x_a x_l x_c) w2))))
theorem F_slices_Clone_Sbyte_byte_eq (s_a : Option Addr) (s_l : Nat) (s_c : Nat) (w : World) (R : Value → World → Prop) : sxFn Try.prog TT h_slices_Clone_Sbyte_byte Try.f32 #[(.slice s_a s_l s_c)] w R = F_slices_Clone_Sbyte_byte s_a s_l s_c w R := by kernel_rfl
theorem F_slices_Clone_Sbyte_byte_ok {R : Ending → World → Prop} (s_a : Option Addr) (s_l : Nat) (s_c : Nat) (w : World) (h : F_slices_Clone_Sbyte_byte s_a s_l s_c w fun v w' => R (.returned v) w') : Calls Try.prog N_slices_Clone_Sbyte_byte #[(.slice s_a s_l s_c)] w R :=
  calls_of (f := 32) follows_ok Try.func32 (Eq.mpr (F_slices_Clone_Sbyte_byte_eq s_a s_l s_c w _) h)

def h_segment_Cut : H := (.seq .reg (.seq .reg (.seq (.block (.seq .reg (.cond (.seq .reg .leaf) (.seq .reg (.cond (.seq .reg .leaf) .leaf))))) (.seq .reg (.seq .reg (.seq (.seq .reg (.cond (.seq .reg .leaf) .leaf)) (.seq .reg (.seq .reg (.seq (.draw .blk (.one 0 .stable (.one 1 .stable (.one 2 .stable (.one 3 .stable (.one 4 .pre (.one 5 .pre (.one 6 .pre (.one 7 .pre (.one 9 .stable (.one 8 .keep (.one 10 .keep (.one 11 .stable (.one 12 .last .nil)))))))))))))) (.seq .reg (.seq (.draw .blk (.one 0 .pre (.one 1 .pre (.one 4 .stable (.one 5 .stable (.one 2 .keep (.one 3 .keep (.one 8 .stable (.one 6 .keep (.one 7 .keep (.one 9 .keep (.one 10 .stable (.one 11 .last .nil))))))))))))) (.seq (.draw .blk (.one 0 .pre (.one 1 .stable (.one 2 .keep (.one 3 .keep (.one 4 .stable .nil)))))) .leaf))))))))))))
def F_segment_Cut (bits : Int) (p_0 : Int) (p_1 : Int) (p_2 : Int) (p_3 : Int) (p_4_a : Option Addr) (p_4_l : Nat) (p_4_c : Nat) (size : Int) (w : World) (R : Value → World → Prop) : Prop :=
  (kAlloc w #[(.int .i64 p_0), (.int .i64 p_1), (.int .i64 p_2), (.int .i64 p_3), (.slice p_4_a p_4_l p_4_c)] Ty_api_Piece fun b w1 =>
  (kAlloc w1 #[.int .i64 (0 : Int), .int .i64 (0 : Int), .int .i64 (0 : Int), .int .i64 (0 : Int), .slice none 0 0] Ty_api_Piece fun b1 w2 =>
  (kAlloc w2 #[.int .i64 (0 : Int), .int .i64 (0 : Int), .int .i64 (0 : Int), .int .i64 (0 : Int), .slice none 0 0] Ty_api_Piece fun b2 w3 =>
  (kLd w3 ⟨b, 1, none⟩ .i64 fun x =>
  (Calls Try.prog N_segment_head #[(.int .i64 x)] w3 fun e_ w4 =>
  ∃ r : Int, e_ = .returned (.int .i64 r) ∧
  (∃ x_0 x_1 x_2 x_3 : Int, ∃ x_4_a : Option Addr, ∃ x_4_l x_4_c : Nat, cellsAt w4 ⟨b, 0, none⟩ 0 [(.int .i64 x_0), (.int .i64 x_1), (.int .i64 x_2), (.int .i64 x_3), (.slice x_4_a x_4_l x_4_c)] ∧
  (Calls Try.prog N_segment_Valid #[(.int .i64 bits), (.agg #[.int .i64 x_0, .int .i64 x_1, .int .i64 x_2, .int .i64 x_3, .slice x_4_a x_4_l x_4_c])] w4 fun e_1 w5 =>
  ∃ r1 : Bool, e_1 = .returned (.bool r1) ∧
  (bsplit (!r1)
    ((sxStore w5 ⟨b1, 0, none⟩ 0 [(.int .i64 (0 : Int)), (.int .i64 (0 : Int)), (.int .i64 (0 : Int)), (.int .i64 (0 : Int)), (.slice none 0 0)] fun w6 =>
    (sxStore w6 ⟨b2, 0, none⟩ 0 [(.int .i64 (0 : Int)), (.int .i64 (0 : Int)), (.int .i64 (0 : Int)), (.int .i64 (0 : Int)), (.slice none 0 0)] fun w7 =>
    (∃ r_0 r_1 r_2 r_3 : Int, ∃ r_4_a : Option Addr, ∃ r_4_l r_4_c : Nat, cellsAt w7 ⟨b1, 0, none⟩ 0 [(.int .i64 r_0), (.int .i64 r_1), (.int .i64 r_2), (.int .i64 r_3), (.slice r_4_a r_4_l r_4_c)] ∧
    (∃ r_01 r_11 r_21 r_31 : Int, ∃ r_4_a1 : Option Addr, ∃ r_4_l1 r_4_c1 : Nat, cellsAt w7 ⟨b2, 0, none⟩ 0 [(.int .i64 r_01), (.int .i64 r_11), (.int .i64 r_21), (.int .i64 r_31), (.slice r_4_a1 r_4_l1 r_4_c1)] ∧
    R (.tuple #[(.agg #[.int .i64 r_0, .int .i64 r_1, .int .i64 r_2, .int .i64 r_3, .slice r_4_a r_4_l r_4_c]), (.agg #[.int .i64 r_01, .int .i64 r_11, .int .i64 r_21, .int .i64 r_31, .slice r_4_a1 r_4_l1 r_4_c1]), (.int .i64 (1 : Int))]) w7)))))
    ((kW .i64 (r + (1 : Int)) fun x1 =>
    (kLet (decide (size < x1)) fun x2 =>
    (bsplit x2
      ((sxStore w5 ⟨b1, 0, none⟩ 0 [(.int .i64 (0 : Int)), (.int .i64 (0 : Int)), (.int .i64 (0 : Int)), (.int .i64 (0 : Int)), (.slice none 0 0)] fun w8 =>
      (sxStore w8 ⟨b2, 0, none⟩ 0 [(.int .i64 (0 : Int)), (.int .i64 (0 : Int)), (.int .i64 (0 : Int)), (.int .i64 (0 : Int)), (.slice none 0 0)] fun w9 =>
      (∃ r_02 r_12 r_22 r_32 : Int, ∃ r_4_a2 : Option Addr, ∃ r_4_l2 r_4_c2 : Nat, cellsAt w9 ⟨b1, 0, none⟩ 0 [(.int .i64 r_02), (.int .i64 r_12), (.int .i64 r_22), (.int .i64 r_32), (.slice r_4_a2 r_4_l2 r_4_c2)] ∧
      (∃ r_03 r_13 r_23 r_33 : Int, ∃ r_4_a3 : Option Addr, ∃ r_4_l3 r_4_c3 : Nat, cellsAt w9 ⟨b2, 0, none⟩ 0 [(.int .i64 r_03), (.int .i64 r_13), (.int .i64 r_23), (.int .i64 r_33), (.slice r_4_a3 r_4_l3 r_4_c3)] ∧
      R (.tuple #[(.agg #[.int .i64 r_02, .int .i64 r_12, .int .i64 r_22, .int .i64 r_32, .slice r_4_a2 r_4_l2 r_4_c2]), (.agg #[.int .i64 r_03, .int .i64 r_13, .int .i64 r_23, .int .i64 r_33, .slice r_4_a3 r_4_l3 r_4_c3]), (.int .i64 (15 : Int))]) w9)))))
      ((∃ x_01 x_11 x_21 x_31 : Int, ∃ x_4_a1 : Option Addr, ∃ x_4_l1 x_4_c1 : Nat, cellsAt w5 ⟨b, 0, none⟩ 0 [(.int .i64 x_01), (.int .i64 x_11), (.int .i64 x_21), (.int .i64 x_31), (.slice x_4_a1 x_4_l1 x_4_c1)] ∧
      (sxStore w5 ⟨b1, 0, none⟩ 0 [(.int .i64 x_01), (.int .i64 x_11), (.int .i64 x_21), (.int .i64 x_31), (.slice x_4_a1 x_4_l1 x_4_c1)] fun w10 =>
      (kLdS w10 ⟨b, 4, none⟩ fun x_a x_l x_c =>
      (Calls Try.prog N_slices_Clone_Sbyte_byte #[(.slice x_a x_l x_c)] w10 fun e_2 w11 =>
      ∃ r_a : Option Addr, ∃ r_l r_c : Nat, e_2 = .returned (.slice r_a r_l r_c) ∧
      (kSet w11 ⟨b1, 4, none⟩ (.slice r_a r_l r_c) fun w12 =>
      (kLdS w12 ⟨b, 4, none⟩ fun _ x_l1 _ =>
      (kW .i64 (r + (x_l1 : Int)) fun x3 =>
      (bsplit (decide (x3 ≤ size))
        ((∃ x_02 x_12 x_22 x_32 : Int, ∃ x_4_a2 : Option Addr, ∃ x_4_l2 x_4_c2 : Nat, cellsAt w12 ⟨b1, 0, none⟩ 0 [(.int .i64 x_02), (.int .i64 x_12), (.int .i64 x_22), (.int .i64 x_32), (.slice x_4_a2 x_4_l2 x_4_c2)] ∧
        (sxStore w12 ⟨b1, 0, none⟩ 0 [(.int .i64 x_02), (.int .i64 x_12), (.int .i64 x_22), (.int .i64 x_32), (.slice x_4_a2 x_4_l2 x_4_c2)] fun w13 =>
        (sxStore w13 ⟨b2, 0, none⟩ 0 [(.int .i64 (0 : Int)), (.int .i64 (0 : Int)), (.int .i64 (0 : Int)), (.int .i64 (0 : Int)), (.slice none 0 0)] fun w14 =>
        (∃ r_04 r_14 r_24 r_34 : Int, ∃ r_4_a4 : Option Addr, ∃ r_4_l4 r_4_c4 : Nat, cellsAt w14 ⟨b1, 0, none⟩ 0 [(.int .i64 r_04), (.int .i64 r_14), (.int .i64 r_24), (.int .i64 r_34), (.slice r_4_a4 r_4_l4 r_4_c4)] ∧
        (∃ r_05 r_15 r_25 r_35 : Int, ∃ r_4_a5 : Option Addr, ∃ r_4_l5 r_4_c5 : Nat, cellsAt w14 ⟨b2, 0, none⟩ 0 [(.int .i64 r_05), (.int .i64 r_15), (.int .i64 r_25), (.int .i64 r_35), (.slice r_4_a5 r_4_l5 r_4_c5)] ∧
        R (.tuple #[(.agg #[.int .i64 r_04, .int .i64 r_14, .int .i64 r_24, .int .i64 r_34, .slice r_4_a4 r_4_l4 r_4_c4]), (.agg #[.int .i64 r_05, .int .i64 r_15, .int .i64 r_25, .int .i64 r_35, .slice r_4_a5 r_4_l5 r_4_c5]), (.int .i64 (0 : Int))]) w14))))))
        ((kW .i64 (size - r) fun x4 =>
        (∃ x_03 x_13 x_23 x_33 : Int, ∃ x_4_a3 : Option Addr, ∃ x_4_l3 x_4_c3 : Nat, cellsAt w12 ⟨b, 0, none⟩ 0 [(.int .i64 x_03), (.int .i64 x_13), (.int .i64 x_23), (.int .i64 x_33), (.slice x_4_a3 x_4_l3 x_4_c3)] ∧
        (sxStore w12 ⟨b2, 0, none⟩ 0 [(.int .i64 x_03), (.int .i64 x_13), (.int .i64 x_23), (.int .i64 x_33), (.slice x_4_a3 x_4_l3 x_4_c3)] fun w15 =>
        (kDrew w15 fun w16 =>
        (∃ S : Nat → Prop,
        (S b ∧
        (kLd w16 ⟨b, 3, none⟩ .i64 fun x5 =>
        (kW .i64 (x5 + x4) fun x6 =>
        (kLdS w16 ⟨b, 4, none⟩ fun x_a2 x_l2 x_c2 =>
        ((0 ≤ x4 ∧ x4 ≤ ((x_l2 : Nat) : Int)) ∧ (Calls Try.prog N_slices_Clone_Sbyte_byte #[(.slice (slAddr x_c2 (x4.toNat) 1 x_a2) (x_l2 - x4.toNat) (x_c2 - x4.toNat))] w16 fun e_3 w17 =>
        ∃ r_a1 : Option Addr, ∃ r_l1 r_c1 : Nat, e_3 = .returned (.slice r_a1 r_l1 r_c1) ∧
        (KeepsB S w16 w17 ∧ (kSet w17 ⟨b2, 3, none⟩ (.int .i64 x6) fun w18 =>
        (KeepsB S w16 w18 ∧ (kSet w18 ⟨b2, 4, none⟩ (.slice r_a1 r_l1 r_c1) fun w19 =>
        (kLdS w19 ⟨b1, 4, none⟩ fun x_a3 _ x_c3 =>
        ((0 ≤ x4 ∧ x4 ≤ ((x_c3 : Nat) : Int)) ∧ ((0 ≤ x4 ∧ x4 ≤ ((x4.toNat : Nat) : Int)) ∧ (kSet w19 ⟨b1, 4, none⟩ (.slice (slAddr (x4.toNat) 0 1 x_a3) (x4.toNat - 0) (x4.toNat - 0)) fun w20 =>
        (kDrew w20 fun w21 =>
        (∃ S1 : Nat → Prop,
        (kLd w21 ⟨b, 1, none⟩ .i64 fun x7 =>
        (S1 b ∧
        (kLd w21 ⟨b, 1, none⟩ .i64 fun x8 =>
        (Calls Try.prog N_segment_begins #[(.int .i64 x7)] w21 fun e_4 w22 =>
        ∃ r2 : Bool, e_4 = .returned (.bool r2) ∧
        (KeepsB S1 w21 w22 ∧ (Calls Try.prog N_segment_Part #[(.bool r2), (.bool false)] w22 fun e_5 w23 =>
        ∃ r3 : Int, e_5 = .returned (.int .i64 r3) ∧
        (KeepsB S1 w21 w23 ∧ (Calls Try.prog N_segment_Ends #[(.int .i64 x8)] w23 fun e_6 w24 =>
        ∃ r4 : Bool, e_6 = .returned (.bool r4) ∧
        (KeepsB S1 w21 w24 ∧ (Calls Try.prog N_segment_Part #[(.bool false), (.bool r4)] w24 fun e_7 w25 =>
        ∃ r5 : Int, e_7 = .returned (.int .i64 r5) ∧
        (KeepsB S1 w21 w25 ∧ (kSet w25 ⟨b1, 1, none⟩ (.int .i64 r3) fun w26 =>
        (KeepsB S1 w21 w26 ∧ (kSet w26 ⟨b2, 1, none⟩ (.int .i64 r5) fun w27 =>
        (kDrew w27 fun w28 =>
        (∃ S2 : Nat → Prop,
        (∃ x_04 x_14 x_24 x_34 : Int, ∃ x_4_a4 : Option Addr, ∃ x_4_l4 x_4_c4 : Nat, cellsAt w28 ⟨b1, 0, none⟩ 0 [(.int .i64 x_04), (.int .i64 x_14), (.int .i64 x_24), (.int .i64 x_34), (.slice x_4_a4 x_4_l4 x_4_c4)] ∧
        (S2 b2 ∧
        (∃ x_05 x_15 x_25 x_35 : Int, ∃ x_4_a5 : Option Addr, ∃ x_4_l5 x_4_c5 : Nat, cellsAt w28 ⟨b2, 0, none⟩ 0 [(.int .i64 x_05), (.int .i64 x_15), (.int .i64 x_25), (.int .i64 x_35), (.slice x_4_a5 x_4_l5 x_4_c5)] ∧
        (sxStore w28 ⟨b1, 0, none⟩ 0 [(.int .i64 x_04), (.int .i64 x_14), (.int .i64 x_24), (.int .i64 x_34), (.slice x_4_a4 x_4_l4 x_4_c4)] fun w29 =>
        (KeepsB S2 w28 w29 ∧ (sxStore w29 ⟨b2, 0, none⟩ 0 [(.int .i64 x_05), (.int .i64 x_15), (.int .i64 x_25), (.int .i64 x_35), (.slice x_4_a5 x_4_l5 x_4_c5)] fun w30 =>
        (KeepsB S2 w28 w30 ∧ (∃ r_06 r_16 r_26 r_36 : Int, ∃ r_4_a6 : Option Addr, ∃ r_4_l6 r_4_c6 : Nat, cellsAt w30 ⟨b1, 0, none⟩ 0 [(.int .i64 r_06), (.int .i64 r_16), (.int .i64 r_26), (.int .i64 r_36), (.slice r_4_a6 r_4_l6 r_4_c6)] ∧
        (∃ r_07 r_17 r_27 r_37 : Int, ∃ r_4_a7 : Option Addr, ∃ r_4_l7 r_4_c7 : Nat, cellsAt w30 ⟨b2, 0, none⟩ 0 [(.int .i64 r_07), (.int .i64 r_17), (.int .i64 r_27), (.int .i64 r_37), (.slice r_4_a7 r_4_l7 r_4_c7)] ∧
        R (.tuple #[(.agg #[.int .i64 r_06, .int .i64 r_16, .int .i64 r_26, .int .i64 r_36, .slice r_4_a6 r_4_l6 r_4_c6]), (.agg #[.int .i64 r_07, .int .i64 r_17, .int .i64 r_27, .int .i64 r_37, .slice r_4_a7 r_4_l7 r_4_c7]), (.int .i64 (0 : Int))]) w30))))))))))))))))))))))))))))))))))))))))))))))))))))))))))))))))))))
theorem F_segment_Cut_eq (bits : Int) (p_0 : Int) (p_1 : Int) (p_2 : Int) (p_3 : Int) (p_4_a : Option Addr) (p_4_l : Nat) (p_4_c : Nat) (size : Int) (w : World) (R : Value → World → Prop) : sxFn Try.prog TT h_segment_Cut Try.f33 #[(.int .i64 bits), (.agg #[.int .i64 p_0, .int .i64 p_1, .int .i64 p_2, .int .i64 p_3, .slice p_4_a p_4_l p_4_c]), (.int .i64 size)] w R = F_segment_Cut bits p_0 p_1 p_2 p_3 p_4_a p_4_l p_4_c size w R := by kernel_rfl
theorem F_segment_Cut_ok {R : Ending → World → Prop} (bits : Int) (p_0 : Int) (p_1 : Int) (p_2 : Int) (p_3 : Int) (p_4_a : Option Addr) (p_4_l : Nat) (p_4_c : Nat) (size : Int) (w : World) (h : F_segment_Cut bits p_0 p_1 p_2 p_3 p_4_a p_4_l p_4_c size w fun v w' => R (.returned v) w') : Calls Try.prog N_segment_Cut #[(.int .i64 bits), (.agg #[.int .i64 p_0, .int .i64 p_1, .int .i64 p_2, .int .i64 p_3, .slice p_4_a p_4_l p_4_c]), (.int .i64 size)] w R :=
  calls_of (f := 33) follows_ok Try.func33 (Eq.mpr (F_segment_Cut_eq bits p_0 p_1 p_2 p_3 p_4_a p_4_l p_4_c size w _) h)

def h_unack_piece : H := (.seq .reg (.seq (.seq .reg (.cond (.seq .reg .leaf) .leaf)) (.seq .reg .leaf)))
def F_unack_piece (sn : Int) (offset : Int) (data_a : Option Addr) (data_l : Nat) (data_c : Nat) (w : World) (R : Value → World → Prop) : Prop :=
  (kAlloc w #[.int .i64 (0 : Int), .int .i64 (0 : Int), .int .i64 (0 : Int), .int .i64 (0 : Int), .slice none 0 0] Ty_api_Piece fun b w1 =>
  (bsplit (decide (offset = (0 : Int)))
    ((sxStore w1 ⟨b, 0, none⟩ 0 [(.int .i64 sn), (.int .i64 (0 : Int)), (.int .i64 (0 : Int)), (.int .i64 (0 : Int)), (.slice data_a data_l data_c)] fun w2 =>
    (∃ r_0 r_1 r_2 r_3 : Int, ∃ r_4_a : Option Addr, ∃ r_4_l r_4_c : Nat, cellsAt w2 ⟨b, 0, none⟩ 0 [(.int .i64 r_0), (.int .i64 r_1), (.int .i64 r_2), (.int .i64 r_3), (.slice r_4_a r_4_l r_4_c)] ∧
    R (.agg #[.int .i64 r_0, .int .i64 r_1, .int .i64 r_2, .int .i64 r_3, .slice r_4_a r_4_l r_4_c]) w2)))
    ((sxStore w1 ⟨b, 0, none⟩ 0 [(.int .i64 sn), (.int .i64 (2 : Int)), (.int .i64 (0 : Int)), (.int .i64 offset), (.slice data_a data_l data_c)] fun w3 =>
    (∃ r_01 r_11 r_21 r_31 : Int, ∃ r_4_a1 : Option Addr, ∃ r_4_l1 r_4_c1 : Nat, cellsAt w3 ⟨b, 0, none⟩ 0 [(.int .i64 r_01), (.int .i64 r_11), (.int .i64 r_21), (.int .i64 r_31), (.slice r_4_a1 r_4_l1 r_4_c1)] ∧
    R (.agg #[.int .i64 r_01, .int .i64 r_11, .int .i64 r_21, .int .i64 r_31, .slice r_4_a1 r_4_l1 r_4_c1]) w3)))))
theorem F_unack_piece_eq (sn : Int) (offset : Int) (data_a : Option Addr) (data_l : Nat) (data_c : Nat) (w : World) (R : Value → World → Prop) : sxFn Try.prog TT h_unack_piece Try.f34 #[(.int .i64 sn), (.int .i64 offset), (.slice data_a data_l data_c)] w R = F_unack_piece sn offset data_a data_l data_c w R := by kernel_rfl
theorem F_unack_piece_ok {R : Ending → World → Prop} (sn : Int) (offset : Int) (data_a : Option Addr) (data_l : Nat) (data_c : Nat) (w : World) (h : F_unack_piece sn offset data_a data_l data_c w fun v w' => R (.returned v) w') : Calls Try.prog N_unack_piece #[(.int .i64 sn), (.int .i64 offset), (.slice data_a data_l data_c)] w R :=
  calls_of (f := 34) follows_ok Try.func34 (Eq.mpr (F_unack_piece_eq sn offset data_a data_l data_c w _) h)

def h_segment_Encode : H := (.seq .reg (.seq (.seq .reg (.cond (.seq .reg .leaf) .leaf)) (.seq .reg (.seq .reg (.seq (.seq .reg (.cond .reg .leaf)) (.seq .reg .leaf))))))
def F_segment_Encode (bits : Int) (p_0 : Int) (p_1 : Int) (p_2 : Int) (p_3 : Int) (p_4_a : Option Addr) (p_4_l : Nat) (p_4_c : Nat) (w : World) (R : Value → World → Prop) : Prop :=
  (kAlloc w #[(.int .i64 p_0), (.int .i64 p_1), (.int .i64 p_2), (.int .i64 p_3), (.slice p_4_a p_4_l p_4_c)] Ty_api_Piece fun b w1 =>
  (∃ x_0 x_1 x_2 x_3 : Int, ∃ x_4_a : Option Addr, ∃ x_4_l x_4_c : Nat, cellsAt w1 ⟨b, 0, none⟩ 0 [(.int .i64 x_0), (.int .i64 x_1), (.int .i64 x_2), (.int .i64 x_3), (.slice x_4_a x_4_l x_4_c)] ∧
  (Calls Try.prog N_segment_Valid #[(.int .i64 bits), (.agg #[.int .i64 x_0, .int .i64 x_1, .int .i64 x_2, .int .i64 x_3, .slice x_4_a x_4_l x_4_c])] w1 fun e_ w2 =>
  ∃ r : Bool, e_ = .returned (.bool r) ∧
  (bsplit (!r)
    (R (.tuple #[(.slice none 0 0), (.int .i64 (1 : Int))]) w2)
    ((kLd w2 ⟨b, 2, none⟩ .i64 fun x =>
    (kW .i64 (x * 2 ^ 14) fun x1 =>
    (kLet (bOr .i64 (32768 : Int) x1) fun x2 =>
    (kLd w2 ⟨b, 1, none⟩ .i64 fun x3 =>
    (kW .i64 (x3 * 2 ^ 12) fun x4 =>
    (kLet (bOr .i64 x2 x4) fun x5 =>
    (kLd w2 ⟨b, 0, none⟩ .i64 fun x6 =>
    (kLet (bOr .i64 x5 x6) fun x7 =>
    (kLet (Int.fdiv x7 (2 ^ 8)) fun x8 =>
    (kW .u8 (x8) fun x9 =>
    (kW .u8 (x7) fun x10 =>
    (kAlloc w2 #[(.int .u8 x9), (.int .u8 x10)] Ty_uint8 fun b1 w3 =>
    (kLd w3 ⟨b, 1, none⟩ .i64 fun x11 =>
    (Calls Try.prog N_segment_begins #[(.int .i64 x11)] w3 fun e_1 w4 =>
    ∃ r1 : Bool, e_1 = .returned (.bool r1) ∧
    (bsplit (!r1)
      ((kLd w4 ⟨b, 3, none⟩ .i64 fun x12 =>
      (kLet (Int.fdiv x12 (2 ^ 8)) fun x13 =>
      (kW .u8 (x13) fun x14 =>
      (kLd w4 ⟨b, 3, none⟩ .i64 fun x15 =>
      (kW .u8 (x15) fun x16 =>
      (kAlloc w4 #[(.int .u8 x14), (.int .u8 x16)] Ty_uint8 fun b2 w5 =>
      (AppP Try.prog #[Ty_S_uint8, Ty_S_uint8] Ty_S_uint8 #[(.slice (some ⟨b1, 0, none⟩) 2 2), (.slice (some ⟨b2, 0, none⟩) 2 2)] w5 fun x_a x_l x_c w6 =>
      (kLdS w6 ⟨b, 4, none⟩ fun x_a1 x_l1 x_c1 =>
      (AppP Try.prog #[Ty_S_uint8, Ty_S_uint8] Ty_S_uint8 #[(.slice x_a x_l x_c), (.slice x_a1 x_l1 x_c1)] w6 fun x_a2 x_l2 x_c2 w7 =>
      R (.tuple #[(.slice x_a2 x_l2 x_c2), (.int .i64 (0 : Int))]) w7))))))))))
      ((kLdS w4 ⟨b, 4, none⟩ fun x_a3 x_l3 x_c3 =>
      (AppP Try.prog #[Ty_S_uint8, Ty_S_uint8] Ty_S_uint8 #[(.slice (some ⟨b1, 0, none⟩) 2 2), (.slice x_a3 x_l3 x_c3)] w4 fun x_a4 x_l4 x_c4 w8 =>
      R (.tuple #[(.slice x_a4 x_l4 x_c4), (.int .i64 (0 : Int))]) w8)))))))))))))))))))))))
theorem F_segment_Encode_eq (bits : Int) (p_0 : Int) (p_1 : Int) (p_2 : Int) (p_3 : Int) (p_4_a : Option Addr) (p_4_l : Nat) (p_4_c : Nat) (w : World) (R : Value → World → Prop) : sxFn Try.prog TT h_segment_Encode Try.f35 #[(.int .i64 bits), (.agg #[.int .i64 p_0, .int .i64 p_1, .int .i64 p_2, .int .i64 p_3, .slice p_4_a p_4_l p_4_c])] w R = F_segment_Encode bits p_0 p_1 p_2 p_3 p_4_a p_4_l p_4_c w R := by kernel_rfl
theorem F_segment_Encode_ok {R : Ending → World → Prop} (bits : Int) (p_0 : Int) (p_1 : Int) (p_2 : Int) (p_3 : Int) (p_4_a : Option Addr) (p_4_l : Nat) (p_4_c : Nat) (w : World) (h : F_segment_Encode bits p_0 p_1 p_2 p_3 p_4_a p_4_l p_4_c w fun v w' => R (.returned v) w') : Calls Try.prog N_segment_Encode #[(.int .i64 bits), (.agg #[.int .i64 p_0, .int .i64 p_1, .int .i64 p_2, .int .i64 p_3, .slice p_4_a p_4_l p_4_c])] w R :=
  calls_of (f := 35) follows_ok Try.func35 (Eq.mpr (F_segment_Encode_eq bits p_0 p_1 p_2 p_3 p_4_a p_4_l p_4_c w _) h)

def h_serial_Low : H := (.seq .reg (.seq (.seq .reg (.cond (.seq .reg .leaf) .leaf)) (.seq .reg .leaf)))
def F_serial_Low (n : Int) (x : Int) (w : World) (R : Value → World → Prop) : Prop :=
  (Calls Try.prog N_serial_valid #[(.int .i64 n)] w fun e_ w1 =>
  ∃ r : Bool, e_ = .returned (.bool r) ∧
  (bsplit (!r)
    (R (.int .i64 (-1 : Int)) w1)
    ((0 ≤ n ∧ (kW .i64 ((1 : Int) * 2 ^ (min n.toNat (IntKind.bits .i64))) fun x1 =>
    (kW .i64 (x1 - (1 : Int)) fun x2 =>
    (kLet (bAnd .i64 x x2) fun x3 =>
    R (.int .i64 x3) w1)))))))
theorem F_serial_Low_eq (n : Int) (x : Int) (w : World) (R : Value → World → Prop) : sxFn Try.prog TT h_serial_Low Try.f36 #[(.int .i64 n), (.int .i64 x)] w R = F_serial_Low n x w R := by kernel_rfl
theorem F_serial_Low_ok {R : Ending → World → Prop} (n : Int) (x : Int) (w : World) (h : F_serial_Low n x w fun v w' => R (.returned v) w') : Calls Try.prog N_serial_Low #[(.int .i64 n), (.int .i64 x)] w R :=
  calls_of (f := 36) follows_ok Try.func36 (Eq.mpr (F_serial_Low_eq n x w _) h)

def h_receiver_Receive : H := (.seq .reg (.seq (.seq .reg (.cond (.seq .reg .leaf) .leaf)) (.seq .reg (.seq .reg (.seq (.seq .reg (.cond (.seq .reg .leaf) .leaf)) (.cut [(10, .p .addr)] [10, 37, 38, 39, 40, 41, 42, 43, 44, 45, 46, 47] (.draw .blk (.one 0 .stable (.one 1 .stable (.one 2 .stable (.one 3 .stable (.one 4 .stable (.one 5 .stable (.one 6 .stable (.one 7 .stable (.one 8 .stable (.alt 9 (.alt 10 (.one 11 .keep (.one 12 .last .nil)) (.alt 11 (.one 10 .keep (.one 12 .last .nil)) .endAlt)) (.alt 11 (.one 9 .keep (.one 10 .keep (.one 12 .last .nil))) .endAlt)))))))))))) (.seq (.draw .blk (.one 0 .stable (.one 1 .stable (.one 2 .stable (.one 3 .stable (.one 4 .stable (.one 5 .pre (.one 6 .pre (.one 7 .pre (.one 8 .pre (.one 10 .stable (.one 9 .keep (.one 11 .keep (.one 12 .stable (.one 13 .stable (.one 14 .stable (.one 15 .stable (.one 16 .stable .nil)))))))))))))))))) (.seq (.seq .reg (.seq .reg (.cond (.seq .reg (.seq .reg .leaf)) .leaf))) (.cut [] [78, 79, 80, 81, 82, 83, 84, 85, 86, 87, 88, 89, 90, 91, 92, 93, 94, 95] (.seq .reg (.cond (.draw .blk (.one 0 .stable (.one 1 .stable (.one 2 .stable (.one 3 .stable (.one 4 .stable (.one 5 .stable (.one 6 .stable (.one 7 .pre (.one 8 .pre (.one 9 .pre (.one 10 .keep (.one 11 .keep (.one 12 .keep (.one 13 .stable (.one 14 .stable (.one 15 .stable (.one 16 .last .nil)))))))))))))))))) .leaf)) (.cut [] [96, 97, 98, 99, 100, 101, 102, 103, 104, 105, 106, 107, 108, 109, 110, 111, 112, 113, 114, 115, 116, 117] (.seq (.draw .blk (.one 0 .pre (.one 1 .pre (.one 2 .pre (.one 3 .pre (.one 5 .stable (.one 6 .stable (.one 7 .stable (.one 8 .stable (.one 9 .stable (.one 10 .stable (.one 4 .keep (.one 11 .keep (.one 12 .stable .nil)))))))))))))) (.cond (.draw .blk (.one 0 .stable (.one 1 .pre (.one 2 .pre (.one 3 .pre (.one 4 .pre (.one 5 .keep (.one 6 .stable (.one 7 .stable (.one 8 .stable (.one 9 .last .nil))))))))))) .leaf)) (.seq .reg (.seq .reg (.seq .reg (.cut [(15, .p .slice)] [15, 128, 129, 130, 131, 132, 133, 134, 135, 136, 137, 138, 139, 140, 141] (.seq .reg (.cond (.seq .reg .reg) .leaf)) (.seq .reg (.seq .reg (.seq .reg (.seq .reg .leaf))))))))))))))))))
def F_receiver_Receive (r_0 : Int) (r_1 : Int) (r_2 : Int) (r_3 : Int) (r_4 : Int) (r_5 : Int) (r_6 : Int) (r_7 : Int) (r_8 : Int) (r_9 : Int) (r_10 : Int) (r_11 : Int) (r_12 : Bool) (r_13_a : Option Addr) (r_13_l : Nat) (r_13_c : Nat) (b_a : Option Addr) (b_l : Nat) (b_c : Nat) (w : World) (R : Value → World → Prop) : Prop :=
  (kAlloc w #[(.int .i64 r_0), (.int .i64 r_1), (.int .i64 r_2), (.int .i64 r_3), (.int .i64 r_4), (.int .i64 r_5), (.int .i64 r_6), (.int .i64 r_7), (.int .i64 r_8), (.int .i64 r_9), (.int .i64 r_10), (.int .i64 r_11), (.bool r_12), (.slice r_13_a r_13_l r_13_c)] Ty_api_Receiver fun b w1 =>
  (kAlloc w1 #[.int .i64 (0 : Int), .int .i64 (0 : Int), .int .i64 (0 : Int), .int .i64 (0 : Int), .int .i64 (0 : Int), .int .i64 (0 : Int), .int .i64 (0 : Int), .int .i64 (0 : Int), .int .i64 (0 : Int), .int .i64 (0 : Int), .int .i64 (0 : Int), .int .i64 (0 : Int), .bool false, .slice none 0 0] Ty_api_Receiver fun b1 w2 =>
  (∃ x_0 x_1 x_2 x_3 x_4 x_5 x_6 x_7 x_8 x_9 x_10 x_11 : Int, ∃ x_12 : Bool, ∃ x_13_a : Option Addr, ∃ x_13_l x_13_c : Nat, cellsAt w2 ⟨b, 0, none⟩ 0 [(.int .i64 x_0), (.int .i64 x_1), (.int .i64 x_2), (.int .i64 x_3), (.int .i64 x_4), (.int .i64 x_5), (.int .i64 x_6), (.int .i64 x_7), (.int .i64 x_8), (.int .i64 x_9), (.int .i64 x_10), (.int .i64 x_11), (.bool x_12), (.slice x_13_a x_13_l x_13_c)] ∧
  (Calls Try.prog N_receiver_Valid #[(.agg #[.int .i64 x_0, .int .i64 x_1, .int .i64 x_2, .int .i64 x_3, .int .i64 x_4, .int .i64 x_5, .int .i64 x_6, .int .i64 x_7, .int .i64 x_8, .int .i64 x_9, .int .i64 x_10, .int .i64 x_11, .bool x_12, .slice x_13_a x_13_l x_13_c])] w2 fun e_ w3 =>
  ∃ r : Bool, e_ = .returned (.bool r) ∧
  (bsplit (!r)
    ((sxStore w3 ⟨b1, 0, none⟩ 0 [(.int .i64 (0 : Int)), (.int .i64 (0 : Int)), (.int .i64 (0 : Int)), (.int .i64 (0 : Int)), (.int .i64 (0 : Int)), (.int .i64 (0 : Int)), (.int .i64 (0 : Int)), (.int .i64 (0 : Int)), (.int .i64 (0 : Int)), (.int .i64 (0 : Int)), (.int .i64 (0 : Int)), (.int .i64 (0 : Int)), (.bool false), (.slice none 0 0)] fun w4 =>
    (∃ r_01 r_13 r_21 r_31 r_41 r_51 r_61 r_71 r_81 r_91 r_101 r_111 : Int, ∃ r_121 : Bool, ∃ r_13_a1 : Option Addr, ∃ r_13_l1 r_13_c1 : Nat, cellsAt w4 ⟨b1, 0, none⟩ 0 [(.int .i64 r_01), (.int .i64 r_13), (.int .i64 r_21), (.int .i64 r_31), (.int .i64 r_41), (.int .i64 r_51), (.int .i64 r_61), (.int .i64 r_71), (.int .i64 r_81), (.int .i64 r_91), (.int .i64 r_101), (.int .i64 r_111), (.bool r_121), (.slice r_13_a1 r_13_l1 r_13_c1)] ∧
    R (.tuple #[(.agg #[.int .i64 r_01, .int .i64 r_13, .int .i64 r_21, .int .i64 r_31, .int .i64 r_41, .int .i64 r_51, .int .i64 r_61, .int .i64 r_71, .int .i64 r_81, .int .i64 r_91, .int .i64 r_101, .int .i64 r_111, .bool r_121, .slice r_13_a1 r_13_l1 r_13_c1]), (.slice none 0 0), (.int .i64 (1 : Int))]) w4)))
    ((∃ x_01 x_13 x_21 x_31 x_41 x_51 x_61 x_71 x_81 x_91 x_101 x_111 : Int, ∃ x_121 : Bool, ∃ x_13_a1 : Option Addr, ∃ x_13_l1 x_13_c1 : Nat, cellsAt w3 ⟨b, 0, none⟩ 0 [(.int .i64 x_01), (.int .i64 x_13), (.int .i64 x_21), (.int .i64 x_31), (.int .i64 x_41), (.int .i64 x_51), (.int .i64 x_61), (.int .i64 x_71), (.int .i64 x_81), (.int .i64 x_91), (.int .i64 x_101), (.int .i64 x_111), (.bool x_121), (.slice x_13_a1 x_13_l1 x_13_c1)] ∧
    (Calls Try.prog N_receiver_begin #[(.agg #[.int .i64 x_01, .int .i64 x_13, .int .i64 x_21, .int .i64 x_31, .int .i64 x_41, .int .i64 x_51, .int .i64 x_61, .int .i64 x_71, .int .i64 x_81, .int .i64 x_91, .int .i64 x_101, .int .i64 x_111, .bool x_121, .slice x_13_a1 x_13_l1 x_13_c1])] w3 fun e_1 w5 =>
    ∃ r1 : Option Addr, e_1 = .returned (.pointer r1) ∧
    (kAlloc w5 #[.pointer none] Ty_P_receiver_side fun b2 w6 =>
    (kSet w6 ⟨b2, 0, none⟩ (.pointer r1) fun w7 =>
    (kLd w7 ⟨b, 0, none⟩ .i64 fun x =>
    (Calls Try.prog N_segment_Decode #[(.int .i64 x), (.slice b_a b_l b_c)] w7 fun e_2 w8 =>
    ∃ r_02 r_14 r_22 r_32 : Int, ∃ r_4_a : Option Addr, ∃ r_4_l r_4_c : Nat, ∃ r2 : Int, e_2 = .returned (.tuple #[(.agg #[.int .i64 r_02, .int .i64 r_14, .int .i64 r_22, .int .i64 r_32, .slice r_4_a r_4_l r_4_c]), (.int .i64 r2)]) ∧
    (kAlloc w8 #[.int .i64 (0 : Int), .int .i64 (0 : Int), .int .i64 (0 : Int), .int .i64 (0 : Int), .slice none 0 0] Ty_api_Piece fun b3 w9 =>
    (sxStore w9 ⟨b3, 0, none⟩ 0 [(.int .i64 r_02), (.int .i64 r_14), (.int .i64 r_22), (.int .i64 r_32), (.slice r_4_a r_4_l r_4_c)] fun w10 =>
    (bsplit (!decide (r2 = (0 : Int)))
      ((∃ x1 : Option Addr, w10.cell? ⟨b2, 0, none⟩ = some (.pointer x1) ∧
      (kNil x1 fun x2 =>
      (∃ x_02 x_14 x_22 x_32 x_42 x_52 x_62 x_72 x_82 x_92 x_102 x_112 : Int, ∃ x_122 : Bool, ∃ x_13_a2 : Option Addr, ∃ x_13_l2 x_13_c2 : Nat, cellsAt w10 x2 0 [(.int .i64 x_02), (.int .i64 x_14), (.int .i64 x_22), (.int .i64 x_32), (.int .i64 x_42), (.int .i64 x_52), (.int .i64 x_62), (.int .i64 x_72), (.int .i64 x_82), (.int .i64 x_92), (.int .i64 x_102), (.int .i64 x_112), (.bool x_122), (.slice x_13_a2 x_13_l2 x_13_c2)] ∧
      (sxStore w10 ⟨b1, 0, none⟩ 0 [(.int .i64 x_02), (.int .i64 x_14), (.int .i64 x_22), (.int .i64 x_32), (.int .i64 x_42), (.int .i64 x_52), (.int .i64 x_62), (.int .i64 x_72), (.int .i64 x_82), (.int .i64 x_92), (.int .i64 x_102), (.int .i64 x_112), (.bool x_122), (.slice x_13_a2 x_13_l2 x_13_c2)] fun w11 =>
      (∃ r_03 r_15 r_23 r_33 r_42 r_52 r_62 r_72 r_82 r_92 r_102 r_112 : Int, ∃ r_122 : Bool, ∃ r_13_a2 : Option Addr, ∃ r_13_l2 r_13_c2 : Nat, cellsAt w11 ⟨b1, 0, none⟩ 0 [(.int .i64 r_03), (.int .i64 r_15), (.int .i64 r_23), (.int .i64 r_33), (.int .i64 r_42), (.int .i64 r_52), (.int .i64 r_62), (.int .i64 r_72), (.int .i64 r_82), (.int .i64 r_92), (.int .i64 r_102), (.int .i64 r_112), (.bool r_122), (.slice r_13_a2 r_13_l2 r_13_c2)] ∧
      R (.tuple #[(.agg #[.int .i64 r_03, .int .i64 r_15, .int .i64 r_23, .int .i64 r_33, .int .i64 r_42, .int .i64 r_52, .int .i64 r_62, .int .i64 r_72, .int .i64 r_82, .int .i64 r_92, .int .i64 r_102, .int .i64 r_112, .bool r_122, .slice r_13_a2 r_13_l2 r_13_c2]), (.slice none 0 0), (.int .i64 r2)]) w11))))))
      ((∃ J : Addr → World → Prop,
      (∀ (_junk : Env) (p : Addr) (w21 : World), J p w21 →
        (kDrew w21 fun w22 =>
        (∃ S1 : Nat → Prop,
        (S1 b2 ∧
        (∃ x6 : Option Addr, w22.cell? ⟨b2, 0, none⟩ = some (.pointer x6) ∧
        (kNil x6 fun x7 =>
        (S1 (x7.add 13).block ∧
        (kLdS w22 (x7.add 13) fun x_a1 x_l1 x_c1 =>
        (∃ x8 : Option Addr, w22.cell? ⟨b2, 0, none⟩ = some (.pointer x8) ∧
        (kLd w22 p .i64 fun x9 =>
        (Calls Try.prog N_receiver_side_place #[(.pointer x8), (.int .i64 x9)] w22 fun e_5 w23 =>
        ∃ r5 : Int, e_5 = .returned (.int .i64 r5) ∧
        (KeepsB S1 w22 w23 ∧ (Calls Try.prog N_slices_BinarySearchFunc_Sapi_Partial_api_Partial_int #[(.slice x_a1 x_l1 x_c1), (.int .i64 r5), (.func (.func N_receiver_Receive_1) #[] #[(.pointer (some ⟨b2, 0, none⟩))])] w23 fun e_6 w24 =>
        ∃ r6 : Int, ∃ r7 : Bool, e_6 = .returned (.tuple #[(.int .i64 r6), (.bool r7)]) ∧
        (KeepsB S1 w22 w24 ∧ (∃ x10 : Option Addr, w24.cell? ⟨b2, 0, none⟩ = some (.pointer x10) ∧
        (∃ x_04 x_16 x_24 x_34 : Int, ∃ x_4_a1 : Option Addr, ∃ x_4_l1 x_4_c1 : Nat, ∃ x_53 : Int, ∃ x_63 : Bool, cellsAt w24 p 0 [(.int .i64 x_04), (.int .i64 x_16), (.int .i64 x_24), (.int .i64 x_34), (.slice x_4_a1 x_4_l1 x_4_c1), (.int .i64 x_53), (.bool x_63)] ∧
        (Calls Try.prog N_receiver_side_refused #[(.pointer x10), (.agg #[.int .i64 x_04, .int .i64 x_16, .int .i64 x_24, .int .i64 x_34, .slice x_4_a1 x_4_l1 x_4_c1, .int .i64 x_53, .bool x_63]), (.int .i64 r6), (.bool r7)] w24 fun e_7 w25 =>
        ∃ r8 : Int, e_7 = .returned (.int .i64 r8) ∧
        (bsplit (!decide (r8 = (0 : Int)))
          ((∃ x11 : Option Addr, w25.cell? ⟨b2, 0, none⟩ = some (.pointer x11) ∧
          (∃ x_05 x_17 x_25 x_35 : Int, ∃ x_4_a2 : Option Addr, ∃ x_4_l2 x_4_c2 : Nat, cellsAt w25 ⟨b3, 0, none⟩ 0 [(.int .i64 x_05), (.int .i64 x_17), (.int .i64 x_25), (.int .i64 x_35), (.slice x_4_a2 x_4_l2 x_4_c2)] ∧
          (Calls Try.prog N_receiver_side_poll #[(.pointer x11), (.agg #[.int .i64 x_05, .int .i64 x_17, .int .i64 x_25, .int .i64 x_35, .slice x_4_a2 x_4_l2 x_4_c2])] w25 fun e_8 w26 =>
          e_8 = .returned (.tuple #[]) ∧
          (∃ x12 : Option Addr, w26.cell? ⟨b2, 0, none⟩ = some (.pointer x12) ∧
          (kNil x12 fun x13 =>
          (∃ x_06 x_18 x_26 x_36 x_43 x_54 x_64 x_73 x_83 x_93 x_103 x_113 : Int, ∃ x_123 : Bool, ∃ x_13_a3 : Option Addr, ∃ x_13_l3 x_13_c3 : Nat, cellsAt w26 x13 0 [(.int .i64 x_06), (.int .i64 x_18), (.int .i64 x_26), (.int .i64 x_36), (.int .i64 x_43), (.int .i64 x_54), (.int .i64 x_64), (.int .i64 x_73), (.int .i64 x_83), (.int .i64 x_93), (.int .i64 x_103), (.int .i64 x_113), (.bool x_123), (.slice x_13_a3 x_13_l3 x_13_c3)] ∧
          (sxStore w26 ⟨b1, 0, none⟩ 0 [(.int .i64 x_06), (.int .i64 x_18), (.int .i64 x_26), (.int .i64 x_36), (.int .i64 x_43), (.int .i64 x_54), (.int .i64 x_64), (.int .i64 x_73), (.int .i64 x_83), (.int .i64 x_93), (.int .i64 x_103), (.int .i64 x_113), (.bool x_123), (.slice x_13_a3 x_13_l3 x_13_c3)] fun w27 =>
          (∃ r_04 r_16 r_24 r_34 r_43 r_53 r_63 r_73 r_83 r_93 r_103 r_113 : Int, ∃ r_123 : Bool, ∃ r_13_a3 : Option Addr, ∃ r_13_l3 r_13_c3 : Nat, cellsAt w27 ⟨b1, 0, none⟩ 0 [(.int .i64 r_04), (.int .i64 r_16), (.int .i64 r_24), (.int .i64 r_34), (.int .i64 r_43), (.int .i64 r_53), (.int .i64 r_63), (.int .i64 r_73), (.int .i64 r_83), (.int .i64 r_93), (.int .i64 r_103), (.int .i64 r_113), (.bool r_123), (.slice r_13_a3 r_13_l3 r_13_c3)] ∧
          R (.tuple #[(.agg #[.int .i64 r_04, .int .i64 r_16, .int .i64 r_24, .int .i64 r_34, .int .i64 r_43, .int .i64 r_53, .int .i64 r_63, .int .i64 r_73, .int .i64 r_83, .int .i64 r_93, .int .i64 r_103, .int .i64 r_113, .bool r_123, .slice r_13_a3 r_13_l3 r_13_c3]), (.slice none 0 0), (.int .i64 r8)]) w27)))))))))
          ((∃ J1 : World → Prop,
          (∀ (_junk : Env)  (w32 : World), J1 w32 →
            (∃ J2 : World → Prop,
            (∀ (_junk : Env)  (w39 : World), J2 w39 →
              (∃ x29 : Option Addr, w39.cell? ⟨b2, 0, none⟩ = some (.pointer x29) ∧
              (kNil x29 fun x30 =>
              (kLdS w39 (x30.add 13) fun x_a3 x_l3 _ =>
              (kIx x_a3 x_l3 r6 fun b8 =>
              (∃ x_07 x_19 x_27 x_37 : Int, ∃ x_4_a3 : Option Addr, ∃ x_4_l3 x_4_c3 : Nat, ∃ x_55 : Int, ∃ x_65 : Bool, cellsAt w39 p 0 [(.int .i64 x_07), (.int .i64 x_19), (.int .i64 x_27), (.int .i64 x_37), (.slice x_4_a3 x_4_l3 x_4_c3), (.int .i64 x_55), (.bool x_65)] ∧
              (Calls Try.prog N_receiver_piece_put #[(.agg #[.int .i64 x_07, .int .i64 x_19, .int .i64 x_27, .int .i64 x_37, .slice x_4_a3 x_4_l3 x_4_c3, .int .i64 x_55, .bool x_65]), (.pointer (some (b8.add (r6.toNat * 5))))] w39 fun e_13 w40 =>
              e_13 = .returned (.tuple #[]) ∧
              (∃ J3 : Option Addr → Nat → Nat → World → Prop,
              (∀ (_junk : Env) (out_a : Option Addr) (out_l : Nat) (out_c : Nat) (w43 : World), J3 out_a out_l out_c w43 →
                (∃ x32 : Option Addr, w43.cell? ⟨b2, 0, none⟩ = some (.pointer x32) ∧
                (Calls Try.prog N_receiver_side_advance #[(.pointer x32)] w43 fun e_15 w44 =>
                e_15 = .returned (.tuple #[]) ∧
                (∃ x33 : Option Addr, w44.cell? ⟨b2, 0, none⟩ = some (.pointer x33) ∧
                (Calls Try.prog N_receiver_side_start #[(.pointer x33)] w44 fun e_16 w45 =>
                e_16 = .returned (.tuple #[]) ∧
                (∃ x34 : Option Addr, w45.cell? ⟨b2, 0, none⟩ = some (.pointer x34) ∧
                (∃ x_09 x_114 x_29 x_38 : Int, ∃ x_4_a5 : Option Addr, ∃ x_4_l5 x_4_c5 : Nat, cellsAt w45 ⟨b3, 0, none⟩ 0 [(.int .i64 x_09), (.int .i64 x_114), (.int .i64 x_29), (.int .i64 x_38), (.slice x_4_a5 x_4_l5 x_4_c5)] ∧
                (Calls Try.prog N_receiver_side_poll #[(.pointer x34), (.agg #[.int .i64 x_09, .int .i64 x_114, .int .i64 x_29, .int .i64 x_38, .slice x_4_a5 x_4_l5 x_4_c5])] w45 fun e_17 w46 =>
                e_17 = .returned (.tuple #[]) ∧
                (∃ x35 : Option Addr, w46.cell? ⟨b2, 0, none⟩ = some (.pointer x35) ∧
                (kNil x35 fun x36 =>
                (∃ x_010 x_115 x_210 x_39 x_44 x_56 x_66 x_74 x_84 x_94 x_104 x_116 : Int, ∃ x_124 : Bool, ∃ x_13_a4 : Option Addr, ∃ x_13_l4 x_13_c4 : Nat, cellsAt w46 x36 0 [(.int .i64 x_010), (.int .i64 x_115), (.int .i64 x_210), (.int .i64 x_39), (.int .i64 x_44), (.int .i64 x_56), (.int .i64 x_66), (.int .i64 x_74), (.int .i64 x_84), (.int .i64 x_94), (.int .i64 x_104), (.int .i64 x_116), (.bool x_124), (.slice x_13_a4 x_13_l4 x_13_c4)] ∧
                (sxStore w46 ⟨b1, 0, none⟩ 0 [(.int .i64 x_010), (.int .i64 x_115), (.int .i64 x_210), (.int .i64 x_39), (.int .i64 x_44), (.int .i64 x_56), (.int .i64 x_66), (.int .i64 x_74), (.int .i64 x_84), (.int .i64 x_94), (.int .i64 x_104), (.int .i64 x_116), (.bool x_124), (.slice x_13_a4 x_13_l4 x_13_c4)] fun w47 =>
                (∃ r_05 r_17 r_25 r_35 r_44 r_54 r_64 r_74 r_84 r_94 r_104 r_114 : Int, ∃ r_124 : Bool, ∃ r_13_a4 : Option Addr, ∃ r_13_l4 r_13_c4 : Nat, cellsAt w47 ⟨b1, 0, none⟩ 0 [(.int .i64 r_05), (.int .i64 r_17), (.int .i64 r_25), (.int .i64 r_35), (.int .i64 r_44), (.int .i64 r_54), (.int .i64 r_64), (.int .i64 r_74), (.int .i64 r_84), (.int .i64 r_94), (.int .i64 r_104), (.int .i64 r_114), (.bool r_124), (.slice r_13_a4 r_13_l4 r_13_c4)] ∧
                R (.tuple #[(.agg #[.int .i64 r_05, .int .i64 r_17, .int .i64 r_25, .int .i64 r_35, .int .i64 r_44, .int .i64 r_54, .int .i64 r_64, .int .i64 r_74, .int .i64 r_84, .int .i64 r_94, .int .i64 r_104, .int .i64 r_114, .bool r_124, .slice r_13_a4 r_13_l4 r_13_c4]), (.slice out_a out_l out_c), (.int .i64 (0 : Int))]) w47))))))))))))) ∧
              (∃ x_08 : Int, ∃ x_110 : Bool, ∃ x_28 : Int, ∃ x_3_a : Option Addr, ∃ x_3_l x_3_c : Nat, ∃ x_4_a4 : Option Addr, ∃ x_4_l4 x_4_c4 : Nat, cellsAt w40 (b8.add (r6.toNat * 5)) 0 [(.int .i64 x_08), (.bool x_110), (.int .i64 x_28), (.slice x_3_a x_3_l x_3_c), (.slice x_4_a4 x_4_l4 x_4_c4)] ∧
              (Calls Try.prog N_receiver_complete #[(.agg #[.int .i64 x_08, .bool x_110, .int .i64 x_28, .slice x_3_a x_3_l x_3_c, .slice x_4_a4 x_4_l4 x_4_c4])] w40 fun e_14 w41 =>
              ∃ r12 : Bool, e_14 = .returned (.bool r12) ∧
              (bsplit r12
                ((kLdS w41 ((b8.add (r6.toNat * 5)).add 3) fun x_a4 x_l4 x_c4 =>
                (kLd w41 p .i64 fun x31 =>
                (sxStore w41 (b8.add (r6.toNat * 5)) 0 [(.int .i64 x31), (.bool true), (.int .i64 (0 : Int)), (.slice none 0 0), (.slice none 0 0)] fun w42 =>
                J3 x_a4 x_l4 x_c4 w42))))
                (J3 none 0 0 w41)))))))))))) ∧
            (kDrew w32 fun w33 =>
            (∃ S3 : Nat → Prop,
            (∃ x19 : Option Addr, w33.cell? ⟨b2, 0, none⟩ = some (.pointer x19) ∧
            (kLd w33 p .i64 fun x20 =>
            (S3 b2 ∧
            (∃ x21 : Option Addr, w33.cell? ⟨b2, 0, none⟩ = some (.pointer x21) ∧
            (S3 b2 ∧
            (∃ x22 : Option Addr, w33.cell? ⟨b2, 0, none⟩ = some (.pointer x22) ∧
            (kNil x22 fun x23 =>
            (S3 (x23.add 7).block ∧
            (kLd w33 (x23.add 7) .i64 fun x24 =>
            (Calls Try.prog N_receiver_side_place #[(.pointer x19), (.int .i64 x20)] w33 fun e_10 w34 =>
            ∃ r9 : Int, e_10 = .returned (.int .i64 r9) ∧
            (KeepsB S3 w33 w34 ∧ (Calls Try.prog N_receiver_side_place #[(.pointer x21), (.int .i64 x24)] w34 fun e_11 w35 =>
            ∃ r10 : Int, e_11 = .returned (.int .i64 r10) ∧
            (KeepsB S3 w33 w35 ∧ (bsplit (decide (r9 ≥ r10))
              ((kDrew w35 fun w36 =>
              (∃ S4 : Nat → Prop,
              (S4 b2 ∧
              (∃ x25 : Option Addr, w36.cell? ⟨b2, 0, none⟩ = some (.pointer x25) ∧
              (∃ x26 : Option Addr, w36.cell? ⟨b2, 0, none⟩ = some (.pointer x26) ∧
              (kLd w36 p .i64 fun x27 =>
              (Calls Try.prog N_receiver_side_behind #[(.pointer x26), (.int .i64 x27)] w36 fun e_12 w37 =>
              ∃ r11 : Int, e_12 = .returned (.int .i64 r11) ∧
              (KeepsB S4 w36 w37 ∧ (kNil x25 fun x28 =>
              (kSet w37 (x28.add 7) (.int .i64 r11) fun w38 =>
              J2 w38)))))))))))
              (J2 w35))))))))))))))))))) ∧
          (bsplit (!r7)
            ((kDrew w25 fun w28 =>
            (∃ S2 : Nat → Prop,
            (S2 b2 ∧
            (∃ x14 : Option Addr, w28.cell? ⟨b2, 0, none⟩ = some (.pointer x14) ∧
            (S2 b2 ∧
            (∃ x15 : Option Addr, w28.cell? ⟨b2, 0, none⟩ = some (.pointer x15) ∧
            (kNil x15 fun x16 =>
            (S2 (x16.add 13).block ∧
            (kLdS w28 (x16.add 13) fun x_a2 x_l2 x_c2 =>
            (kLd w28 p .i64 fun x17 =>
            (KeepsB S2 w28 w28 ∧ (kAlloc w28 #[(.int .i64 x17), (.bool false), (.int .i64 (-1 : Int)), (.slice none 0 0), (.slice none 0 0)] Ty_api_Partial fun b7 w29 =>
            (KeepsB S2 w28 w29 ∧ (Calls Try.prog N_slices_Insert_Sapi_Partial_api_Partial #[(.slice x_a2 x_l2 x_c2), (.int .i64 r6), (.slice (some ⟨b7, 0, none⟩) 1 1)] w29 fun e_9 w30 =>
            ∃ r_a : Option Addr, ∃ r_l r_c : Nat, e_9 = .returned (.slice r_a r_l r_c) ∧
            (KeepsB S2 w28 w30 ∧ (kNil x14 fun x18 =>
            (kSet w30 (x18.add 13) (.slice r_a r_l r_c) fun w31 =>
            J1 w31))))))))))))))))))
            (J1 w25)))))))))))))))))))))) ∧
      (kDrew w10 fun w12 =>
      (∃ S : Nat → Prop,
      (S b3 ∧
      (∃ x_03 x_15 x_23 x_33 : Int, ∃ x_4_a : Option Addr, ∃ x_4_l x_4_c : Nat, cellsAt w12 ⟨b3, 0, none⟩ 0 [(.int .i64 x_03), (.int .i64 x_15), (.int .i64 x_23), (.int .i64 x_33), (.slice x_4_a x_4_l x_4_c)] ∧
      (S b3 ∧
      (kLd w12 ⟨b3, 3, none⟩ .i64 fun x3 =>
      (S b3 ∧
      (kLdS w12 ⟨b3, 4, none⟩ fun _ x_l _ =>
      (kW .i64 (x3 + (x_l : Int)) fun x4 =>
      (S b3 ∧
      (kLd w12 ⟨b3, 1, none⟩ .i64 fun x5 =>
      ((Calls Try.prog N_segment_Ends #[(.int .i64 x5)] w12 fun e_4 w16 =>
      ∃ r4 : Bool, e_4 = .returned (.bool r4) ∧
      (KeepsB S w12 w16 ∧ ((KeepsB S w12 w16 ∧ (kAlloc w16 #[.int .i64 (0 : Int), .int .i64 (0 : Int), .int .i64 (0 : Int), .int .i64 (0 : Int), .slice none 0 0, .int .i64 (0 : Int), .bool false] Ty_receiver_piece fun b6 w19 =>
      (KeepsB S w12 w19 ∧ (sxStore w19 ⟨b6, 0, none⟩ 0 [(.int .i64 x_03), (.int .i64 x_15), (.int .i64 x_23), (.int .i64 x_33), (.slice x_4_a x_4_l x_4_c), (.int .i64 x4), (.bool r4)] fun w20 =>
      J ⟨b6, 0, none⟩ w20)))) ∧
      ((kAlloc w16 #[.int .i64 (0 : Int), .int .i64 (0 : Int), .int .i64 (0 : Int), .int .i64 (0 : Int), .slice none 0 0, .int .i64 (0 : Int), .bool false] Ty_receiver_piece fun b5 w17 =>
      (KeepsB S w12 w17 ∧ (KeepsB S w12 w17 ∧ (sxStore w17 ⟨b5, 0, none⟩ 0 [(.int .i64 x_03), (.int .i64 x_15), (.int .i64 x_23), (.int .i64 x_33), (.slice x_4_a x_4_l x_4_c), (.int .i64 x4), (.bool r4)] fun w18 =>
      J ⟨b5, 0, none⟩ w18)))) ∧
      True)))) ∧
      ((kAlloc w12 #[.int .i64 (0 : Int), .int .i64 (0 : Int), .int .i64 (0 : Int), .int .i64 (0 : Int), .slice none 0 0, .int .i64 (0 : Int), .bool false] Ty_receiver_piece fun b4 w13 =>
      (KeepsB S w12 w13 ∧ (Calls Try.prog N_segment_Ends #[(.int .i64 x5)] w13 fun e_3 w14 =>
      ∃ r3 : Bool, e_3 = .returned (.bool r3) ∧
      (KeepsB S w12 w14 ∧ (KeepsB S w12 w14 ∧ (sxStore w14 ⟨b4, 0, none⟩ 0 [(.int .i64 x_03), (.int .i64 x_15), (.int .i64 x_23), (.int .i64 x_33), (.slice x_4_a x_4_l x_4_c), (.int .i64 x4), (.bool r3)] fun w15 =>
      J ⟨b4, 0, none⟩ w15)))))) ∧
      True))))))))))))))))))))))))))))))
theorem F_receiver_Receive_eq (r_0 : Int) (r_1 : Int) (r_2 : Int) (r_3 : Int) (r_4 : Int) (r_5 : Int) (r_6 : Int) (r_7 : Int) (r_8 : Int) (r_9 : Int) (r_10 : Int) (r_11 : Int) (r_12 : Bool) (r_13_a : Option Addr) (r_13_l : Nat) (r_13_c : Nat) (b_a : Option Addr) (b_l : Nat) (b_c : Nat) (w : World) (R : Value → World → Prop) : sxFn Try.prog TT h_receiver_Receive Try.f37 #[(.agg #[.int .i64 r_0, .int .i64 r_1, .int .i64 r_2, .int .i64 r_3, .int .i64 r_4, .int .i64 r_5, .int .i64 r_6, .int .i64 r_7, .int .i64 r_8, .int .i64 r_9, .int .i64 r_10, .int .i64 r_11, .bool r_12, .slice r_13_a r_13_l r_13_c]), (.slice b_a b_l b_c)] w R = F_receiver_Receive r_0 r_1 r_2 r_3 r_4 r_5 r_6 r_7 r_8 r_9 r_10 r_11 r_12 r_13_a r_13_l r_13_c b_a b_l b_c w R := by kernel_rfl
theorem F_receiver_Receive_ok {R : Ending → World → Prop} (r_0 : Int) (r_1 : Int) (r_2 : Int) (r_3 : Int) (r_4 : Int) (r_5 : Int) (r_6 : Int) (r_7 : Int) (r_8 : Int) (r_9 : Int) (r_10 : Int) (r_11 : Int) (r_12 : Bool) (r_13_a : Option Addr) (r_13_l : Nat) (r_13_c : Nat) (b_a : Option Addr) (b_l : Nat) (b_c : Nat) (w : World) (h : F_receiver_Receive r_0 r_1 r_2 r_3 r_4 r_5 r_6 r_7 r_8 r_9 r_10 r_11 r_12 r_13_a r_13_l r_13_c b_a b_l b_c w fun v w' => R (.returned v) w') : Calls Try.prog N_receiver_Receive #[(.agg #[.int .i64 r_0, .int .i64 r_1, .int .i64 r_2, .int .i64 r_3, .int .i64 r_4, .int .i64 r_5, .int .i64 r_6, .int .i64 r_7, .int .i64 r_8, .int .i64 r_9, .int .i64 r_10, .int .i64 r_11, .bool r_12, .slice r_13_a r_13_l r_13_c]), (.slice b_a b_l b_c)] w R :=
  calls_of (f := 37) follows_ok Try.func37 (Eq.mpr (F_receiver_Receive_eq r_0 r_1 r_2 r_3 r_4 r_5 r_6 r_7 r_8 r_9 r_10 r_11 r_12 r_13_a r_13_l r_13_c b_a b_l b_c w _) h)

end Go.Proofs.Ytlgolgpellbnbaa
