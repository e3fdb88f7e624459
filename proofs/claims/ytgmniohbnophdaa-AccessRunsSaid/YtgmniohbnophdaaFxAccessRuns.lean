import Derived.Test.YtgmniohbnophdaaBase
import Derived.KernelRfl
namespace Go.Proofs.Ytgmniohbnophdaa
open Go.Sx Go.RowKit
set_option maxRecDepth 100000

def h_law38_AccessRuns : H := (.seq .reg (.seq (.seq .reg (.cond (.seq .reg .leaf) .leaf)) (.seq .reg (.seq .reg (.seq (.seq .reg (.block (.loop [(5, .p (.int .i64))] [2, 5, 6, 22, 23, 24, 25, 26, 27, 28, 29, 30, 31, 32, 33, 34, 35, 36, 37, 38, 39, 40, 41, 42, 43, 44, 45, 46, 47, 48, 49, 50, 51, 52, 53, 54, 55, 56, 57, 58, 59, 60, 61, 62, 63, 64] (.cut [] [22, 23, 24, 25, 26, 27, 28] (.seq .reg (.cond .leaf .leaf)) (.seq (.block (.seq .reg (.seq (.seq .reg (.cond (.seq .reg .leaf) .leaf)) (.cut [] [38, 39, 40, 41, 42, 43, 44, 45, 46, 47, 48, 49, 50, 51, 52, 53] (.seq .reg (.cond .reg .reg)) (.seq .reg (.cond .reg .leaf)))))) .reg))))) (.seq .reg .leaf))))))
def F_law38_AccessRuns (l_a : Option Addr) (l_l : Nat) (l_c : Nat) (w : World) (R : Value → World → Prop) : Prop :=
  (Calls Try.prog N_roll_Light #[(.slice l_a l_l l_c)] w fun e_ w1 =>
  ∃ r : Bool, e_ = .returned (.bool r) ∧
  (bsplit (!r)
    ((Calls Try.prog N_law38_awake #[] w1 fun e_1 w2 =>
    ∃ r1 : Bool, e_1 = .returned (.bool r1) ∧
    R (.bool r1) w2))
    ((Calls Try.prog N_roll_Roll #[(.slice l_a l_l l_c)] w1 fun e_2 w3 =>
    ∃ r2 : Option Addr, e_2 = .returned (.pointer r2) ∧
    (Calls Try.prog N_roll_Dice_Next #[(.pointer r2), (.int .i64 (4 : Int))] w3 fun e_3 w4 =>
    ∃ r3 : Int, e_3 = .returned (.int .i64 r3) ∧
    (kW .i64 ((1 : Int) + r3) fun x =>
    (Calls Try.prog N_roll_Dice_Next #[(.pointer r2), (.int .i64 (4 : Int))] w4 fun e_4 w5 =>
    ∃ r4 : Int, e_4 = .returned (.int .i64 r4) ∧
    (kW .i64 ((1 : Int) + r4) fun x1 =>
    (Calls Try.prog N_roll_Dice_Next #[(.pointer r2), (.int .i64 (6 : Int))] w5 fun e_5 w6 =>
    ∃ r5 : Int, e_5 = .returned (.int .i64 r5) ∧
    (kAlloc w6 #[.int .i64 (0 : Int), .int .i64 (0 : Int), .int .i64 (0 : Int), .slice none 0 0] Ty_api_Access fun b w7 =>
    (sxStore w7 ⟨b, 0, none⟩ 0 [(.int .i64 x), (.int .i64 x1), (.int .i64 r5), (.slice none 0 0)] fun w8 =>
    (∃ I : Int → Nat × (World → Prop), (I (0 : Int)).2 w8 ∧
    (∀ (_junk : Env) (t : Int) (w9 : World), (I t).2 w9 →
      (∃ J : World → Prop,
      (∀ (_junk : Env)  (w13 : World), J w13 →
        (Calls Try.prog N_roll_Dice_Next #[(.pointer r2), (.int .i64 (30 : Int))] w13 fun e_9 w14 =>
        ∃ r9 : Int, e_9 = .returned (.int .i64 r9) ∧
        (∃ x_0 x_1 x_2 : Int, ∃ x_3_a : Option Addr, ∃ x_3_l x_3_c : Nat, cellsAt w14 ⟨b, 0, none⟩ 0 [(.int .i64 x_0), (.int .i64 x_1), (.int .i64 x_2), (.slice x_3_a x_3_l x_3_c)] ∧
        (Calls Try.prog N_law38_agree #[(.agg #[.int .i64 x_0, .int .i64 x_1, .int .i64 x_2, .slice x_3_a x_3_l x_3_c]), (.int .i64 r9), (.int .i64 t)] w14 fun e_10 w15 =>
        ∃ r10 : Bool, e_10 = .returned (.bool r10) ∧
        (bsplit (!r10)
          (R (.bool false) w15)
          ((∃ J1 : World → Prop,
          (∀ (_junk : Env)  (w21 : World), J1 w21 →
            (Calls Try.prog N_roll_Dice_Next #[(.pointer r2), (.int .i64 (3 : Int))] w21 fun e_14 w22 =>
            ∃ r14 : Int, e_14 = .returned (.int .i64 r14) ∧
            (bsplit (decide (r14 > (0 : Int)))
              ((∃ x_03 x_13 x_23 : Int, ∃ x_3_a3 : Option Addr, ∃ x_3_l3 x_3_c3 : Nat, cellsAt w22 ⟨b, 0, none⟩ 0 [(.int .i64 x_03), (.int .i64 x_13), (.int .i64 x_23), (.slice x_3_a3 x_3_l3 x_3_c3)] ∧
              (Calls Try.prog N_ref38_Tick #[(.agg #[.int .i64 x_03, .int .i64 x_13, .int .i64 x_23, .slice x_3_a3 x_3_l3 x_3_c3]), (.int .i64 t)] w22 fun e_15 w23 =>
              ∃ r_02 r_12 r_22 : Int, ∃ r_3_a2 : Option Addr, ∃ r_3_l2 r_3_c2 : Nat, ∃ r_a : Option Addr, ∃ r_l r_c : Nat, ∃ r_a1 : Option Addr, ∃ r_l1 r_c1 : Nat, ∃ r15 : Int, e_15 = .returned (.tuple #[(.agg #[.int .i64 r_02, .int .i64 r_12, .int .i64 r_22, .slice r_3_a2 r_3_l2 r_3_c2]), (.slice r_a r_l r_c), (.slice r_a1 r_l1 r_c1), (.int .i64 r15)]) ∧
              (sxStore w23 ⟨b, 0, none⟩ 0 [(.int .i64 r_02), (.int .i64 r_12), (.int .i64 r_22), (.slice r_3_a2 r_3_l2 r_3_c2)] fun w24 =>
              (kW .i64 (t + (1 : Int)) fun x2 =>
              ((I x2).2 w24 ∧ (I x2).1 < (I t).1))))))
              ((kW .i64 (t + (1 : Int)) fun x3 =>
              ((I x3).2 w22 ∧ (I x3).1 < (I t).1)))))) ∧
          (Calls Try.prog N_roll_Dice_Next #[(.pointer r2), (.int .i64 (6 : Int))] w15 fun e_11 w16 =>
          ∃ r11 : Int, e_11 = .returned (.int .i64 r11) ∧
          (bsplit (decide (r11 = (5 : Int)))
            ((∃ x_01 x_11 x_21 : Int, ∃ x_3_a1 : Option Addr, ∃ x_3_l1 x_3_c1 : Nat, cellsAt w16 ⟨b, 0, none⟩ 0 [(.int .i64 x_01), (.int .i64 x_11), (.int .i64 x_21), (.slice x_3_a1 x_3_l1 x_3_c1)] ∧
            (Calls Try.prog N_ref38_Stop #[(.agg #[.int .i64 x_01, .int .i64 x_11, .int .i64 x_21, .slice x_3_a1 x_3_l1 x_3_c1]), (.int .i64 r9)] w16 fun e_12 w17 =>
            ∃ r_0 r_1 r_2 : Int, ∃ r_3_a : Option Addr, ∃ r_3_l r_3_c : Nat, ∃ r12 : Bool, e_12 = .returned (.tuple #[(.agg #[.int .i64 r_0, .int .i64 r_1, .int .i64 r_2, .slice r_3_a r_3_l r_3_c]), (.bool r12)]) ∧
            (sxStore w17 ⟨b, 0, none⟩ 0 [(.int .i64 r_0), (.int .i64 r_1), (.int .i64 r_2), (.slice r_3_a r_3_l r_3_c)] fun w18 =>
            J1 w18))))
            ((∃ x_02 x_12 x_22 : Int, ∃ x_3_a2 : Option Addr, ∃ x_3_l2 x_3_c2 : Nat, cellsAt w16 ⟨b, 0, none⟩ 0 [(.int .i64 x_02), (.int .i64 x_12), (.int .i64 x_22), (.slice x_3_a2 x_3_l2 x_3_c2)] ∧
            (Calls Try.prog N_ref38_Begin #[(.agg #[.int .i64 x_02, .int .i64 x_12, .int .i64 x_22, .slice x_3_a2 x_3_l2 x_3_c2]), (.int .i64 r9), (.int .i64 t)] w16 fun e_13 w19 =>
            ∃ r_01 r_11 r_21 : Int, ∃ r_3_a1 : Option Addr, ∃ r_3_l1 r_3_c1 : Nat, ∃ r13 : Int, e_13 = .returned (.tuple #[(.agg #[.int .i64 r_01, .int .i64 r_11, .int .i64 r_21, .slice r_3_a1 r_3_l1 r_3_c1]), (.int .i64 r13)]) ∧
            (sxStore w19 ⟨b, 0, none⟩ 0 [(.int .i64 r_01), (.int .i64 r_11), (.int .i64 r_21), (.slice r_3_a1 r_3_l1 r_3_c1)] fun w20 =>
            J1 w20))))))))))))) ∧
      (bsplit (decide (t < (60 : Int)))
        ((Calls Try.prog N_roll_Dice_Rest #[(.pointer r2)] w9 fun e_6 w10 =>
        ∃ r6 : Int, e_6 = .returned (.int .i64 r6) ∧
        (bsplit (decide (r6 > (0 : Int)))
          (J w10)
          ((Calls Try.prog N_law38_awake #[] w10 fun e_7 w11 =>
          ∃ r7 : Bool, e_7 = .returned (.bool r7) ∧
          R (.bool r7) w11)))))
        ((Calls Try.prog N_law38_awake #[] w9 fun e_8 w12 =>
          ∃ r8 : Bool, e_8 = .returned (.bool r8) ∧
          R (.bool r8) w12)))))))))))))))))
theorem F_law38_AccessRuns_eq (l_a : Option Addr) (l_l : Nat) (l_c : Nat) (w : World) (R : Value → World → Prop) : sxFn Try.prog TT h_law38_AccessRuns Try.f7 #[(.slice l_a l_l l_c)] w R = F_law38_AccessRuns l_a l_l l_c w R := by kernel_rfl
theorem F_law38_AccessRuns_ok {R : Ending → World → Prop} (l_a : Option Addr) (l_l : Nat) (l_c : Nat) (w : World) (h : F_law38_AccessRuns l_a l_l l_c w fun v w' => R (.returned v) w') : Calls Try.prog N_law38_AccessRuns #[(.slice l_a l_l l_c)] w R :=
  calls_of (f := 7) follows_ok Try.func7 (Eq.mpr (F_law38_AccessRuns_eq l_a l_l l_c w _) h)

end Go.Proofs.Ytgmniohbnophdaa
