import Derived.Test.YthceaojjeokclaaGreatBase
import Derived.KernelRfl
namespace Go.Proofs.YthceaojjeokclaaGreat
open Go.Sx Go.RowKit
set_option maxRecDepth 100000

def h_law21_ReceiverExact : H := (.seq .reg (.cut [] [6, 11, 12, 13, 14, 15, 16, 17, 18, 19, 20] (.seq .reg (.cond (.seq .reg .leaf) .leaf)) (.seq .reg (.seq .reg (.seq .reg .leaf)))))
def F_law21_ReceiverExact (r_0 : Int) (r_1 : Int) (r_2 : Int) (r_3 : Int) (r_4 : Int) (r_5 : Int) (r_6 : Int) (r_7 : Int) (r_8 : Int) (r_9 : Int) (r_10 : Int) (r_11 : Int) (r_12 : Bool) (r_13_a : Option Addr) (r_13_l : Nat) (r_13_c : Nat) (b_a : Option Addr) (b_l : Nat) (b_c : Nat) (size : Int) (w : World) (R : Value → World → Prop) : Prop :=
  (kAlloc w #[(.int .i64 r_0), (.int .i64 r_1), (.int .i64 r_2), (.int .i64 r_3), (.int .i64 r_4), (.int .i64 r_5), (.int .i64 r_6), (.int .i64 r_7), (.int .i64 r_8), (.int .i64 r_9), (.int .i64 r_10), (.int .i64 r_11), (.bool r_12), (.slice r_13_a r_13_l r_13_c)] Ty_api_Receiver fun b w1 =>
  (∃ J : World → Prop,
  (∀ (_junk : Env)  (w4 : World), J w4 →
    (∃ x_0 x_1 x_2 x_3 x_4 x_5 : Int, cellsAt w4 ⟨b, 0, none⟩ 0 [(.int .i64 x_0), (.int .i64 x_1), (.int .i64 x_2), (.int .i64 x_3), (.int .i64 x_4), (.int .i64 x_5)] ∧
    (Calls Tryz.prog N_receiver_New #[(.agg #[.int .i64 x_0, .int .i64 x_1, .int .i64 x_2, .int .i64 x_3, .int .i64 x_4, .int .i64 x_5])] w4 fun e_2 w5 =>
    ∃ r_01 r_13 r_21 r_31 r_41 r_51 r_61 r_71 r_81 r_91 r_101 r_111 : Int, ∃ r_121 : Bool, ∃ r_13_a1 : Option Addr, ∃ r_13_l1 r_13_c1 : Nat, ∃ r2 : Int, e_2 = .returned (.tuple #[(.agg #[.int .i64 r_01, .int .i64 r_13, .int .i64 r_21, .int .i64 r_31, .int .i64 r_41, .int .i64 r_51, .int .i64 r_61, .int .i64 r_71, .int .i64 r_81, .int .i64 r_91, .int .i64 r_101, .int .i64 r_111, .bool r_121, .slice r_13_a1 r_13_l1 r_13_c1]), (.int .i64 r2)]) ∧
    (kAlloc w5 #[.int .i64 (0 : Int), .int .i64 (0 : Int), .int .i64 (0 : Int), .int .i64 (0 : Int), .int .i64 (0 : Int), .int .i64 (0 : Int), .int .i64 (0 : Int), .int .i64 (0 : Int), .int .i64 (0 : Int), .int .i64 (0 : Int), .int .i64 (0 : Int), .int .i64 (0 : Int), .bool false, .slice none 0 0] Ty_api_Receiver fun b1 w6 =>
    (sxStore w6 ⟨b1, 0, none⟩ 0 [(.int .i64 r_01), (.int .i64 r_13), (.int .i64 r_21), (.int .i64 r_31), (.int .i64 r_41), (.int .i64 r_51), (.int .i64 r_61), (.int .i64 r_71), (.int .i64 r_81), (.int .i64 r_91), (.int .i64 r_101), (.int .i64 r_111), (.bool r_121), (.slice r_13_a1 r_13_l1 r_13_c1)] fun w7 =>
    (∃ x_01 x_11 x_21 x_31 x_41 x_51 : Int, cellsAt w7 ⟨b, 0, none⟩ 0 [(.int .i64 x_01), (.int .i64 x_11), (.int .i64 x_21), (.int .i64 x_31), (.int .i64 x_41), (.int .i64 x_51)] ∧
    (Calls Tryz.prog N_ref21_New #[(.agg #[.int .i64 x_01, .int .i64 x_11, .int .i64 x_21, .int .i64 x_31, .int .i64 x_41, .int .i64 x_51])] w7 fun e_3 w8 =>
    ∃ r_02 r_14 r_22 r_32 r_42 r_52 r_62 r_72 r_82 r_92 r_102 r_112 : Int, ∃ r_122 : Bool, ∃ r_13_a2 : Option Addr, ∃ r_13_l2 r_13_c2 : Nat, ∃ r3 : Int, e_3 = .returned (.tuple #[(.agg #[.int .i64 r_02, .int .i64 r_14, .int .i64 r_22, .int .i64 r_32, .int .i64 r_42, .int .i64 r_52, .int .i64 r_62, .int .i64 r_72, .int .i64 r_82, .int .i64 r_92, .int .i64 r_102, .int .i64 r_112, .bool r_122, .slice r_13_a2 r_13_l2 r_13_c2]), (.int .i64 r3)]) ∧
    (kAlloc w8 #[.int .i64 (0 : Int), .int .i64 (0 : Int), .int .i64 (0 : Int), .int .i64 (0 : Int), .int .i64 (0 : Int), .int .i64 (0 : Int), .int .i64 (0 : Int), .int .i64 (0 : Int), .int .i64 (0 : Int), .int .i64 (0 : Int), .int .i64 (0 : Int), .int .i64 (0 : Int), .bool false, .slice none 0 0] Ty_api_Receiver fun b2 w9 =>
    (sxStore w9 ⟨b2, 0, none⟩ 0 [(.int .i64 r_02), (.int .i64 r_14), (.int .i64 r_22), (.int .i64 r_32), (.int .i64 r_42), (.int .i64 r_52), (.int .i64 r_62), (.int .i64 r_72), (.int .i64 r_82), (.int .i64 r_92), (.int .i64 r_102), (.int .i64 r_112), (.bool r_122), (.slice r_13_a2 r_13_l2 r_13_c2)] fun w10 =>
    (Calls Tryz.prog N_law21_awake #[] w10 fun e_4 w11 =>
    ∃ r4 : Bool, e_4 = .returned (.bool r4) ∧
    (bsplit r4
      ((bsplit (decide (r2 = r3))
        ((∃ x_02 x_12 x_22 x_32 x_42 x_52 x_6 x_7 x_8 x_9 x_10 x_111 : Int, ∃ x_121 : Bool, ∃ x_13_a : Option Addr, ∃ x_13_l x_13_c : Nat, cellsAt w11 ⟨b1, 0, none⟩ 0 [(.int .i64 x_02), (.int .i64 x_12), (.int .i64 x_22), (.int .i64 x_32), (.int .i64 x_42), (.int .i64 x_52), (.int .i64 x_6), (.int .i64 x_7), (.int .i64 x_8), (.int .i64 x_9), (.int .i64 x_10), (.int .i64 x_111), (.bool x_121), (.slice x_13_a x_13_l x_13_c)] ∧
        (∃ x_03 x_13 x_23 x_33 x_43 x_53 x_61 x_71 x_81 x_91 x_101 x_112 : Int, ∃ x_122 : Bool, ∃ x_13_a1 : Option Addr, ∃ x_13_l1 x_13_c1 : Nat, cellsAt w11 ⟨b2, 0, none⟩ 0 [(.int .i64 x_03), (.int .i64 x_13), (.int .i64 x_23), (.int .i64 x_33), (.int .i64 x_43), (.int .i64 x_53), (.int .i64 x_61), (.int .i64 x_71), (.int .i64 x_81), (.int .i64 x_91), (.int .i64 x_101), (.int .i64 x_112), (.bool x_122), (.slice x_13_a1 x_13_l1 x_13_c1)] ∧
        (Calls Tryz.prog N_ref21_Same #[(.agg #[.int .i64 x_02, .int .i64 x_12, .int .i64 x_22, .int .i64 x_32, .int .i64 x_42, .int .i64 x_52, .int .i64 x_6, .int .i64 x_7, .int .i64 x_8, .int .i64 x_9, .int .i64 x_10, .int .i64 x_111, .bool x_121, .slice x_13_a x_13_l x_13_c]), (.agg #[.int .i64 x_03, .int .i64 x_13, .int .i64 x_23, .int .i64 x_33, .int .i64 x_43, .int .i64 x_53, .int .i64 x_61, .int .i64 x_71, .int .i64 x_81, .int .i64 x_91, .int .i64 x_101, .int .i64 x_112, .bool x_122, .slice x_13_a1 x_13_l1 x_13_c1])] w11 fun e_5 w12 =>
        ∃ r5 : Bool, e_5 = .returned (.bool r5) ∧
        (bsplit r5
          ((∃ x_04 x_14 x_24 x_34 x_44 x_54 x_62 x_72 x_82 x_92 x_102 x_113 : Int, ∃ x_123 : Bool, ∃ x_13_a2 : Option Addr, ∃ x_13_l2 x_13_c2 : Nat, cellsAt w12 ⟨b, 0, none⟩ 0 [(.int .i64 x_04), (.int .i64 x_14), (.int .i64 x_24), (.int .i64 x_34), (.int .i64 x_44), (.int .i64 x_54), (.int .i64 x_62), (.int .i64 x_72), (.int .i64 x_82), (.int .i64 x_92), (.int .i64 x_102), (.int .i64 x_113), (.bool x_123), (.slice x_13_a2 x_13_l2 x_13_c2)] ∧
          (Calls Tryz.prog N_law21_agree #[(.agg #[.int .i64 x_04, .int .i64 x_14, .int .i64 x_24, .int .i64 x_34, .int .i64 x_44, .int .i64 x_54, .int .i64 x_62, .int .i64 x_72, .int .i64 x_82, .int .i64 x_92, .int .i64 x_102, .int .i64 x_113, .bool x_123, .slice x_13_a2 x_13_l2 x_13_c2]), (.slice b_a b_l b_c), (.int .i64 size)] w12 fun e_6 w13 =>
          ∃ r6 : Bool, e_6 = .returned (.bool r6) ∧
          R (.bool r6) w13)))
          (R (.bool false) w12))))))
        (R (.bool false) w11)))
      (R (.bool false) w11)))))))))))) ∧
  (kLdS w1 ⟨b, 13, none⟩ fun _ x_l _ =>
  (bsplit (decide ((x_l : Int) > (300 : Int)))
    ((Calls Tryz.prog N_law21_awake #[] w1 fun e_ w2 =>
      ∃ r : Bool, e_ = .returned (.bool r) ∧
      R (.bool r) w2))
    ((bsplit (decide ((b_l : Int) > (3000 : Int)))
      ((Calls Tryz.prog N_law21_awake #[] w1 fun e_1 w3 =>
      ∃ r1 : Bool, e_1 = .returned (.bool r1) ∧
      R (.bool r1) w3))
      (J w1)))))))
theorem F_law21_ReceiverExact_eq (r_0 : Int) (r_1 : Int) (r_2 : Int) (r_3 : Int) (r_4 : Int) (r_5 : Int) (r_6 : Int) (r_7 : Int) (r_8 : Int) (r_9 : Int) (r_10 : Int) (r_11 : Int) (r_12 : Bool) (r_13_a : Option Addr) (r_13_l : Nat) (r_13_c : Nat) (b_a : Option Addr) (b_l : Nat) (b_c : Nat) (size : Int) (w : World) (R : Value → World → Prop) : sxFn Tryz.prog TT h_law21_ReceiverExact Tryz.f3 #[(.agg #[.int .i64 r_0, .int .i64 r_1, .int .i64 r_2, .int .i64 r_3, .int .i64 r_4, .int .i64 r_5, .int .i64 r_6, .int .i64 r_7, .int .i64 r_8, .int .i64 r_9, .int .i64 r_10, .int .i64 r_11, .bool r_12, .slice r_13_a r_13_l r_13_c]), (.slice b_a b_l b_c), (.int .i64 size)] w R = F_law21_ReceiverExact r_0 r_1 r_2 r_3 r_4 r_5 r_6 r_7 r_8 r_9 r_10 r_11 r_12 r_13_a r_13_l r_13_c b_a b_l b_c size w R := by kernel_rfl
theorem F_law21_ReceiverExact_ok {R : Ending → World → Prop} (r_0 : Int) (r_1 : Int) (r_2 : Int) (r_3 : Int) (r_4 : Int) (r_5 : Int) (r_6 : Int) (r_7 : Int) (r_8 : Int) (r_9 : Int) (r_10 : Int) (r_11 : Int) (r_12 : Bool) (r_13_a : Option Addr) (r_13_l : Nat) (r_13_c : Nat) (b_a : Option Addr) (b_l : Nat) (b_c : Nat) (size : Int) (w : World) (h : F_law21_ReceiverExact r_0 r_1 r_2 r_3 r_4 r_5 r_6 r_7 r_8 r_9 r_10 r_11 r_12 r_13_a r_13_l r_13_c b_a b_l b_c size w fun v w' => R (.returned v) w') : Calls Tryz.prog N_law21_ReceiverExact #[(.agg #[.int .i64 r_0, .int .i64 r_1, .int .i64 r_2, .int .i64 r_3, .int .i64 r_4, .int .i64 r_5, .int .i64 r_6, .int .i64 r_7, .int .i64 r_8, .int .i64 r_9, .int .i64 r_10, .int .i64 r_11, .bool r_12, .slice r_13_a r_13_l r_13_c]), (.slice b_a b_l b_c), (.int .i64 size)] w R :=
  calls_of (f := 3) follows_ok Tryz.func3 (Eq.mpr (F_law21_ReceiverExact_eq r_0 r_1 r_2 r_3 r_4 r_5 r_6 r_7 r_8 r_9 r_10 r_11 r_12 r_13_a r_13_l r_13_c b_a b_l b_c size w _) h)

end Go.Proofs.YthceaojjeokclaaGreat
