import Derived.Test.YtlgolgpellbnbaaBase
import Derived.KernelRfl
namespace Go.Proofs.Ytlgolgpellbnbaa
open Go.Sx Go.RowKit
set_option maxRecDepth 100000

def h_law23_UnackRaw : H := (.seq .reg (.cut [] [10, 17, 18, 19, 20, 21, 22, 23, 24, 25] (.seq .reg (.cond (.seq .reg .leaf) .leaf)) (.seq .reg (.seq .reg (.seq .reg .leaf)))))
def F_law23_UnackRaw (c_0 : Int) (c_1 : Int) (c_2_a : Option Addr) (c_2_l : Nat) (c_2_c : Nat) (c_3 : Int) (data_a : Option Addr) (data_l : Nat) (data_c : Nat) (size : Int) (bits : Int) (wait : Int) (w : World) (R : Value → World → Prop) : Prop :=
  (kAlloc w #[(.int .i64 c_0), (.int .i64 c_1), (.slice c_2_a c_2_l c_2_c), (.int .i64 c_3)] Ty_api_Cutter fun b w1 =>
  (∃ J : World → Prop,
  (∀ (_junk : Env)  (w5 : World), J w5 →
    (Calls Try.prog N_unack_New #[(.int .i64 bits), (.int .i64 wait)] w5 fun e_3 w6 =>
    ∃ r_0 r_1 : Int, ∃ r_2_a : Option Addr, ∃ r_2_l r_2_c : Nat, ∃ r_3 r_01 r_11 r_2 r_31 r_4 r_5 r_6 r_7 r_8 r_9 r_10 r_111 : Int, ∃ r_12 : Bool, ∃ r_13_a : Option Addr, ∃ r_13_l r_13_c : Nat, ∃ r3 : Int, e_3 = .returned (.tuple #[(.agg #[.int .i64 r_0, .int .i64 r_1, .slice r_2_a r_2_l r_2_c, .int .i64 r_3]), (.agg #[.int .i64 r_01, .int .i64 r_11, .int .i64 r_2, .int .i64 r_31, .int .i64 r_4, .int .i64 r_5, .int .i64 r_6, .int .i64 r_7, .int .i64 r_8, .int .i64 r_9, .int .i64 r_10, .int .i64 r_111, .bool r_12, .slice r_13_a r_13_l r_13_c]), (.int .i64 r3)]) ∧
    (kAlloc w6 #[.int .i64 (0 : Int), .int .i64 (0 : Int), .slice none 0 0, .int .i64 (0 : Int)] Ty_api_Cutter fun b1 w7 =>
    (kAlloc w7 #[.int .i64 (0 : Int), .int .i64 (0 : Int), .int .i64 (0 : Int), .int .i64 (0 : Int), .int .i64 (0 : Int), .int .i64 (0 : Int), .int .i64 (0 : Int), .int .i64 (0 : Int), .int .i64 (0 : Int), .int .i64 (0 : Int), .int .i64 (0 : Int), .int .i64 (0 : Int), .bool false, .slice none 0 0] Ty_api_Receiver fun b2 w8 =>
    (sxStore w8 ⟨b1, 0, none⟩ 0 [(.int .i64 r_0), (.int .i64 r_1), (.slice r_2_a r_2_l r_2_c), (.int .i64 r_3)] fun w9 =>
    (sxStore w9 ⟨b2, 0, none⟩ 0 [(.int .i64 r_01), (.int .i64 r_11), (.int .i64 r_2), (.int .i64 r_31), (.int .i64 r_4), (.int .i64 r_5), (.int .i64 r_6), (.int .i64 r_7), (.int .i64 r_8), (.int .i64 r_9), (.int .i64 r_10), (.int .i64 r_111), (.bool r_12), (.slice r_13_a r_13_l r_13_c)] fun w10 =>
    (Calls Try.prog N_ref23_New #[(.int .i64 bits), (.int .i64 wait)] w10 fun e_4 w11 =>
    ∃ r_02 r_13 : Int, ∃ r_2_a1 : Option Addr, ∃ r_2_l1 r_2_c1 : Nat, ∃ r_32 r_03 r_14 r_21 r_33 r_41 r_51 r_61 r_71 r_81 r_91 r_101 r_112 : Int, ∃ r_121 : Bool, ∃ r_13_a1 : Option Addr, ∃ r_13_l1 r_13_c1 : Nat, ∃ r4 : Int, e_4 = .returned (.tuple #[(.agg #[.int .i64 r_02, .int .i64 r_13, .slice r_2_a1 r_2_l1 r_2_c1, .int .i64 r_32]), (.agg #[.int .i64 r_03, .int .i64 r_14, .int .i64 r_21, .int .i64 r_33, .int .i64 r_41, .int .i64 r_51, .int .i64 r_61, .int .i64 r_71, .int .i64 r_81, .int .i64 r_91, .int .i64 r_101, .int .i64 r_112, .bool r_121, .slice r_13_a1 r_13_l1 r_13_c1]), (.int .i64 r4)]) ∧
    (kAlloc w11 #[.int .i64 (0 : Int), .int .i64 (0 : Int), .slice none 0 0, .int .i64 (0 : Int)] Ty_api_Cutter fun b3 w12 =>
    (kAlloc w12 #[.int .i64 (0 : Int), .int .i64 (0 : Int), .int .i64 (0 : Int), .int .i64 (0 : Int), .int .i64 (0 : Int), .int .i64 (0 : Int), .int .i64 (0 : Int), .int .i64 (0 : Int), .int .i64 (0 : Int), .int .i64 (0 : Int), .int .i64 (0 : Int), .int .i64 (0 : Int), .bool false, .slice none 0 0] Ty_api_Receiver fun b4 w13 =>
    (sxStore w13 ⟨b3, 0, none⟩ 0 [(.int .i64 r_02), (.int .i64 r_13), (.slice r_2_a1 r_2_l1 r_2_c1), (.int .i64 r_32)] fun w14 =>
    (sxStore w14 ⟨b4, 0, none⟩ 0 [(.int .i64 r_03), (.int .i64 r_14), (.int .i64 r_21), (.int .i64 r_33), (.int .i64 r_41), (.int .i64 r_51), (.int .i64 r_61), (.int .i64 r_71), (.int .i64 r_81), (.int .i64 r_91), (.int .i64 r_101), (.int .i64 r_112), (.bool r_121), (.slice r_13_a1 r_13_l1 r_13_c1)] fun w15 =>
    (∃ x_01 x_11 : Int, ∃ x_2_a1 : Option Addr, ∃ x_2_l1 x_2_c1 : Nat, ∃ x_31 : Int, cellsAt w15 ⟨b, 0, none⟩ 0 [(.int .i64 x_01), (.int .i64 x_11), (.slice x_2_a1 x_2_l1 x_2_c1), (.int .i64 x_31)] ∧
    (Calls Try.prog N_law23_agree #[(.agg #[.int .i64 x_01, .int .i64 x_11, .slice x_2_a1 x_2_l1 x_2_c1, .int .i64 x_31]), (.slice data_a data_l data_c), (.int .i64 size)] w15 fun e_5 w16 =>
    ∃ r5 : Bool, e_5 = .returned (.bool r5) ∧
    (bsplit r5
      ((bsplit (decide (r3 = r4))
        ((∃ x_02 x_12 : Int, ∃ x_2_a2 : Option Addr, ∃ x_2_l2 x_2_c2 : Nat, ∃ x_32 : Int, cellsAt w16 ⟨b1, 0, none⟩ 0 [(.int .i64 x_02), (.int .i64 x_12), (.slice x_2_a2 x_2_l2 x_2_c2), (.int .i64 x_32)] ∧
        (∃ x_03 x_13 : Int, ∃ x_2_a3 : Option Addr, ∃ x_2_l3 x_2_c3 : Nat, ∃ x_33 : Int, cellsAt w16 ⟨b3, 0, none⟩ 0 [(.int .i64 x_03), (.int .i64 x_13), (.slice x_2_a3 x_2_l3 x_2_c3), (.int .i64 x_33)] ∧
        (Calls Try.prog N_law23_same #[(.agg #[.int .i64 x_02, .int .i64 x_12, .slice x_2_a2 x_2_l2 x_2_c2, .int .i64 x_32]), (.agg #[.int .i64 x_03, .int .i64 x_13, .slice x_2_a3 x_2_l3 x_2_c3, .int .i64 x_33])] w16 fun e_6 w17 =>
        ∃ r6 : Bool, e_6 = .returned (.bool r6) ∧
        (bsplit r6
          ((∃ x_04 x_14 x_2 x_34 x_4 x_5 x_6 x_7 x_8 x_9 x_10 x_111 : Int, ∃ x_121 : Bool, ∃ x_13_a : Option Addr, ∃ x_13_l x_13_c : Nat, cellsAt w17 ⟨b2, 0, none⟩ 0 [(.int .i64 x_04), (.int .i64 x_14), (.int .i64 x_2), (.int .i64 x_34), (.int .i64 x_4), (.int .i64 x_5), (.int .i64 x_6), (.int .i64 x_7), (.int .i64 x_8), (.int .i64 x_9), (.int .i64 x_10), (.int .i64 x_111), (.bool x_121), (.slice x_13_a x_13_l x_13_c)] ∧
          (∃ x_05 x_15 x_21 x_35 x_41 x_51 x_61 x_71 x_81 x_91 x_101 x_112 : Int, ∃ x_122 : Bool, ∃ x_13_a1 : Option Addr, ∃ x_13_l1 x_13_c1 : Nat, cellsAt w17 ⟨b4, 0, none⟩ 0 [(.int .i64 x_05), (.int .i64 x_15), (.int .i64 x_21), (.int .i64 x_35), (.int .i64 x_41), (.int .i64 x_51), (.int .i64 x_61), (.int .i64 x_71), (.int .i64 x_81), (.int .i64 x_91), (.int .i64 x_101), (.int .i64 x_112), (.bool x_122), (.slice x_13_a1 x_13_l1 x_13_c1)] ∧
          (Calls Try.prog N_ref21_Same #[(.agg #[.int .i64 x_04, .int .i64 x_14, .int .i64 x_2, .int .i64 x_34, .int .i64 x_4, .int .i64 x_5, .int .i64 x_6, .int .i64 x_7, .int .i64 x_8, .int .i64 x_9, .int .i64 x_10, .int .i64 x_111, .bool x_121, .slice x_13_a x_13_l x_13_c]), (.agg #[.int .i64 x_05, .int .i64 x_15, .int .i64 x_21, .int .i64 x_35, .int .i64 x_41, .int .i64 x_51, .int .i64 x_61, .int .i64 x_71, .int .i64 x_81, .int .i64 x_91, .int .i64 x_101, .int .i64 x_112, .bool x_122, .slice x_13_a1 x_13_l1 x_13_c1])] w17 fun e_7 w18 =>
          ∃ r7 : Bool, e_7 = .returned (.bool r7) ∧
          (bsplit r7
            ((Calls Try.prog N_law23_awake #[] w18 fun e_8 w19 =>
            ∃ r8 : Bool, e_8 = .returned (.bool r8) ∧
            R (.bool r8) w19))
            (R (.bool false) w18))))))
          (R (.bool false) w17))))))
        (R (.bool false) w16)))
      (R (.bool false) w16))))))))))))))) ∧
  (∃ x_0 x_1 : Int, ∃ x_2_a : Option Addr, ∃ x_2_l x_2_c : Nat, ∃ x_3 : Int, cellsAt w1 ⟨b, 0, none⟩ 0 [(.int .i64 x_0), (.int .i64 x_1), (.slice x_2_a x_2_l x_2_c), (.int .i64 x_3)] ∧
  (Calls Try.prog N_law23_light #[(.agg #[.int .i64 x_0, .int .i64 x_1, .slice x_2_a x_2_l x_2_c, .int .i64 x_3])] w1 fun e_ w2 =>
  ∃ r : Bool, e_ = .returned (.bool r) ∧
  (bsplit (!r)
    ((Calls Try.prog N_law23_awake #[] w2 fun e_1 w3 =>
      ∃ r1 : Bool, e_1 = .returned (.bool r1) ∧
      R (.bool r1) w3))
    ((bsplit (decide ((data_l : Int) > (3000 : Int)))
      ((Calls Try.prog N_law23_awake #[] w2 fun e_2 w4 =>
      ∃ r2 : Bool, e_2 = .returned (.bool r2) ∧
      R (.bool r2) w4))
      (J w2))))))))
theorem F_law23_UnackRaw_eq (c_0 : Int) (c_1 : Int) (c_2_a : Option Addr) (c_2_l : Nat) (c_2_c : Nat) (c_3 : Int) (data_a : Option Addr) (data_l : Nat) (data_c : Nat) (size : Int) (bits : Int) (wait : Int) (w : World) (R : Value → World → Prop) : sxFn Try.prog TT h_law23_UnackRaw Try.f3 #[(.agg #[.int .i64 c_0, .int .i64 c_1, .slice c_2_a c_2_l c_2_c, .int .i64 c_3]), (.slice data_a data_l data_c), (.int .i64 size), (.int .i64 bits), (.int .i64 wait)] w R = F_law23_UnackRaw c_0 c_1 c_2_a c_2_l c_2_c c_3 data_a data_l data_c size bits wait w R := by kernel_rfl
theorem F_law23_UnackRaw_ok {R : Ending → World → Prop} (c_0 : Int) (c_1 : Int) (c_2_a : Option Addr) (c_2_l : Nat) (c_2_c : Nat) (c_3 : Int) (data_a : Option Addr) (data_l : Nat) (data_c : Nat) (size : Int) (bits : Int) (wait : Int) (w : World) (h : F_law23_UnackRaw c_0 c_1 c_2_a c_2_l c_2_c c_3 data_a data_l data_c size bits wait w fun v w' => R (.returned v) w') : Calls Try.prog N_law23_UnackRaw #[(.agg #[.int .i64 c_0, .int .i64 c_1, .slice c_2_a c_2_l c_2_c, .int .i64 c_3]), (.slice data_a data_l data_c), (.int .i64 size), (.int .i64 bits), (.int .i64 wait)] w R :=
  calls_of (f := 3) follows_ok Try.func3 (Eq.mpr (F_law23_UnackRaw_eq c_0 c_1 c_2_a c_2_l c_2_c c_3 data_a data_l data_c size bits wait w _) h)

end Go.Proofs.Ytlgolgpellbnbaa
