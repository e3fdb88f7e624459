import Derived.Test.YthceaojjeokclaaGreatBase
import Derived.KernelRfl
namespace Go.Proofs.YthceaojjeokclaaGreat
open Go.Sx Go.RowKit
set_option maxRecDepth 100000

def h_law21_awake : H := (.seq .reg (.seq .reg (.seq .reg (.seq .reg (.seq .reg (.seq .reg (.seq .reg (.seq .reg .leaf))))))))
def F_law21_awake  (w : World) (R : Value → World → Prop) : Prop :=
 (Calls Tryz.prog N_receiver_New #[(.agg #[.int .i64 (5 : Int), .int .i64 (4 : Int), .int .i64 (3 : Int), .int .i64 (3 : Int), .int .i64 (0 : Int), .int .i64 (4 : Int)])] w fun e_ w1 =>
 ∃ r_0 r_1 r_2 r_3 r_4 r_5 r_6 r_7 r_8 r_9 r_10 r_11 : Int, ∃ r_12 : Bool, ∃ r_13_a : Option Addr, ∃ r_13_l r_13_c : Nat, ∃ r : Int, e_ = .returned (.tuple #[(.agg #[.int .i64 r_0, .int .i64 r_1, .int .i64 r_2, .int .i64 r_3, .int .i64 r_4, .int .i64 r_5, .int .i64 r_6, .int .i64 r_7, .int .i64 r_8, .int .i64 r_9, .int .i64 r_10, .int .i64 r_11, .bool r_12, .slice r_13_a r_13_l r_13_c]), (.int .i64 r)]) ∧
 (kAlloc w1 #[.int .i64 (0 : Int), .int .i64 (0 : Int), .int .i64 (0 : Int), .int .i64 (0 : Int), .int .i64 (0 : Int), .int .i64 (0 : Int), .int .i64 (0 : Int), .int .i64 (0 : Int), .int .i64 (0 : Int), .int .i64 (0 : Int), .int .i64 (0 : Int), .int .i64 (0 : Int), .bool false, .slice none 0 0] Ty_api_Receiver fun b w2 =>
 (sxStore w2 ⟨b, 0, none⟩ 0 [(.int .i64 r_0), (.int .i64 r_1), (.int .i64 r_2), (.int .i64 r_3), (.int .i64 r_4), (.int .i64 r_5), (.int .i64 r_6), (.int .i64 r_7), (.int .i64 r_8), (.int .i64 r_9), (.int .i64 r_10), (.int .i64 r_11), (.bool r_12), (.slice r_13_a r_13_l r_13_c)] fun w3 =>
 (kAlloc w3 #[(.int .u8 (3 : Int))] Ty_uint8 fun b1 w4 =>
 (Calls Tryz.prog N_ref18_Encode #[(.int .i64 (5 : Int)), (.agg #[.int .i64 (0 : Int), .int .i64 (2 : Int), .int .i64 (1 : Int), .int .i64 (2 : Int), .slice (some ⟨b1, 0, none⟩) 1 1])] w4 fun e_1 w5 =>
 ∃ r_a : Option Addr, ∃ r_l r_c : Nat, ∃ r1 : Int, e_1 = .returned (.tuple #[(.slice r_a r_l r_c), (.int .i64 r1)]) ∧
 (kAlloc w5 #[(.int .u8 (1 : Int)), (.int .u8 (2 : Int))] Ty_uint8 fun b2 w6 =>
 (Calls Tryz.prog N_ref18_Encode #[(.int .i64 (5 : Int)), (.agg #[.int .i64 (0 : Int), .int .i64 (1 : Int), .int .i64 (0 : Int), .int .i64 (0 : Int), .slice (some ⟨b2, 0, none⟩) 2 2])] w6 fun e_2 w7 =>
 ∃ r_a1 : Option Addr, ∃ r_l1 r_c1 : Nat, ∃ r2 : Int, e_2 = .returned (.tuple #[(.slice r_a1 r_l1 r_c1), (.int .i64 r2)]) ∧
 (∃ x_0 x_1 x_2 x_3 x_4 x_5 x_6 x_7 x_8 x_9 x_10 x_11 : Int, ∃ x_12 : Bool, ∃ x_13_a : Option Addr, ∃ x_13_l x_13_c : Nat, cellsAt w7 ⟨b, 0, none⟩ 0 [(.int .i64 x_0), (.int .i64 x_1), (.int .i64 x_2), (.int .i64 x_3), (.int .i64 x_4), (.int .i64 x_5), (.int .i64 x_6), (.int .i64 x_7), (.int .i64 x_8), (.int .i64 x_9), (.int .i64 x_10), (.int .i64 x_11), (.bool x_12), (.slice x_13_a x_13_l x_13_c)] ∧
 (Calls Tryz.prog N_receiver_Receive #[(.agg #[.int .i64 x_0, .int .i64 x_1, .int .i64 x_2, .int .i64 x_3, .int .i64 x_4, .int .i64 x_5, .int .i64 x_6, .int .i64 x_7, .int .i64 x_8, .int .i64 x_9, .int .i64 x_10, .int .i64 x_11, .bool x_12, .slice x_13_a x_13_l x_13_c]), (.slice r_a r_l r_c)] w7 fun e_3 w8 =>
 ∃ r_01 r_13 r_21 r_31 r_41 r_51 r_61 r_71 r_81 r_91 r_101 r_111 : Int, ∃ r_121 : Bool, ∃ r_13_a1 : Option Addr, ∃ r_13_l1 r_13_c1 : Nat, ∃ r_a2 : Option Addr, ∃ r_l2 r_c2 : Nat, ∃ r3 : Int, e_3 = .returned (.tuple #[(.agg #[.int .i64 r_01, .int .i64 r_13, .int .i64 r_21, .int .i64 r_31, .int .i64 r_41, .int .i64 r_51, .int .i64 r_61, .int .i64 r_71, .int .i64 r_81, .int .i64 r_91, .int .i64 r_101, .int .i64 r_111, .bool r_121, .slice r_13_a1 r_13_l1 r_13_c1]), (.slice r_a2 r_l2 r_c2), (.int .i64 r3)]) ∧
 (sxStore w8 ⟨b, 0, none⟩ 0 [(.int .i64 r_01), (.int .i64 r_13), (.int .i64 r_21), (.int .i64 r_31), (.int .i64 r_41), (.int .i64 r_51), (.int .i64 r_61), (.int .i64 r_71), (.int .i64 r_81), (.int .i64 r_91), (.int .i64 r_101), (.int .i64 r_111), (.bool r_121), (.slice r_13_a1 r_13_l1 r_13_c1)] fun w9 =>
 (∃ x_01 x_13 x_21 x_31 x_41 x_51 x_61 x_71 x_81 x_91 x_101 x_111 : Int, ∃ x_121 : Bool, ∃ x_13_a1 : Option Addr, ∃ x_13_l1 x_13_c1 : Nat, cellsAt w9 ⟨b, 0, none⟩ 0 [(.int .i64 x_01), (.int .i64 x_13), (.int .i64 x_21), (.int .i64 x_31), (.int .i64 x_41), (.int .i64 x_51), (.int .i64 x_61), (.int .i64 x_71), (.int .i64 x_81), (.int .i64 x_91), (.int .i64 x_101), (.int .i64 x_111), (.bool x_121), (.slice x_13_a1 x_13_l1 x_13_c1)] ∧
 (Calls Tryz.prog N_receiver_Status #[(.agg #[.int .i64 x_01, .int .i64 x_13, .int .i64 x_21, .int .i64 x_31, .int .i64 x_41, .int .i64 x_51, .int .i64 x_61, .int .i64 x_71, .int .i64 x_81, .int .i64 x_91, .int .i64 x_101, .int .i64 x_111, .bool x_121, .slice x_13_a1 x_13_l1 x_13_c1])] w9 fun e_4 w10 =>
 ∃ r_02 : Int, ∃ r_1_a : Option Addr, ∃ r_1_l r_1_c : Nat, ∃ r4 : Int, e_4 = .returned (.tuple #[(.agg #[.int .i64 r_02, .slice r_1_a r_1_l r_1_c]), (.int .i64 r4)]) ∧
 (kAlloc w10 #[.int .i64 (0 : Int), .slice none 0 0] Ty_api_Status fun b3 w11 =>
 (sxStore w11 ⟨b3, 0, none⟩ 0 [(.int .i64 r_02), (.slice r_1_a r_1_l r_1_c)] fun w12 =>
 (∃ x_02 x_14 x_22 x_32 x_42 x_52 x_62 x_72 x_82 x_92 x_102 x_112 : Int, ∃ x_122 : Bool, ∃ x_13_a2 : Option Addr, ∃ x_13_l2 x_13_c2 : Nat, cellsAt w12 ⟨b, 0, none⟩ 0 [(.int .i64 x_02), (.int .i64 x_14), (.int .i64 x_22), (.int .i64 x_32), (.int .i64 x_42), (.int .i64 x_52), (.int .i64 x_62), (.int .i64 x_72), (.int .i64 x_82), (.int .i64 x_92), (.int .i64 x_102), (.int .i64 x_112), (.bool x_122), (.slice x_13_a2 x_13_l2 x_13_c2)] ∧
 (Calls Tryz.prog N_receiver_Receive #[(.agg #[.int .i64 x_02, .int .i64 x_14, .int .i64 x_22, .int .i64 x_32, .int .i64 x_42, .int .i64 x_52, .int .i64 x_62, .int .i64 x_72, .int .i64 x_82, .int .i64 x_92, .int .i64 x_102, .int .i64 x_112, .bool x_122, .slice x_13_a2 x_13_l2 x_13_c2]), (.slice r_a1 r_l1 r_c1)] w12 fun e_5 w13 =>
 ∃ r_03 r_14 r_22 r_32 r_42 r_52 r_62 r_72 r_82 r_92 r_102 r_112 : Int, ∃ r_122 : Bool, ∃ r_13_a2 : Option Addr, ∃ r_13_l2 r_13_c2 : Nat, ∃ r_a3 : Option Addr, ∃ r_l3 r_c3 : Nat, ∃ r5 : Int, e_5 = .returned (.tuple #[(.agg #[.int .i64 r_03, .int .i64 r_14, .int .i64 r_22, .int .i64 r_32, .int .i64 r_42, .int .i64 r_52, .int .i64 r_62, .int .i64 r_72, .int .i64 r_82, .int .i64 r_92, .int .i64 r_102, .int .i64 r_112, .bool r_122, .slice r_13_a2 r_13_l2 r_13_c2]), (.slice r_a3 r_l3 r_c3), (.int .i64 r5)]) ∧
 (sxStore w13 ⟨b, 0, none⟩ 0 [(.int .i64 r_03), (.int .i64 r_14), (.int .i64 r_22), (.int .i64 r_32), (.int .i64 r_42), (.int .i64 r_52), (.int .i64 r_62), (.int .i64 r_72), (.int .i64 r_82), (.int .i64 r_92), (.int .i64 r_102), (.int .i64 r_112), (.bool r_122), (.slice r_13_a2 r_13_l2 r_13_c2)] fun w14 =>
 (bsplit (decide (r = (0 : Int)))
 ((bsplit (decide (r3 = (0 : Int)))
 ((bsplit (decide (r4 = (0 : Int)))
 ((bsplit (decide (r5 = (0 : Int)))
 ((bsplit (decide ((r_l2 : Int) = (0 : Int)))
 ((kLdS w14 ⟨b3, 1, none⟩ fun _ x_l _ =>
 (bsplit (decide ((x_l : Int) = (1 : Int)))
 ((kLdS w14 ⟨b3, 1, none⟩ fun x_a1 x_l1 _ =>
 (kIx x_a1 x_l1 (0 : Int) fun b4 =>
 (kLd w14 ((b4.add ((0 : Int).toNat * 3)).add 2) .i64 fun x =>
 (bsplit (decide (x = (2 : Int)))
 ((kLdB w14 ⟨b, 12, none⟩ fun x1 =>
 (bsplit x1
 ((bsplit (decide ((r_l3 : Int) = (3 : Int)))
 ((kIx r_a3 r_l3 (2 : Int) fun b5 =>
 (kLd w14 (b5.add ((2 : Int).toNat * 1)) .u8 fun x2 =>
 (bsplit (decide (x2 = (3 : Int)))
 ((kLd w14 ⟨b, 6, none⟩ .i64 fun x3 =>
 (bsplit (decide (x3 = (1 : Int)))
 ((∃ x_03 x_15 x_23 x_33 x_43 x_53 x_63 x_73 x_83 x_93 x_103 x_113 : Int, ∃ x_123 : Bool, ∃ x_13_a3 : Option Addr, ∃ x_13_l3 x_13_c3 : Nat, cellsAt w14 ⟨b, 0, none⟩ 0 [(.int .i64 x_03), (.int .i64 x_15), (.int .i64 x_23), (.int .i64 x_33), (.int .i64 x_43), (.int .i64 x_53), (.int .i64 x_63), (.int .i64 x_73), (.int .i64 x_83), (.int .i64 x_93), (.int .i64 x_103), (.int .i64 x_113), (.bool x_123), (.slice x_13_a3 x_13_l3 x_13_c3)] ∧
 (Calls Tryz.prog N_receiver_Valid #[(.agg #[.int .i64 x_03, .int .i64 x_15, .int .i64 x_23, .int .i64 x_33, .int .i64 x_43, .int .i64 x_53, .int .i64 x_63, .int .i64 x_73, .int .i64 x_83, .int .i64 x_93, .int .i64 x_103, .int .i64 x_113, .bool x_123, .slice x_13_a3 x_13_l3 x_13_c3])] w14 fun e_6 w15 =>
 ∃ r6 : Bool, e_6 = .returned (.bool r6) ∧
 R (.bool r6) w15)))
 (R (.bool false) w14))))
 (R (.bool false) w14)))))
 (R (.bool false) w14)))
 (R (.bool false) w14))))
 (R (.bool false) w14))))))
 (R (.bool false) w14))))
 (R (.bool false) w14)))
 (R (.bool false) w14)))
 (R (.bool false) w14)))
 (R (.bool false) w14)))
 (R (.bool false) w14)))))))))))))))))))
theorem F_law21_awake_eq  (w : World) (R : Value → World → Prop) : sxFn Tryz.prog TT h_law21_awake Tryz.f6 #[] w R = F_law21_awake  w R := by kernel_rfl
theorem F_law21_awake_ok {R : Ending → World → Prop}  (w : World) (h : F_law21_awake  w fun v w' => R (.returned v) w') : Calls Tryz.prog N_law21_awake #[] w R :=
 calls_of (f := 6) follows_ok Tryz.func6 (Eq.mpr (F_law21_awake_eq  w _) h)

def h_receiver_New : H := (.seq .reg (.seq (.seq .reg (.cond (.seq .reg .leaf) .leaf)) (.seq .reg .leaf)))
def F_receiver_New (l_0 : Int) (l_1 : Int) (l_2 : Int) (l_3 : Int) (l_4 : Int) (l_5 : Int) (w : World) (R : Value → World → Prop) : Prop :=
 (kAlloc w #[(.int .i64 l_0), (.int .i64 l_1), (.int .i64 l_2), (.int .i64 l_3), (.int .i64 l_4), (.int .i64 l_5)] Ty_api_Link fun b w1 =>
 (kAlloc w1 #[.int .i64 (0 : Int), .int .i64 (0 : Int), .int .i64 (0 : Int), .int .i64 (0 : Int), .int .i64 (0 : Int), .int .i64 (0 : Int), .int .i64 (0 : Int), .int .i64 (0 : Int), .int .i64 (0 : Int), .int .i64 (0 : Int), .int .i64 (0 : Int), .int .i64 (0 : Int), .bool false, .slice none 0 0] Ty_api_Receiver fun b1 w2 =>
 (∃ x_0 x_1 x_2 x_3 x_4 x_5 : Int, cellsAt w2 ⟨b, 0, none⟩ 0 [(.int .i64 x_0), (.int .i64 x_1), (.int .i64 x_2), (.int .i64 x_3), (.int .i64 x_4), (.int .i64 x_5)] ∧
 (Calls Tryz.prog N_sender_ValidLink #[(.agg #[.int .i64 x_0, .int .i64 x_1, .int .i64 x_2, .int .i64 x_3, .int .i64 x_4, .int .i64 x_5])] w2 fun e_ w3 =>
 ∃ r : Bool, e_ = .returned (.bool r) ∧
 (bsplit (!r)
 ((sxStore w3 ⟨b1, 0, none⟩ 0 [(.int .i64 (0 : Int)), (.int .i64 (0 : Int)), (.int .i64 (0 : Int)), (.int .i64 (0 : Int)), (.int .i64 (0 : Int)), (.int .i64 (0 : Int)), (.int .i64 (0 : Int)), (.int .i64 (0 : Int)), (.int .i64 (0 : Int)), (.int .i64 (0 : Int)), (.int .i64 (0 : Int)), (.int .i64 (0 : Int)), (.bool false), (.slice none 0 0)] fun w4 =>
 (∃ r_0 r_1 r_2 r_3 r_4 r_5 r_6 r_7 r_8 r_9 r_10 r_11 : Int, ∃ r_12 : Bool, ∃ r_13_a : Option Addr, ∃ r_13_l r_13_c : Nat, cellsAt w4 ⟨b1, 0, none⟩ 0 [(.int .i64 r_0), (.int .i64 r_1), (.int .i64 r_2), (.int .i64 r_3), (.int .i64 r_4), (.int .i64 r_5), (.int .i64 r_6), (.int .i64 r_7), (.int .i64 r_8), (.int .i64 r_9), (.int .i64 r_10), (.int .i64 r_11), (.bool r_12), (.slice r_13_a r_13_l r_13_c)] ∧
 R (.tuple #[(.agg #[.int .i64 r_0, .int .i64 r_1, .int .i64 r_2, .int .i64 r_3, .int .i64 r_4, .int .i64 r_5, .int .i64 r_6, .int .i64 r_7, .int .i64 r_8, .int .i64 r_9, .int .i64 r_10, .int .i64 r_11, .bool r_12, .slice r_13_a r_13_l r_13_c]), (.int .i64 (3 : Int))]) w4)))
 ((∃ x_01 x_11 x_21 x_31 x_41 x_51 : Int, cellsAt w3 ⟨b, 0, none⟩ 0 [(.int .i64 x_01), (.int .i64 x_11), (.int .i64 x_21), (.int .i64 x_31), (.int .i64 x_41), (.int .i64 x_51)] ∧
 (sxStore w3 ⟨b1, 0, none⟩ 0 [(.int .i64 x_01), (.int .i64 x_11), (.int .i64 x_21), (.int .i64 x_31), (.int .i64 x_41), (.int .i64 x_51), (.int .i64 (0 : Int)), (.int .i64 (0 : Int)), (.int .i64 (0 : Int)), (.int .i64 (-1 : Int)), (.int .i64 (0 : Int)), (.int .i64 (0 : Int)), (.bool false), (.slice none 0 0)] fun w5 =>
 (∃ r_01 r_13 r_21 r_31 r_41 r_51 r_61 r_71 r_81 r_91 r_101 r_111 : Int, ∃ r_121 : Bool, ∃ r_13_a1 : Option Addr, ∃ r_13_l1 r_13_c1 : Nat, cellsAt w5 ⟨b1, 0, none⟩ 0 [(.int .i64 r_01), (.int .i64 r_13), (.int .i64 r_21), (.int .i64 r_31), (.int .i64 r_41), (.int .i64 r_51), (.int .i64 r_61), (.int .i64 r_71), (.int .i64 r_81), (.int .i64 r_91), (.int .i64 r_101), (.int .i64 r_111), (.bool r_121), (.slice r_13_a1 r_13_l1 r_13_c1)] ∧
 R (.tuple #[(.agg #[.int .i64 r_01, .int .i64 r_13, .int .i64 r_21, .int .i64 r_31, .int .i64 r_41, .int .i64 r_51, .int .i64 r_61, .int .i64 r_71, .int .i64 r_81, .int .i64 r_91, .int .i64 r_101, .int .i64 r_111, .bool r_121, .slice r_13_a1 r_13_l1 r_13_c1]), (.int .i64 (0 : Int))]) w5)))))))))
theorem F_receiver_New_eq (l_0 : Int) (l_1 : Int) (l_2 : Int) (l_3 : Int) (l_4 : Int) (l_5 : Int) (w : World) (R : Value → World → Prop) : sxFn Tryz.prog TT h_receiver_New Tryz.f7 #[(.agg #[.int .i64 l_0, .int .i64 l_1, .int .i64 l_2, .int .i64 l_3, .int .i64 l_4, .int .i64 l_5])] w R = F_receiver_New l_0 l_1 l_2 l_3 l_4 l_5 w R := by kernel_rfl
theorem F_receiver_New_ok {R : Ending → World → Prop} (l_0 : Int) (l_1 : Int) (l_2 : Int) (l_3 : Int) (l_4 : Int) (l_5 : Int) (w : World) (h : F_receiver_New l_0 l_1 l_2 l_3 l_4 l_5 w fun v w' => R (.returned v) w') : Calls Tryz.prog N_receiver_New #[(.agg #[.int .i64 l_0, .int .i64 l_1, .int .i64 l_2, .int .i64 l_3, .int .i64 l_4, .int .i64 l_5])] w R :=
 calls_of (f := 7) follows_ok Tryz.func7 (Eq.mpr (F_receiver_New_eq l_0 l_1 l_2 l_3 l_4 l_5 w _) h)

def h_ref21_New : H := (.seq .reg (.seq (.seq .reg (.cond (.seq .reg .leaf) .leaf)) (.seq .reg .leaf)))
def F_ref21_New (l_0 : Int) (l_1 : Int) (l_2 : Int) (l_3 : Int) (l_4 : Int) (l_5 : Int) (w : World) (R : Value → World → Prop) : Prop :=
 (kAlloc w #[(.int .i64 l_0), (.int .i64 l_1), (.int .i64 l_2), (.int .i64 l_3), (.int .i64 l_4), (.int .i64 l_5)] Ty_api_Link fun b w1 =>
 (kAlloc w1 #[.int .i64 (0 : Int), .int .i64 (0 : Int), .int .i64 (0 : Int), .int .i64 (0 : Int), .int .i64 (0 : Int), .int .i64 (0 : Int), .int .i64 (0 : Int), .int .i64 (0 : Int), .int .i64 (0 : Int), .int .i64 (0 : Int), .int .i64 (0 : Int), .int .i64 (0 : Int), .bool false, .slice none 0 0] Ty_api_Receiver fun b1 w2 =>
 (∃ x_0 x_1 x_2 x_3 x_4 x_5 : Int, cellsAt w2 ⟨b, 0, none⟩ 0 [(.int .i64 x_0), (.int .i64 x_1), (.int .i64 x_2), (.int .i64 x_3), (.int .i64 x_4), (.int .i64 x_5)] ∧
 (Calls Tryz.prog N_ref20_ValidLink #[(.agg #[.int .i64 x_0, .int .i64 x_1, .int .i64 x_2, .int .i64 x_3, .int .i64 x_4, .int .i64 x_5])] w2 fun e_ w3 =>
 ∃ r : Bool, e_ = .returned (.bool r) ∧
 (bsplit (!r)
 ((sxStore w3 ⟨b1, 0, none⟩ 0 [(.int .i64 (0 : Int)), (.int .i64 (0 : Int)), (.int .i64 (0 : Int)), (.int .i64 (0 : Int)), (.int .i64 (0 : Int)), (.int .i64 (0 : Int)), (.int .i64 (0 : Int)), (.int .i64 (0 : Int)), (.int .i64 (0 : Int)), (.int .i64 (0 : Int)), (.int .i64 (0 : Int)), (.int .i64 (0 : Int)), (.bool false), (.slice none 0 0)] fun w4 =>
 (∃ r_0 r_1 r_2 r_3 r_4 r_5 r_6 r_7 r_8 r_9 r_10 r_11 : Int, ∃ r_12 : Bool, ∃ r_13_a : Option Addr, ∃ r_13_l r_13_c : Nat, cellsAt w4 ⟨b1, 0, none⟩ 0 [(.int .i64 r_0), (.int .i64 r_1), (.int .i64 r_2), (.int .i64 r_3), (.int .i64 r_4), (.int .i64 r_5), (.int .i64 r_6), (.int .i64 r_7), (.int .i64 r_8), (.int .i64 r_9), (.int .i64 r_10), (.int .i64 r_11), (.bool r_12), (.slice r_13_a r_13_l r_13_c)] ∧
 R (.tuple #[(.agg #[.int .i64 r_0, .int .i64 r_1, .int .i64 r_2, .int .i64 r_3, .int .i64 r_4, .int .i64 r_5, .int .i64 r_6, .int .i64 r_7, .int .i64 r_8, .int .i64 r_9, .int .i64 r_10, .int .i64 r_11, .bool r_12, .slice r_13_a r_13_l r_13_c]), (.int .i64 (3 : Int))]) w4)))
 ((∃ x_01 x_11 x_21 x_31 x_41 x_51 : Int, cellsAt w3 ⟨b, 0, none⟩ 0 [(.int .i64 x_01), (.int .i64 x_11), (.int .i64 x_21), (.int .i64 x_31), (.int .i64 x_41), (.int .i64 x_51)] ∧
 (sxStore w3 ⟨b1, 0, none⟩ 0 [(.int .i64 x_01), (.int .i64 x_11), (.int .i64 x_21), (.int .i64 x_31), (.int .i64 x_41), (.int .i64 x_51), (.int .i64 (0 : Int)), (.int .i64 (0 : Int)), (.int .i64 (0 : Int)), (.int .i64 (-1 : Int)), (.int .i64 (0 : Int)), (.int .i64 (0 : Int)), (.bool false), (.slice none 0 0)] fun w5 =>
 (∃ r_01 r_13 r_21 r_31 r_41 r_51 r_61 r_71 r_81 r_91 r_101 r_111 : Int, ∃ r_121 : Bool, ∃ r_13_a1 : Option Addr, ∃ r_13_l1 r_13_c1 : Nat, cellsAt w5 ⟨b1, 0, none⟩ 0 [(.int .i64 r_01), (.int .i64 r_13), (.int .i64 r_21), (.int .i64 r_31), (.int .i64 r_41), (.int .i64 r_51), (.int .i64 r_61), (.int .i64 r_71), (.int .i64 r_81), (.int .i64 r_91), (.int .i64 r_101), (.int .i64 r_111), (.bool r_121), (.slice r_13_a1 r_13_l1 r_13_c1)] ∧
 R (.tuple #[(.agg #[.int .i64 r_01, .int .i64 r_13, .int .i64 r_21, .int .i64 r_31, .int .i64 r_41, .int .i64 r_51, .int .i64 r_61, .int .i64 r_71, .int .i64 r_81, .int .i64 r_91, .int .i64 r_101, .int .i64 r_111, .bool r_121, .slice r_13_a1 r_13_l1 r_13_c1]), (.int .i64 (0 : Int))]) w5)))))))))
theorem F_ref21_New_eq (l_0 : Int) (l_1 : Int) (l_2 : Int) (l_3 : Int) (l_4 : Int) (l_5 : Int) (w : World) (R : Value → World → Prop) : sxFn Tryz.prog TT h_ref21_New Tryz.f8 #[(.agg #[.int .i64 l_0, .int .i64 l_1, .int .i64 l_2, .int .i64 l_3, .int .i64 l_4, .int .i64 l_5])] w R = F_ref21_New l_0 l_1 l_2 l_3 l_4 l_5 w R := by kernel_rfl
theorem F_ref21_New_ok {R : Ending → World → Prop} (l_0 : Int) (l_1 : Int) (l_2 : Int) (l_3 : Int) (l_4 : Int) (l_5 : Int) (w : World) (h : F_ref21_New l_0 l_1 l_2 l_3 l_4 l_5 w fun v w' => R (.returned v) w') : Calls Tryz.prog N_ref21_New #[(.agg #[.int .i64 l_0, .int .i64 l_1, .int .i64 l_2, .int .i64 l_3, .int .i64 l_4, .int .i64 l_5])] w R :=
 calls_of (f := 8) follows_ok Tryz.func8 (Eq.mpr (F_ref21_New_eq l_0 l_1 l_2 l_3 l_4 l_5 w _) h)

def h_ref21_Same : H := (.seq .reg (.seq (.cut [(70, .p .bool)] [8, 9, 10, 11, 12, 13, 14, 15, 16, 17, 18, 19, 20, 21, 22, 23, 24, 25, 26, 27, 28, 29, 30, 31, 32, 33, 34, 35, 36, 37, 38, 39, 40, 41, 42, 43, 44, 45, 46, 47, 48, 49, 50, 51, 52, 53, 54, 55, 56, 57, 58, 59, 60, 61, 62, 63, 64, 65, 66, 67, 68, 69, 70] .reg (.cond (.seq .reg .leaf) .leaf)) (.seq (.seq .reg (.block (.loop [(5, .p (.int .i64))] [4, 5, 6, 7, 71, 72, 73, 74, 75, 76, 77, 78, 79, 80, 81, 82, 83, 84, 85, 86, 87, 88, 89, 90, 91, 92, 93, 94, 95, 96, 97, 98, 99, 100, 101, 102, 103, 104, 105, 106, 107, 108, 109, 110, 111, 112, 113, 114, 115, 116, 117, 118, 119, 120, 121, 122] (.seq (.seq .reg (.cond .leaf .leaf)) (.seq (.block (.cut [(6, .p .addr), (7, .p .addr)] [6, 7, 78, 79, 80, 81, 82, 83, 84, 85, 86, 87] (.draw .blk (.one 0 .stable (.one 1 .stable (.one 2 .stable (.one 3 .stable (.one 4 .stable (.one 5 .stable (.one 6 .stable (.one 7 .stable (.one 8 .stable (.one 9 .stable (.alt 10 (.one 11 .keep (.one 12 .keep (.one 13 .last .nil))) (.alt 11 (.one 10 .keep (.one 12 .keep (.one 13 .last .nil))) .endAlt))))))))))))) (.cut [(122, .p .bool)] [88, 89, 90, 91, 92, 93, 94, 95, 96, 97, 98, 99, 100, 101, 102, 103, 104, 105, 106, 107, 108, 109, 110, 111, 112, 113, 114, 115, 116, 117, 118, 119, 120, 121, 122] .reg (.cond (.seq .reg .leaf) .leaf)))) .reg))))) (.seq .reg .leaf))))
def F_ref21_Same (a_0 : Int) (a_1 : Int) (a_2 : Int) (a_3 : Int) (a_4 : Int) (a_5 : Int) (a_6 : Int) (a_7 : Int) (a_8 : Int) (a_9 : Int) (a_10 : Int) (a_11 : Int) (a_12 : Bool) (a_13_a : Option Addr) (a_13_l : Nat) (a_13_c : Nat) (b_0 : Int) (b_1 : Int) (b_2 : Int) (b_3 : Int) (b_4 : Int) (b_5 : Int) (b_6 : Int) (b_7 : Int) (b_8 : Int) (b_9 : Int) (b_10 : Int) (b_11 : Int) (b_12 : Bool) (b_13_a : Option Addr) (b_13_l : Nat) (b_13_c : Nat) (w : World) (R : Value → World → Prop) : Prop :=
 (kAlloc w #[(.int .i64 a_0), (.int .i64 a_1), (.int .i64 a_2), (.int .i64 a_3), (.int .i64 a_4), (.int .i64 a_5), (.int .i64 a_6), (.int .i64 a_7), (.int .i64 a_8), (.int .i64 a_9), (.int .i64 a_10), (.int .i64 a_11), (.bool a_12), (.slice a_13_a a_13_l a_13_c)] Ty_api_Receiver fun b w1 =>
 (kAlloc w1 #[(.int .i64 b_0), (.int .i64 b_1), (.int .i64 b_2), (.int .i64 b_3), (.int .i64 b_4), (.int .i64 b_5), (.int .i64 b_6), (.int .i64 b_7), (.int .i64 b_8), (.int .i64 b_9), (.int .i64 b_10), (.int .i64 b_11), (.bool b_12), (.slice b_13_a b_13_l b_13_c)] Ty_api_Receiver fun b1 w2 =>
 (∃ J : Bool → World → Prop,
 (∀ (_junk : Env) (x14 : Bool) (w3 : World), J x14 w3 →
 (bsplit x14
 (R (.bool false) w3)
 ((∃ I : Int → Nat × (World → Prop), (I (0 : Int)).2 w3 ∧
 (∀ (_junk : Env) (i : Int) (w4 : World), (I i).2 w4 →
 (kLdS w4 ⟨b, 13, none⟩ fun _ x_l2 _ =>
 (bsplit (decide (i < (x_l2 : Int)))
 ((∃ J1 : Addr → Addr → World → Prop,
 (∀ (_junk : Env) (x15 : Addr) (y : Addr) (w14 : World), J1 x15 y w14 →
 (∃ J2 : Bool → World → Prop,
 (∀ (_junk : Env) (x22 : Bool) (w17 : World), J2 x22 w17 →
 (bsplit x22
 (R (.bool false) w17)
 ((kW .i64 (i + (1 : Int)) fun x23 =>
 ((I x23).2 w17 ∧ (I x23).1 < (I i).1))))) ∧
 (kLd w14 x15 .i64 fun x16 =>
 (kLd w14 y .i64 fun x17 =>
 (bsplit (!decide (x16 = x17))
 (J2 true w14)
 ((kLdB w14 (x15.add 1) fun x18 =>
 (kLdB w14 (y.add 1) fun x19 =>
 (bsplit (!(x18 == x19))
 (J2 true w14)
 ((kLd w14 (x15.add 2) .i64 fun x20 =>
 (kLd w14 (y.add 2) .i64 fun x21 =>
 (bsplit (!decide (x20 = x21))
 (J2 true w14)
 ((kLdS w14 (x15.add 3) fun x_a5 x_l5 x_c5 =>
 (kLdS w14 (y.add 3) fun x_a6 x_l6 x_c6 =>
 (Calls Tryz.prog N_ref01_Same #[(.slice x_a5 x_l5 x_c5), (.slice x_a6 x_l6 x_c6)] w14 fun e_ w15 =>
 ∃ r1 : Bool, e_ = .returned (.bool r1) ∧
 (bsplit (!r1)
 (J2 true w15)
 ((kLdS w15 (x15.add 4) fun x_a7 x_l7 x_c7 =>
 (kLdS w15 (y.add 4) fun x_a8 x_l8 x_c8 =>
 (Calls Tryz.prog N_ref18_SameRanges #[(.slice x_a7 x_l7 x_c7), (.slice x_a8 x_l8 x_c8)] w15 fun e_1 w16 =>
 ∃ r2 : Bool, e_1 = .returned (.bool r2) ∧
 J2 (!r2) w16)))))))))))))))))))))) ∧
 (kDrew w4 fun w5 =>
 (∃ S : Nat → Prop,
 (S b ∧
 (kLdS w5 ⟨b, 13, none⟩ fun x_a3 x_l3 _ =>
 (kIx x_a3 x_l3 i fun b2 =>
 (S (b2.add (i.toNat * 5)).block ∧
 (∃ x_02 : Int, ∃ x_12 : Bool, ∃ x_22 : Int, ∃ x_3_a : Option Addr, ∃ x_3_l x_3_c : Nat, ∃ x_4_a : Option Addr, ∃ x_4_l x_4_c : Nat, cellsAt w5 (b2.add (i.toNat * 5)) 0 [(.int .i64 x_02), (.bool x_12), (.int .i64 x_22), (.slice x_3_a x_3_l x_3_c), (.slice x_4_a x_4_l x_4_c)] ∧
 (S b1 ∧
 (kLdS w5 ⟨b1, 13, none⟩ fun x_a4 x_l4 _ =>
 (kIx x_a4 x_l4 i fun b3 =>
 (S (b3.add (i.toNat * 5)).block ∧
 (∃ x_03 : Int, ∃ x_13 : Bool, ∃ x_23 : Int, ∃ x_3_a1 : Option Addr, ∃ x_3_l1 x_3_c1 : Nat, ∃ x_4_a1 : Option Addr, ∃ x_4_l1 x_4_c1 : Nat, cellsAt w5 (b3.add (i.toNat * 5)) 0 [(.int .i64 x_03), (.bool x_13), (.int .i64 x_23), (.slice x_3_a1 x_3_l1 x_3_c1), (.slice x_4_a1 x_4_l1 x_4_c1)] ∧
 ((kAlloc w5 #[.int .i64 (0 : Int), .bool false, .int .i64 (0 : Int), .slice none 0 0, .slice none 0 0] Ty_api_Partial fun b6 w10 =>
 (KeepsB S w5 w10 ∧ (kAlloc w10 #[.int .i64 (0 : Int), .bool false, .int .i64 (0 : Int), .slice none 0 0, .slice none 0 0] Ty_api_Partial fun b7 w11 =>
 (KeepsB S w5 w11 ∧ (sxStore w11 ⟨b6, 0, none⟩ 0 [(.int .i64 x_02), (.bool x_12), (.int .i64 x_22), (.slice x_3_a x_3_l x_3_c), (.slice x_4_a x_4_l x_4_c)] fun w12 =>
 (KeepsB S w5 w12 ∧ (sxStore w12 ⟨b7, 0, none⟩ 0 [(.int .i64 x_03), (.bool x_13), (.int .i64 x_23), (.slice x_3_a1 x_3_l1 x_3_c1), (.slice x_4_a1 x_4_l1 x_4_c1)] fun w13 =>
 J1 ⟨b6, 0, none⟩ ⟨b7, 0, none⟩ w13))))))) ∧
 ((kAlloc w5 #[.int .i64 (0 : Int), .bool false, .int .i64 (0 : Int), .slice none 0 0, .slice none 0 0] Ty_api_Partial fun b4 w6 =>
 (KeepsB S w5 w6 ∧ (kAlloc w6 #[.int .i64 (0 : Int), .bool false, .int .i64 (0 : Int), .slice none 0 0, .slice none 0 0] Ty_api_Partial fun b5 w7 =>
 (KeepsB S w5 w7 ∧ (sxStore w7 ⟨b5, 0, none⟩ 0 [(.int .i64 x_02), (.bool x_12), (.int .i64 x_22), (.slice x_3_a x_3_l x_3_c), (.slice x_4_a x_4_l x_4_c)] fun w8 =>
 (KeepsB S w5 w8 ∧ (sxStore w8 ⟨b4, 0, none⟩ 0 [(.int .i64 x_03), (.bool x_13), (.int .i64 x_23), (.slice x_3_a1 x_3_l1 x_3_c1), (.slice x_4_a1 x_4_l1 x_4_c1)] fun w9 =>
 J1 ⟨b5, 0, none⟩ ⟨b4, 0, none⟩ w9))))))) ∧
 True))))))))))))))))
 (R (.bool true) w4)))))))) ∧
 (∃ x_0 x_1 x_2 x_3 x_4 x_5 : Int, cellsAt w2 ⟨b, 0, none⟩ 0 [(.int .i64 x_0), (.int .i64 x_1), (.int .i64 x_2), (.int .i64 x_3), (.int .i64 x_4), (.int .i64 x_5)] ∧
 (∃ x_01 x_11 x_21 x_31 x_41 x_51 : Int, cellsAt w2 ⟨b1, 0, none⟩ 0 [(.int .i64 x_01), (.int .i64 x_11), (.int .i64 x_21), (.int .i64 x_31), (.int .i64 x_41), (.int .i64 x_51)] ∧
 (EqP Tryz.prog .neq Ty_api_Link (.tmp 9) (.tmp 11) (.agg #[.int .i64 x_0, .int .i64 x_1, .int .i64 x_2, .int .i64 x_3, .int .i64 x_4, .int .i64 x_5]) (.agg #[.int .i64 x_01, .int .i64 x_11, .int .i64 x_21, .int .i64 x_31, .int .i64 x_41, .int .i64 x_51]) fun r =>
 (bsplit r
 (J true w2)
 ((kLd w2 ⟨b, 6, none⟩ .i64 fun x =>
 (kLd w2 ⟨b1, 6, none⟩ .i64 fun x1 =>
 (bsplit (!decide (x = x1))
 (J true w2)
 ((kLd w2 ⟨b, 7, none⟩ .i64 fun x2 =>
 (kLd w2 ⟨b1, 7, none⟩ .i64 fun x3 =>
 (bsplit (!decide (x2 = x3))
 (J true w2)
 ((kLd w2 ⟨b, 8, none⟩ .i64 fun x4 =>
 (kLd w2 ⟨b1, 8, none⟩ .i64 fun x5 =>
 (bsplit (!decide (x4 = x5))
 (J true w2)
 ((kLd w2 ⟨b, 9, none⟩ .i64 fun x6 =>
 (kLd w2 ⟨b1, 9, none⟩ .i64 fun x7 =>
 (bsplit (!decide (x6 = x7))
 (J true w2)
 ((kLd w2 ⟨b, 10, none⟩ .i64 fun x8 =>
 (kLd w2 ⟨b1, 10, none⟩ .i64 fun x9 =>
 (bsplit (!decide (x8 = x9))
 (J true w2)
 ((kLd w2 ⟨b, 11, none⟩ .i64 fun x10 =>
 (kLd w2 ⟨b1, 11, none⟩ .i64 fun x11 =>
 (bsplit (!decide (x10 = x11))
 (J true w2)
 ((kLdB w2 ⟨b, 12, none⟩ fun x12 =>
 (kLdB w2 ⟨b1, 12, none⟩ fun x13 =>
 (bsplit (!(x12 == x13))
 (J true w2)
 ((kLdS w2 ⟨b, 13, none⟩ fun _ x_l _ =>
 (kLdS w2 ⟨b1, 13, none⟩ fun _ x_l1 _ =>
 J (!decide ((x_l : Int) = (x_l1 : Int))) w2))))))))))))))))))))))))))))))))))))))
theorem F_ref21_Same_eq (a_0 : Int) (a_1 : Int) (a_2 : Int) (a_3 : Int) (a_4 : Int) (a_5 : Int) (a_6 : Int) (a_7 : Int) (a_8 : Int) (a_9 : Int) (a_10 : Int) (a_11 : Int) (a_12 : Bool) (a_13_a : Option Addr) (a_13_l : Nat) (a_13_c : Nat) (b_0 : Int) (b_1 : Int) (b_2 : Int) (b_3 : Int) (b_4 : Int) (b_5 : Int) (b_6 : Int) (b_7 : Int) (b_8 : Int) (b_9 : Int) (b_10 : Int) (b_11 : Int) (b_12 : Bool) (b_13_a : Option Addr) (b_13_l : Nat) (b_13_c : Nat) (w : World) (R : Value → World → Prop) : sxFn Tryz.prog TT h_ref21_Same Tryz.f9 #[(.agg #[.int .i64 a_0, .int .i64 a_1, .int .i64 a_2, .int .i64 a_3, .int .i64 a_4, .int .i64 a_5, .int .i64 a_6, .int .i64 a_7, .int .i64 a_8, .int .i64 a_9, .int .i64 a_10, .int .i64 a_11, .bool a_12, .slice a_13_a a_13_l a_13_c]), (.agg #[.int .i64 b_0, .int .i64 b_1, .int .i64 b_2, .int .i64 b_3, .int .i64 b_4, .int .i64 b_5, .int .i64 b_6, .int .i64 b_7, .int .i64 b_8, .int .i64 b_9, .int .i64 b_10, .int .i64 b_11, .bool b_12, .slice b_13_a b_13_l b_13_c])] w R = F_ref21_Same a_0 a_1 a_2 a_3 a_4 a_5 a_6 a_7 a_8 a_9 a_10 a_11 a_12 a_13_a a_13_l a_13_c b_0 b_1 b_2 b_3 b_4 b_5 b_6 b_7 b_8 b_9 b_10 b_11 b_12 b_13_a b_13_l b_13_c w R := by kernel_rfl
theorem F_ref21_Same_ok {R : Ending → World → Prop} (a_0 : Int) (a_1 : Int) (a_2 : Int) (a_3 : Int) (a_4 : Int) (a_5 : Int) (a_6 : Int) (a_7 : Int) (a_8 : Int) (a_9 : Int) (a_10 : Int) (a_11 : Int) (a_12 : Bool) (a_13_a : Option Addr) (a_13_l : Nat) (a_13_c : Nat) (b_0 : Int) (b_1 : Int) (b_2 : Int) (b_3 : Int) (b_4 : Int) (b_5 : Int) (b_6 : Int) (b_7 : Int) (b_8 : Int) (b_9 : Int) (b_10 : Int) (b_11 : Int) (b_12 : Bool) (b_13_a : Option Addr) (b_13_l : Nat) (b_13_c : Nat) (w : World) (h : F_ref21_Same a_0 a_1 a_2 a_3 a_4 a_5 a_6 a_7 a_8 a_9 a_10 a_11 a_12 a_13_a a_13_l a_13_c b_0 b_1 b_2 b_3 b_4 b_5 b_6 b_7 b_8 b_9 b_10 b_11 b_12 b_13_a b_13_l b_13_c w fun v w' => R (.returned v) w') : Calls Tryz.prog N_ref21_Same #[(.agg #[.int .i64 a_0, .int .i64 a_1, .int .i64 a_2, .int .i64 a_3, .int .i64 a_4, .int .i64 a_5, .int .i64 a_6, .int .i64 a_7, .int .i64 a_8, .int .i64 a_9, .int .i64 a_10, .int .i64 a_11, .bool a_12, .slice a_13_a a_13_l a_13_c]), (.agg #[.int .i64 b_0, .int .i64 b_1, .int .i64 b_2, .int .i64 b_3, .int .i64 b_4, .int .i64 b_5, .int .i64 b_6, .int .i64 b_7, .int .i64 b_8, .int .i64 b_9, .int .i64 b_10, .int .i64 b_11, .bool b_12, .slice b_13_a b_13_l b_13_c])] w R :=
 calls_of (f := 9) follows_ok Tryz.func9 (Eq.mpr (F_ref21_Same_eq a_0 a_1 a_2 a_3 a_4 a_5 a_6 a_7 a_8 a_9 a_10 a_11 a_12 a_13_a a_13_l a_13_c b_0 b_1 b_2 b_3 b_4 b_5 b_6 b_7 b_8 b_9 b_10 b_11 b_12 b_13_a b_13_l b_13_c w _) h)

def h_law21_agree : H := (.seq .reg (.seq .reg (.seq .reg (.seq .reg (.seq .reg (.seq .reg (.seq .reg (.seq .reg (.seq .reg (.seq (.draw .blk (.one 0 .pre (.one 2 .stable (.one 1 .keep (.one 3 .keep (.one 4 .pur (.one 5 .pur (.one 6 .pur (.one 7 .pur (.one 8 .pur (.one 9 .pur (.one 10 .pur (.one 11 .pur (.one 12 .pur (.one 13 .keep (.one 14 .pur (.one 15 .pur (.one 16 .stable (.one 17 .stable (.one 18 .keep (.one 19 .pur (.one 20 .pur (.one 21 .pur (.one 22 .pur (.one 23 .pur (.one 24 .pur (.one 25 .pur (.one 26 .stable (.one 27 .stable (.one 28 .keep (.one 29 .pur (.one 30 .pur (.one 31 .pur (.one 32 .pur (.one 33 .pur (.one 34 .pur (.one 35 .pur (.one 36 .stable (.one 37 .stable (.one 38 .keep (.one 39 .pur (.one 40 .pur (.one 41 .pur (.one 42 .pur (.one 43 .pur (.one 44 .pur (.one 45 .pur (.one 46 .pur (.one 47 .pur (.one 48 .keep (.one 49 .pur (.one 50 .pur (.one 51 .stable (.one 52 .stable (.one 53 .last (.one 54 .pur (.one 55 .pur .nil))))))))))))))))))))))))))))))))))))))))))))))))))))))))) .leaf))))))))))
def F_law21_agree (r_0 : Int) (r_1 : Int) (r_2 : Int) (r_3 : Int) (r_4 : Int) (r_5 : Int) (r_6 : Int) (r_7 : Int) (r_8 : Int) (r_9 : Int) (r_10 : Int) (r_11 : Int) (r_12 : Bool) (r_13_a : Option Addr) (r_13_l : Nat) (r_13_c : Nat) (b_a : Option Addr) (b_l : Nat) (b_c : Nat) (size : Int) (w : World) (R : Value → World → Prop) : Prop :=
 (kAlloc w #[(.int .i64 r_0), (.int .i64 r_1), (.int .i64 r_2), (.int .i64 r_3), (.int .i64 r_4), (.int .i64 r_5), (.int .i64 r_6), (.int .i64 r_7), (.int .i64 r_8), (.int .i64 r_9), (.int .i64 r_10), (.int .i64 r_11), (.bool r_12), (.slice r_13_a r_13_l r_13_c)] Ty_api_Receiver fun b w1 =>
 (∃ x_0 x_1 x_2 x_3 x_4 x_5 x_6 x_7 x_8 x_9 x_10 x_11 : Int, ∃ x_12 : Bool, ∃ x_13_a : Option Addr, ∃ x_13_l x_13_c : Nat, cellsAt w1 ⟨b, 0, none⟩ 0 [(.int .i64 x_0), (.int .i64 x_1), (.int .i64 x_2), (.int .i64 x_3), (.int .i64 x_4), (.int .i64 x_5), (.int .i64 x_6), (.int .i64 x_7), (.int .i64 x_8), (.int .i64 x_9), (.int .i64 x_10), (.int .i64 x_11), (.bool x_12), (.slice x_13_a x_13_l x_13_c)] ∧
 (Calls Tryz.prog N_receiver_Receive #[(.agg #[.int .i64 x_0, .int .i64 x_1, .int .i64 x_2, .int .i64 x_3, .int .i64 x_4, .int .i64 x_5, .int .i64 x_6, .int .i64 x_7, .int .i64 x_8, .int .i64 x_9, .int .i64 x_10, .int .i64 x_11, .bool x_12, .slice x_13_a x_13_l x_13_c]), (.slice b_a b_l b_c)] w1 fun e_ w2 =>
 ∃ r_01 r_13 r_21 r_31 r_41 r_51 r_61 r_71 r_81 r_91 r_101 r_111 : Int, ∃ r_121 : Bool, ∃ r_13_a1 : Option Addr, ∃ r_13_l1 r_13_c1 : Nat, ∃ r_a : Option Addr, ∃ r_l r_c : Nat, ∃ r : Int, e_ = .returned (.tuple #[(.agg #[.int .i64 r_01, .int .i64 r_13, .int .i64 r_21, .int .i64 r_31, .int .i64 r_41, .int .i64 r_51, .int .i64 r_61, .int .i64 r_71, .int .i64 r_81, .int .i64 r_91, .int .i64 r_101, .int .i64 r_111, .bool r_121, .slice r_13_a1 r_13_l1 r_13_c1]), (.slice r_a r_l r_c), (.int .i64 r)]) ∧
 (kAlloc w2 #[.int .i64 (0 : Int), .int .i64 (0 : Int), .int .i64 (0 : Int), .int .i64 (0 : Int), .int .i64 (0 : Int), .int .i64 (0 : Int), .int .i64 (0 : Int), .int .i64 (0 : Int), .int .i64 (0 : Int), .int .i64 (0 : Int), .int .i64 (0 : Int), .int .i64 (0 : Int), .bool false, .slice none 0 0] Ty_api_Receiver fun b1 w3 =>
 (sxStore w3 ⟨b1, 0, none⟩ 0 [(.int .i64 r_01), (.int .i64 r_13), (.int .i64 r_21), (.int .i64 r_31), (.int .i64 r_41), (.int .i64 r_51), (.int .i64 r_61), (.int .i64 r_71), (.int .i64 r_81), (.int .i64 r_91), (.int .i64 r_101), (.int .i64 r_111), (.bool r_121), (.slice r_13_a1 r_13_l1 r_13_c1)] fun w4 =>
 (∃ x_01 x_13 x_21 x_31 x_41 x_51 x_61 x_71 x_81 x_91 x_101 x_111 : Int, ∃ x_121 : Bool, ∃ x_13_a1 : Option Addr, ∃ x_13_l1 x_13_c1 : Nat, cellsAt w4 ⟨b, 0, none⟩ 0 [(.int .i64 x_01), (.int .i64 x_13), (.int .i64 x_21), (.int .i64 x_31), (.int .i64 x_41), (.int .i64 x_51), (.int .i64 x_61), (.int .i64 x_71), (.int .i64 x_81), (.int .i64 x_91), (.int .i64 x_101), (.int .i64 x_111), (.bool x_121), (.slice x_13_a1 x_13_l1 x_13_c1)] ∧
 (Calls Tryz.prog N_ref21_Receive #[(.agg #[.int .i64 x_01, .int .i64 x_13, .int .i64 x_21, .int .i64 x_31, .int .i64 x_41, .int .i64 x_51, .int .i64 x_61, .int .i64 x_71, .int .i64 x_81, .int .i64 x_91, .int .i64 x_101, .int .i64 x_111, .bool x_121, .slice x_13_a1 x_13_l1 x_13_c1]), (.slice b_a b_l b_c)] w4 fun e_1 w5 =>
 ∃ r_02 r_14 r_22 r_32 r_42 r_52 r_62 r_72 r_82 r_92 r_102 r_112 : Int, ∃ r_122 : Bool, ∃ r_13_a2 : Option Addr, ∃ r_13_l2 r_13_c2 : Nat, ∃ r_a1 : Option Addr, ∃ r_l1 r_c1 : Nat, ∃ r1 : Int, e_1 = .returned (.tuple #[(.agg #[.int .i64 r_02, .int .i64 r_14, .int .i64 r_22, .int .i64 r_32, .int .i64 r_42, .int .i64 r_52, .int .i64 r_62, .int .i64 r_72, .int .i64 r_82, .int .i64 r_92, .int .i64 r_102, .int .i64 r_112, .bool r_122, .slice r_13_a2 r_13_l2 r_13_c2]), (.slice r_a1 r_l1 r_c1), (.int .i64 r1)]) ∧
 (kAlloc w5 #[.int .i64 (0 : Int), .int .i64 (0 : Int), .int .i64 (0 : Int), .int .i64 (0 : Int), .int .i64 (0 : Int), .int .i64 (0 : Int), .int .i64 (0 : Int), .int .i64 (0 : Int), .int .i64 (0 : Int), .int .i64 (0 : Int), .int .i64 (0 : Int), .int .i64 (0 : Int), .bool false, .slice none 0 0] Ty_api_Receiver fun b2 w6 =>
 (sxStore w6 ⟨b2, 0, none⟩ 0 [(.int .i64 r_02), (.int .i64 r_14), (.int .i64 r_22), (.int .i64 r_32), (.int .i64 r_42), (.int .i64 r_52), (.int .i64 r_62), (.int .i64 r_72), (.int .i64 r_82), (.int .i64 r_92), (.int .i64 r_102), (.int .i64 r_112), (.bool r_122), (.slice r_13_a2 r_13_l2 r_13_c2)] fun w7 =>
 (∃ x_02 x_14 x_22 x_32 x_42 x_52 x_62 x_72 x_82 x_92 x_102 x_112 : Int, ∃ x_122 : Bool, ∃ x_13_a2 : Option Addr, ∃ x_13_l2 x_13_c2 : Nat, cellsAt w7 ⟨b, 0, none⟩ 0 [(.int .i64 x_02), (.int .i64 x_14), (.int .i64 x_22), (.int .i64 x_32), (.int .i64 x_42), (.int .i64 x_52), (.int .i64 x_62), (.int .i64 x_72), (.int .i64 x_82), (.int .i64 x_92), (.int .i64 x_102), (.int .i64 x_112), (.bool x_122), (.slice x_13_a2 x_13_l2 x_13_c2)] ∧
 (Calls Tryz.prog N_receiver_Tick #[(.agg #[.int .i64 x_02, .int .i64 x_14, .int .i64 x_22, .int .i64 x_32, .int .i64 x_42, .int .i64 x_52, .int .i64 x_62, .int .i64 x_72, .int .i64 x_82, .int .i64 x_92, .int .i64 x_102, .int .i64 x_112, .bool x_122, .slice x_13_a2 x_13_l2 x_13_c2])] w7 fun e_2 w8 =>
 ∃ r_03 r_15 r_23 r_33 r_43 r_53 r_63 r_73 r_83 r_93 r_103 r_113 : Int, ∃ r_123 : Bool, ∃ r_13_a3 : Option Addr, ∃ r_13_l3 r_13_c3 : Nat, ∃ r2 : Int, e_2 = .returned (.tuple #[(.agg #[.int .i64 r_03, .int .i64 r_15, .int .i64 r_23, .int .i64 r_33, .int .i64 r_43, .int .i64 r_53, .int .i64 r_63, .int .i64 r_73, .int .i64 r_83, .int .i64 r_93, .int .i64 r_103, .int .i64 r_113, .bool r_123, .slice r_13_a3 r_13_l3 r_13_c3]), (.int .i64 r2)]) ∧
 (kAlloc w8 #[.int .i64 (0 : Int), .int .i64 (0 : Int), .int .i64 (0 : Int), .int .i64 (0 : Int), .int .i64 (0 : Int), .int .i64 (0 : Int), .int .i64 (0 : Int), .int .i64 (0 : Int), .int .i64 (0 : Int), .int .i64 (0 : Int), .int .i64 (0 : Int), .int .i64 (0 : Int), .bool false, .slice none 0 0] Ty_api_Receiver fun b3 w9 =>
 (sxStore w9 ⟨b3, 0, none⟩ 0 [(.int .i64 r_03), (.int .i64 r_15), (.int .i64 r_23), (.int .i64 r_33), (.int .i64 r_43), (.int .i64 r_53), (.int .i64 r_63), (.int .i64 r_73), (.int .i64 r_83), (.int .i64 r_93), (.int .i64 r_103), (.int .i64 r_113), (.bool r_123), (.slice r_13_a3 r_13_l3 r_13_c3)] fun w10 =>
 (∃ x_03 x_15 x_23 x_33 x_43 x_53 x_63 x_73 x_83 x_93 x_103 x_113 : Int, ∃ x_123 : Bool, ∃ x_13_a3 : Option Addr, ∃ x_13_l3 x_13_c3 : Nat, cellsAt w10 ⟨b, 0, none⟩ 0 [(.int .i64 x_03), (.int .i64 x_15), (.int .i64 x_23), (.int .i64 x_33), (.int .i64 x_43), (.int .i64 x_53), (.int .i64 x_63), (.int .i64 x_73), (.int .i64 x_83), (.int .i64 x_93), (.int .i64 x_103), (.int .i64 x_113), (.bool x_123), (.slice x_13_a3 x_13_l3 x_13_c3)] ∧
 (Calls Tryz.prog N_ref21_Tick #[(.agg #[.int .i64 x_03, .int .i64 x_15, .int .i64 x_23, .int .i64 x_33, .int .i64 x_43, .int .i64 x_53, .int .i64 x_63, .int .i64 x_73, .int .i64 x_83, .int .i64 x_93, .int .i64 x_103, .int .i64 x_113, .bool x_123, .slice x_13_a3 x_13_l3 x_13_c3])] w10 fun e_3 w11 =>
 ∃ r_04 r_16 r_24 r_34 r_44 r_54 r_64 r_74 r_84 r_94 r_104 r_114 : Int, ∃ r_124 : Bool, ∃ r_13_a4 : Option Addr, ∃ r_13_l4 r_13_c4 : Nat, ∃ r3 : Int, e_3 = .returned (.tuple #[(.agg #[.int .i64 r_04, .int .i64 r_16, .int .i64 r_24, .int .i64 r_34, .int .i64 r_44, .int .i64 r_54, .int .i64 r_64, .int .i64 r_74, .int .i64 r_84, .int .i64 r_94, .int .i64 r_104, .int .i64 r_114, .bool r_124, .slice r_13_a4 r_13_l4 r_13_c4]), (.int .i64 r3)]) ∧
 (kAlloc w11 #[.int .i64 (0 : Int), .int .i64 (0 : Int), .int .i64 (0 : Int), .int .i64 (0 : Int), .int .i64 (0 : Int), .int .i64 (0 : Int), .int .i64 (0 : Int), .int .i64 (0 : Int), .int .i64 (0 : Int), .int .i64 (0 : Int), .int .i64 (0 : Int), .int .i64 (0 : Int), .bool false, .slice none 0 0] Ty_api_Receiver fun b4 w12 =>
 (sxStore w12 ⟨b4, 0, none⟩ 0 [(.int .i64 r_04), (.int .i64 r_16), (.int .i64 r_24), (.int .i64 r_34), (.int .i64 r_44), (.int .i64 r_54), (.int .i64 r_64), (.int .i64 r_74), (.int .i64 r_84), (.int .i64 r_94), (.int .i64 r_104), (.int .i64 r_114), (.bool r_124), (.slice r_13_a4 r_13_l4 r_13_c4)] fun w13 =>
 (∃ x_04 x_16 x_24 x_34 x_44 x_54 x_64 x_74 x_84 x_94 x_104 x_114 : Int, ∃ x_124 : Bool, ∃ x_13_a4 : Option Addr, ∃ x_13_l4 x_13_c4 : Nat, cellsAt w13 ⟨b, 0, none⟩ 0 [(.int .i64 x_04), (.int .i64 x_16), (.int .i64 x_24), (.int .i64 x_34), (.int .i64 x_44), (.int .i64 x_54), (.int .i64 x_64), (.int .i64 x_74), (.int .i64 x_84), (.int .i64 x_94), (.int .i64 x_104), (.int .i64 x_114), (.bool x_124), (.slice x_13_a4 x_13_l4 x_13_c4)] ∧
 (Calls Tryz.prog N_receiver_Status #[(.agg #[.int .i64 x_04, .int .i64 x_16, .int .i64 x_24, .int .i64 x_34, .int .i64 x_44, .int .i64 x_54, .int .i64 x_64, .int .i64 x_74, .int .i64 x_84, .int .i64 x_94, .int .i64 x_104, .int .i64 x_114, .bool x_124, .slice x_13_a4 x_13_l4 x_13_c4])] w13 fun e_4 w14 =>
 ∃ r_05 : Int, ∃ r_1_a : Option Addr, ∃ r_1_l r_1_c : Nat, ∃ r4 : Int, e_4 = .returned (.tuple #[(.agg #[.int .i64 r_05, .slice r_1_a r_1_l r_1_c]), (.int .i64 r4)]) ∧
 (kAlloc w14 #[.int .i64 (0 : Int), .slice none 0 0] Ty_api_Status fun b5 w15 =>
 (sxStore w15 ⟨b5, 0, none⟩ 0 [(.int .i64 r_05), (.slice r_1_a r_1_l r_1_c)] fun w16 =>
 (∃ x_05 x_17 x_25 x_35 x_45 x_55 x_65 x_75 x_85 x_95 x_105 x_115 : Int, ∃ x_125 : Bool, ∃ x_13_a5 : Option Addr, ∃ x_13_l5 x_13_c5 : Nat, cellsAt w16 ⟨b, 0, none⟩ 0 [(.int .i64 x_05), (.int .i64 x_17), (.int .i64 x_25), (.int .i64 x_35), (.int .i64 x_45), (.int .i64 x_55), (.int .i64 x_65), (.int .i64 x_75), (.int .i64 x_85), (.int .i64 x_95), (.int .i64 x_105), (.int .i64 x_115), (.bool x_125), (.slice x_13_a5 x_13_l5 x_13_c5)] ∧
 (Calls Tryz.prog N_ref21_Status #[(.agg #[.int .i64 x_05, .int .i64 x_17, .int .i64 x_25, .int .i64 x_35, .int .i64 x_45, .int .i64 x_55, .int .i64 x_65, .int .i64 x_75, .int .i64 x_85, .int .i64 x_95, .int .i64 x_105, .int .i64 x_115, .bool x_125, .slice x_13_a5 x_13_l5 x_13_c5])] w16 fun e_5 w17 =>
 ∃ r_06 : Int, ∃ r_1_a1 : Option Addr, ∃ r_1_l1 r_1_c1 : Nat, ∃ r5 : Int, e_5 = .returned (.tuple #[(.agg #[.int .i64 r_06, .slice r_1_a1 r_1_l1 r_1_c1]), (.int .i64 r5)]) ∧
 (kAlloc w17 #[.int .i64 (0 : Int), .slice none 0 0] Ty_api_Status fun b6 w18 =>
 (sxStore w18 ⟨b6, 0, none⟩ 0 [(.int .i64 r_06), (.slice r_1_a1 r_1_l1 r_1_c1)] fun w19 =>
 (∃ x_06 x_18 x_26 x_36 x_46 x_56 x_66 x_76 x_86 x_96 x_106 x_116 : Int, ∃ x_126 : Bool, ∃ x_13_a6 : Option Addr, ∃ x_13_l6 x_13_c6 : Nat, cellsAt w19 ⟨b, 0, none⟩ 0 [(.int .i64 x_06), (.int .i64 x_18), (.int .i64 x_26), (.int .i64 x_36), (.int .i64 x_46), (.int .i64 x_56), (.int .i64 x_66), (.int .i64 x_76), (.int .i64 x_86), (.int .i64 x_96), (.int .i64 x_106), (.int .i64 x_116), (.bool x_126), (.slice x_13_a6 x_13_l6 x_13_c6)] ∧
 (Calls Tryz.prog N_receiver_Report #[(.agg #[.int .i64 x_06, .int .i64 x_18, .int .i64 x_26, .int .i64 x_36, .int .i64 x_46, .int .i64 x_56, .int .i64 x_66, .int .i64 x_76, .int .i64 x_86, .int .i64 x_96, .int .i64 x_106, .int .i64 x_116, .bool x_126, .slice x_13_a6 x_13_l6 x_13_c6]), (.int .i64 size)] w19 fun e_6 w20 =>
 ∃ r_07 r_17 r_25 r_35 r_45 r_55 r_65 r_75 r_85 r_95 r_105 r_115 : Int, ∃ r_125 : Bool, ∃ r_13_a5 : Option Addr, ∃ r_13_l5 r_13_c5 : Nat, ∃ r_a2 : Option Addr, ∃ r_l2 r_c2 : Nat, ∃ r6 : Int, e_6 = .returned (.tuple #[(.agg #[.int .i64 r_07, .int .i64 r_17, .int .i64 r_25, .int .i64 r_35, .int .i64 r_45, .int .i64 r_55, .int .i64 r_65, .int .i64 r_75, .int .i64 r_85, .int .i64 r_95, .int .i64 r_105, .int .i64 r_115, .bool r_125, .slice r_13_a5 r_13_l5 r_13_c5]), (.slice r_a2 r_l2 r_c2), (.int .i64 r6)]) ∧
 (kAlloc w20 #[.int .i64 (0 : Int), .int .i64 (0 : Int), .int .i64 (0 : Int), .int .i64 (0 : Int), .int .i64 (0 : Int), .int .i64 (0 : Int), .int .i64 (0 : Int), .int .i64 (0 : Int), .int .i64 (0 : Int), .int .i64 (0 : Int), .int .i64 (0 : Int), .int .i64 (0 : Int), .bool false, .slice none 0 0] Ty_api_Receiver fun b7 w21 =>
 (sxStore w21 ⟨b7, 0, none⟩ 0 [(.int .i64 r_07), (.int .i64 r_17), (.int .i64 r_25), (.int .i64 r_35), (.int .i64 r_45), (.int .i64 r_55), (.int .i64 r_65), (.int .i64 r_75), (.int .i64 r_85), (.int .i64 r_95), (.int .i64 r_105), (.int .i64 r_115), (.bool r_125), (.slice r_13_a5 r_13_l5 r_13_c5)] fun w22 =>
 (∃ x_07 x_19 x_27 x_37 x_47 x_57 x_67 x_77 x_87 x_97 x_107 x_117 : Int, ∃ x_127 : Bool, ∃ x_13_a7 : Option Addr, ∃ x_13_l7 x_13_c7 : Nat, cellsAt w22 ⟨b, 0, none⟩ 0 [(.int .i64 x_07), (.int .i64 x_19), (.int .i64 x_27), (.int .i64 x_37), (.int .i64 x_47), (.int .i64 x_57), (.int .i64 x_67), (.int .i64 x_77), (.int .i64 x_87), (.int .i64 x_97), (.int .i64 x_107), (.int .i64 x_117), (.bool x_127), (.slice x_13_a7 x_13_l7 x_13_c7)] ∧
 (Calls Tryz.prog N_ref21_Report #[(.agg #[.int .i64 x_07, .int .i64 x_19, .int .i64 x_27, .int .i64 x_37, .int .i64 x_47, .int .i64 x_57, .int .i64 x_67, .int .i64 x_77, .int .i64 x_87, .int .i64 x_97, .int .i64 x_107, .int .i64 x_117, .bool x_127, .slice x_13_a7 x_13_l7 x_13_c7]), (.int .i64 size)] w22 fun e_7 w23 =>
 ∃ r_08 r_18 r_26 r_36 r_46 r_56 r_66 r_76 r_86 r_96 r_106 r_116 : Int, ∃ r_126 : Bool, ∃ r_13_a6 : Option Addr, ∃ r_13_l6 r_13_c6 : Nat, ∃ r_a3 : Option Addr, ∃ r_l3 r_c3 : Nat, ∃ r7 : Int, e_7 = .returned (.tuple #[(.agg #[.int .i64 r_08, .int .i64 r_18, .int .i64 r_26, .int .i64 r_36, .int .i64 r_46, .int .i64 r_56, .int .i64 r_66, .int .i64 r_76, .int .i64 r_86, .int .i64 r_96, .int .i64 r_106, .int .i64 r_116, .bool r_126, .slice r_13_a6 r_13_l6 r_13_c6]), (.slice r_a3 r_l3 r_c3), (.int .i64 r7)]) ∧
 (kAlloc w23 #[.int .i64 (0 : Int), .int .i64 (0 : Int), .int .i64 (0 : Int), .int .i64 (0 : Int), .int .i64 (0 : Int), .int .i64 (0 : Int), .int .i64 (0 : Int), .int .i64 (0 : Int), .int .i64 (0 : Int), .int .i64 (0 : Int), .int .i64 (0 : Int), .int .i64 (0 : Int), .bool false, .slice none 0 0] Ty_api_Receiver fun b8 w24 =>
 (sxStore w24 ⟨b8, 0, none⟩ 0 [(.int .i64 r_08), (.int .i64 r_18), (.int .i64 r_26), (.int .i64 r_36), (.int .i64 r_46), (.int .i64 r_56), (.int .i64 r_66), (.int .i64 r_76), (.int .i64 r_86), (.int .i64 r_96), (.int .i64 r_106), (.int .i64 r_116), (.bool r_126), (.slice r_13_a6 r_13_l6 r_13_c6)] fun w25 =>
 (kDrew w25 fun w26 =>
 (∃ S : Nat → Prop,
 (∃ x_08 x_110 x_28 x_38 x_48 x_58 x_68 x_78 x_88 x_98 x_108 x_118 : Int, ∃ x_128 : Bool, ∃ x_13_a8 : Option Addr, ∃ x_13_l8 x_13_c8 : Nat, cellsAt w26 ⟨b, 0, none⟩ 0 [(.int .i64 x_08), (.int .i64 x_110), (.int .i64 x_28), (.int .i64 x_38), (.int .i64 x_48), (.int .i64 x_58), (.int .i64 x_68), (.int .i64 x_78), (.int .i64 x_88), (.int .i64 x_98), (.int .i64 x_108), (.int .i64 x_118), (.bool x_128), (.slice x_13_a8 x_13_l8 x_13_c8)] ∧
 (S b ∧
 (∃ x_09 x_119 x_29 x_39 x_49 x_59 x_69 x_79 x_89 x_99 x_109 x_1110 : Int, ∃ x_129 : Bool, ∃ x_13_a9 : Option Addr, ∃ x_13_l9 x_13_c9 : Nat, cellsAt w26 ⟨b, 0, none⟩ 0 [(.int .i64 x_09), (.int .i64 x_119), (.int .i64 x_29), (.int .i64 x_39), (.int .i64 x_49), (.int .i64 x_59), (.int .i64 x_69), (.int .i64 x_79), (.int .i64 x_89), (.int .i64 x_99), (.int .i64 x_109), (.int .i64 x_1110), (.bool x_129), (.slice x_13_a9 x_13_l9 x_13_c9)] ∧
 (Calls Tryz.prog N_receiver_Valid #[(.agg #[.int .i64 x_08, .int .i64 x_110, .int .i64 x_28, .int .i64 x_38, .int .i64 x_48, .int .i64 x_58, .int .i64 x_68, .int .i64 x_78, .int .i64 x_88, .int .i64 x_98, .int .i64 x_108, .int .i64 x_118, .bool x_128, .slice x_13_a8 x_13_l8 x_13_c8])] w26 fun e_8 w27 =>
 ∃ r8 : Bool, e_8 = .returned (.bool r8) ∧
 (KeepsB S w26 w27 ∧ (Calls Tryz.prog N_ref21_Valid #[(.agg #[.int .i64 x_09, .int .i64 x_119, .int .i64 x_29, .int .i64 x_39, .int .i64 x_49, .int .i64 x_59, .int .i64 x_69, .int .i64 x_79, .int .i64 x_89, .int .i64 x_99, .int .i64 x_109, .int .i64 x_1110, .bool x_129, .slice x_13_a9 x_13_l9 x_13_c9])] w27 fun e_9 w28 =>
 ∃ r9 : Bool, e_9 = .returned (.bool r9) ∧
 (KeepsB S w26 w28 ∧ (bsplit (r8 == r9)
 ((bsplit (decide (r = r1))
 ((Calls Tryz.prog N_ref01_Same #[(.slice r_a r_l r_c), (.slice r_a1 r_l1 r_c1)] w28 fun e_10 w29 =>
 ∃ r10 : Bool, e_10 = .returned (.bool r10) ∧
 (KeepsB S w26 w29 ∧ (bsplit r10
 ((S b1 ∧
 (∃ x_010 x_120 x_210 x_310 x_410 x_510 x_610 x_710 x_810 x_910 x_1010 x_1111 : Int, ∃ x_1210 : Bool, ∃ x_13_a10 : Option Addr, ∃ x_13_l10 x_13_c10 : Nat, cellsAt w26 ⟨b1, 0, none⟩ 0 [(.int .i64 x_010), (.int .i64 x_120), (.int .i64 x_210), (.int .i64 x_310), (.int .i64 x_410), (.int .i64 x_510), (.int .i64 x_610), (.int .i64 x_710), (.int .i64 x_810), (.int .i64 x_910), (.int .i64 x_1010), (.int .i64 x_1111), (.bool x_1210), (.slice x_13_a10 x_13_l10 x_13_c10)] ∧
 (S b2 ∧
 (∃ x_011 x_130 x_211 x_311 x_411 x_511 x_611 x_711 x_811 x_911 x_1011 x_1112 : Int, ∃ x_1211 : Bool, ∃ x_13_a11 : Option Addr, ∃ x_13_l11 x_13_c11 : Nat, cellsAt w26 ⟨b2, 0, none⟩ 0 [(.int .i64 x_011), (.int .i64 x_130), (.int .i64 x_211), (.int .i64 x_311), (.int .i64 x_411), (.int .i64 x_511), (.int .i64 x_611), (.int .i64 x_711), (.int .i64 x_811), (.int .i64 x_911), (.int .i64 x_1011), (.int .i64 x_1112), (.bool x_1211), (.slice x_13_a11 x_13_l11 x_13_c11)] ∧
 (Calls Tryz.prog N_ref21_Same #[(.agg #[.int .i64 x_010, .int .i64 x_120, .int .i64 x_210, .int .i64 x_310, .int .i64 x_410, .int .i64 x_510, .int .i64 x_610, .int .i64 x_710, .int .i64 x_810, .int .i64 x_910, .int .i64 x_1010, .int .i64 x_1111, .bool x_1210, .slice x_13_a10 x_13_l10 x_13_c10]), (.agg #[.int .i64 x_011, .int .i64 x_130, .int .i64 x_211, .int .i64 x_311, .int .i64 x_411, .int .i64 x_511, .int .i64 x_611, .int .i64 x_711, .int .i64 x_811, .int .i64 x_911, .int .i64 x_1011, .int .i64 x_1112, .bool x_1211, .slice x_13_a11 x_13_l11 x_13_c11])] w29 fun e_11 w30 =>
 ∃ r11 : Bool, e_11 = .returned (.bool r11) ∧
 (KeepsB S w26 w30 ∧ (bsplit r11
 ((bsplit (decide (r2 = r3))
 ((S b3 ∧
 (∃ x_012 x_131 x_212 x_312 x_412 x_512 x_612 x_712 x_812 x_912 x_1012 x_1113 : Int, ∃ x_1212 : Bool, ∃ x_13_a12 : Option Addr, ∃ x_13_l12 x_13_c12 : Nat, cellsAt w26 ⟨b3, 0, none⟩ 0 [(.int .i64 x_012), (.int .i64 x_131), (.int .i64 x_212), (.int .i64 x_312), (.int .i64 x_412), (.int .i64 x_512), (.int .i64 x_612), (.int .i64 x_712), (.int .i64 x_812), (.int .i64 x_912), (.int .i64 x_1012), (.int .i64 x_1113), (.bool x_1212), (.slice x_13_a12 x_13_l12 x_13_c12)] ∧
 (S b4 ∧
 (∃ x_013 x_132 x_213 x_313 x_413 x_513 x_613 x_713 x_813 x_913 x_1013 x_1114 : Int, ∃ x_1213 : Bool, ∃ x_13_a13 : Option Addr, ∃ x_13_l13 x_13_c13 : Nat, cellsAt w26 ⟨b4, 0, none⟩ 0 [(.int .i64 x_013), (.int .i64 x_132), (.int .i64 x_213), (.int .i64 x_313), (.int .i64 x_413), (.int .i64 x_513), (.int .i64 x_613), (.int .i64 x_713), (.int .i64 x_813), (.int .i64 x_913), (.int .i64 x_1013), (.int .i64 x_1114), (.bool x_1213), (.slice x_13_a13 x_13_l13 x_13_c13)] ∧
 (Calls Tryz.prog N_ref21_Same #[(.agg #[.int .i64 x_012, .int .i64 x_131, .int .i64 x_212, .int .i64 x_312, .int .i64 x_412, .int .i64 x_512, .int .i64 x_612, .int .i64 x_712, .int .i64 x_812, .int .i64 x_912, .int .i64 x_1012, .int .i64 x_1113, .bool x_1212, .slice x_13_a12 x_13_l12 x_13_c12]), (.agg #[.int .i64 x_013, .int .i64 x_132, .int .i64 x_213, .int .i64 x_313, .int .i64 x_413, .int .i64 x_513, .int .i64 x_613, .int .i64 x_713, .int .i64 x_813, .int .i64 x_913, .int .i64 x_1013, .int .i64 x_1114, .bool x_1213, .slice x_13_a13 x_13_l13 x_13_c13])] w30 fun e_12 w31 =>
 ∃ r12 : Bool, e_12 = .returned (.bool r12) ∧
 (KeepsB S w26 w31 ∧ (bsplit r12
 ((bsplit (decide (r4 = r5))
 ((S b5 ∧
 (∃ x_014 : Int, ∃ x_1_a : Option Addr, ∃ x_1_l x_1_c : Nat, cellsAt w26 ⟨b5, 0, none⟩ 0 [(.int .i64 x_014), (.slice x_1_a x_1_l x_1_c)] ∧
 (S b6 ∧
 (∃ x_015 : Int, ∃ x_1_a1 : Option Addr, ∃ x_1_l1 x_1_c1 : Nat, cellsAt w26 ⟨b6, 0, none⟩ 0 [(.int .i64 x_015), (.slice x_1_a1 x_1_l1 x_1_c1)] ∧
 (Calls Tryz.prog N_ref19_Same #[(.agg #[.int .i64 x_014, .slice x_1_a x_1_l x_1_c]), (.agg #[.int .i64 x_015, .slice x_1_a1 x_1_l1 x_1_c1])] w31 fun e_13 w32 =>
 ∃ r13 : Bool, e_13 = .returned (.bool r13) ∧
 (KeepsB S w26 w32 ∧ (bsplit r13
 ((bsplit (decide (r6 = r7))
 ((Calls Tryz.prog N_ref01_Same #[(.slice r_a2 r_l2 r_c2), (.slice r_a3 r_l3 r_c3)] w32 fun e_14 w33 =>
 ∃ r14 : Bool, e_14 = .returned (.bool r14) ∧
 (KeepsB S w26 w33 ∧ (bsplit r14
 ((S b7 ∧
 (∃ x_016 x_133 x_214 x_314 x_414 x_514 x_614 x_714 x_814 x_914 x_1014 x_1115 : Int, ∃ x_1214 : Bool, ∃ x_13_a14 : Option Addr, ∃ x_13_l14 x_13_c14 : Nat, cellsAt w26 ⟨b7, 0, none⟩ 0 [(.int .i64 x_016), (.int .i64 x_133), (.int .i64 x_214), (.int .i64 x_314), (.int .i64 x_414), (.int .i64 x_514), (.int .i64 x_614), (.int .i64 x_714), (.int .i64 x_814), (.int .i64 x_914), (.int .i64 x_1014), (.int .i64 x_1115), (.bool x_1214), (.slice x_13_a14 x_13_l14 x_13_c14)] ∧
 (S b8 ∧
 (∃ x_017 x_134 x_215 x_315 x_415 x_515 x_615 x_715 x_815 x_915 x_1015 x_1116 : Int, ∃ x_1215 : Bool, ∃ x_13_a15 : Option Addr, ∃ x_13_l15 x_13_c15 : Nat, cellsAt w26 ⟨b8, 0, none⟩ 0 [(.int .i64 x_017), (.int .i64 x_134), (.int .i64 x_215), (.int .i64 x_315), (.int .i64 x_415), (.int .i64 x_515), (.int .i64 x_615), (.int .i64 x_715), (.int .i64 x_815), (.int .i64 x_915), (.int .i64 x_1015), (.int .i64 x_1116), (.bool x_1215), (.slice x_13_a15 x_13_l15 x_13_c15)] ∧
 (Calls Tryz.prog N_ref21_Same #[(.agg #[.int .i64 x_016, .int .i64 x_133, .int .i64 x_214, .int .i64 x_314, .int .i64 x_414, .int .i64 x_514, .int .i64 x_614, .int .i64 x_714, .int .i64 x_814, .int .i64 x_914, .int .i64 x_1014, .int .i64 x_1115, .bool x_1214, .slice x_13_a14 x_13_l14 x_13_c14]), (.agg #[.int .i64 x_017, .int .i64 x_134, .int .i64 x_215, .int .i64 x_315, .int .i64 x_415, .int .i64 x_515, .int .i64 x_615, .int .i64 x_715, .int .i64 x_815, .int .i64 x_915, .int .i64 x_1015, .int .i64 x_1116, .bool x_1215, .slice x_13_a15 x_13_l15 x_13_c15])] w33 fun e_15 w34 =>
 ∃ r15 : Bool, e_15 = .returned (.bool r15) ∧
 R (.bool r15) w34))))))
 (R (.bool false) w33)))))
 (R (.bool false) w32)))
 (R (.bool false) w32)))))))))
 (R (.bool false) w31)))
 (R (.bool false) w31)))))))))
 (R (.bool false) w30)))
 (R (.bool false) w30)))))))))
 (R (.bool false) w29)))))
 (R (.bool false) w28)))
 (R (.bool false) w28))))))))))))))))))))))))))))))))))))))))))))
theorem F_law21_agree_eq (r_0 : Int) (r_1 : Int) (r_2 : Int) (r_3 : Int) (r_4 : Int) (r_5 : Int) (r_6 : Int) (r_7 : Int) (r_8 : Int) (r_9 : Int) (r_10 : Int) (r_11 : Int) (r_12 : Bool) (r_13_a : Option Addr) (r_13_l : Nat) (r_13_c : Nat) (b_a : Option Addr) (b_l : Nat) (b_c : Nat) (size : Int) (w : World) (R : Value → World → Prop) : sxFn Tryz.prog TT h_law21_agree Tryz.f10 #[(.agg #[.int .i64 r_0, .int .i64 r_1, .int .i64 r_2, .int .i64 r_3, .int .i64 r_4, .int .i64 r_5, .int .i64 r_6, .int .i64 r_7, .int .i64 r_8, .int .i64 r_9, .int .i64 r_10, .int .i64 r_11, .bool r_12, .slice r_13_a r_13_l r_13_c]), (.slice b_a b_l b_c), (.int .i64 size)] w R = F_law21_agree r_0 r_1 r_2 r_3 r_4 r_5 r_6 r_7 r_8 r_9 r_10 r_11 r_12 r_13_a r_13_l r_13_c b_a b_l b_c size w R := by kernel_rfl
theorem F_law21_agree_ok {R : Ending → World → Prop} (r_0 : Int) (r_1 : Int) (r_2 : Int) (r_3 : Int) (r_4 : Int) (r_5 : Int) (r_6 : Int) (r_7 : Int) (r_8 : Int) (r_9 : Int) (r_10 : Int) (r_11 : Int) (r_12 : Bool) (r_13_a : Option Addr) (r_13_l : Nat) (r_13_c : Nat) (b_a : Option Addr) (b_l : Nat) (b_c : Nat) (size : Int) (w : World) (h : F_law21_agree r_0 r_1 r_2 r_3 r_4 r_5 r_6 r_7 r_8 r_9 r_10 r_11 r_12 r_13_a r_13_l r_13_c b_a b_l b_c size w fun v w' => R (.returned v) w') : Calls Tryz.prog N_law21_agree #[(.agg #[.int .i64 r_0, .int .i64 r_1, .int .i64 r_2, .int .i64 r_3, .int .i64 r_4, .int .i64 r_5, .int .i64 r_6, .int .i64 r_7, .int .i64 r_8, .int .i64 r_9, .int .i64 r_10, .int .i64 r_11, .bool r_12, .slice r_13_a r_13_l r_13_c]), (.slice b_a b_l b_c), (.int .i64 size)] w R :=
 calls_of (f := 10) follows_ok Tryz.func10 (Eq.mpr (F_law21_agree_eq r_0 r_1 r_2 r_3 r_4 r_5 r_6 r_7 r_8 r_9 r_10 r_11 r_12 r_13_a r_13_l r_13_c b_a b_l b_c size w _) h)

def h_ref18_Encode : H := (.seq .reg (.seq (.seq .reg (.cond (.seq .reg .leaf) .leaf)) (.seq .reg (.seq (.seq .reg (.cond .reg .leaf)) (.seq .reg .leaf)))))
def F_ref18_Encode (bits : Int) (p_0 : Int) (p_1 : Int) (p_2 : Int) (p_3 : Int) (p_4_a : Option Addr) (p_4_l : Nat) (p_4_c : Nat) (w : World) (R : Value → World → Prop) : Prop :=
 (kAlloc w #[(.int .i64 p_0), (.int .i64 p_1), (.int .i64 p_2), (.int .i64 p_3), (.slice p_4_a p_4_l p_4_c)] Ty_api_Piece fun b w1 =>
 (∃ x_0 x_1 x_2 x_3 : Int, ∃ x_4_a : Option Addr, ∃ x_4_l x_4_c : Nat, cellsAt w1 ⟨b, 0, none⟩ 0 [(.int .i64 x_0), (.int .i64 x_1), (.int .i64 x_2), (.int .i64 x_3), (.slice x_4_a x_4_l x_4_c)] ∧
 (Calls Tryz.prog N_ref18_Valid #[(.int .i64 bits), (.agg #[.int .i64 x_0, .int .i64 x_1, .int .i64 x_2, .int .i64 x_3, .slice x_4_a x_4_l x_4_c])] w1 fun e_ w2 =>
 ∃ r : Bool, e_ = .returned (.bool r) ∧
 (bsplit (!r)
 (R (.tuple #[(.slice none 0 0), (.int .i64 (1 : Int))]) w2)
 ((kLd w2 ⟨b, 2, none⟩ .i64 fun x =>
 (kW .i64 ((16384 : Int) * x) fun x1 =>
 (kW .i64 ((32768 : Int) + x1) fun x2 =>
 (kLd w2 ⟨b, 1, none⟩ .i64 fun x3 =>
 (kW .i64 ((4096 : Int) * x3) fun x4 =>
 (kW .i64 (x2 + x4) fun x5 =>
 (kLd w2 ⟨b, 0, none⟩ .i64 fun x6 =>
 (kW .i64 (x5 + x6) fun x7 =>
 (Calls Tryz.prog N_ref01_Put #[(.slice none 0 0), (.int .i64 (2 : Int)), (.int .i64 x7)] w2 fun e_1 w3 =>
 ∃ r_a : Option Addr, ∃ r_l r_c : Nat, e_1 = .returned (.slice r_a r_l r_c) ∧
 (kLd w3 ⟨b, 1, none⟩ .i64 fun x8 =>
 (Calls Tryz.prog N_ref18_Head #[(.int .i64 x8)] w3 fun e_2 w4 =>
 ∃ r1 : Int, e_2 = .returned (.int .i64 r1) ∧
 (bsplit (decide (r1 = (4 : Int)))
 ((kLd w4 ⟨b, 3, none⟩ .i64 fun x9 =>
 (Calls Tryz.prog N_ref01_Put #[(.slice r_a r_l r_c), (.int .i64 (2 : Int)), (.int .i64 x9)] w4 fun e_3 w5 =>
 ∃ r_a1 : Option Addr, ∃ r_l1 r_c1 : Nat, e_3 = .returned (.slice r_a1 r_l1 r_c1) ∧
 (kLdS w5 ⟨b, 4, none⟩ fun x_a x_l x_c =>
 (AppP Tryz.prog #[Ty_S_uint8, Ty_S_uint8] Ty_S_uint8 #[(.slice r_a1 r_l1 r_c1), (.slice x_a x_l x_c)] w5 fun x_a1 x_l1 x_c1 w6 =>
 R (.tuple #[(.slice x_a1 x_l1 x_c1), (.int .i64 (0 : Int))]) w6)))))
 ((kLdS w4 ⟨b, 4, none⟩ fun x_a2 x_l2 x_c2 =>
 (AppP Tryz.prog #[Ty_S_uint8, Ty_S_uint8] Ty_S_uint8 #[(.slice r_a r_l r_c), (.slice x_a2 x_l2 x_c2)] w4 fun x_a3 x_l3 x_c3 w7 =>
 R (.tuple #[(.slice x_a3 x_l3 x_c3), (.int .i64 (0 : Int))]) w7))))))))))))))))))))
theorem F_ref18_Encode_eq (bits : Int) (p_0 : Int) (p_1 : Int) (p_2 : Int) (p_3 : Int) (p_4_a : Option Addr) (p_4_l : Nat) (p_4_c : Nat) (w : World) (R : Value → World → Prop) : sxFn Tryz.prog TT h_ref18_Encode Tryz.f14 #[(.int .i64 bits), (.agg #[.int .i64 p_0, .int .i64 p_1, .int .i64 p_2, .int .i64 p_3, .slice p_4_a p_4_l p_4_c])] w R = F_ref18_Encode bits p_0 p_1 p_2 p_3 p_4_a p_4_l p_4_c w R := by kernel_rfl
theorem F_ref18_Encode_ok {R : Ending → World → Prop} (bits : Int) (p_0 : Int) (p_1 : Int) (p_2 : Int) (p_3 : Int) (p_4_a : Option Addr) (p_4_l : Nat) (p_4_c : Nat) (w : World) (h : F_ref18_Encode bits p_0 p_1 p_2 p_3 p_4_a p_4_l p_4_c w fun v w' => R (.returned v) w') : Calls Tryz.prog N_ref18_Encode #[(.int .i64 bits), (.agg #[.int .i64 p_0, .int .i64 p_1, .int .i64 p_2, .int .i64 p_3, .slice p_4_a p_4_l p_4_c])] w R :=
 calls_of (f := 14) follows_ok Tryz.func14 (Eq.mpr (F_ref18_Encode_eq bits p_0 p_1 p_2 p_3 p_4_a p_4_l p_4_c w _) h)

def h_receiver_Receive : H := (.seq .reg (.seq (.seq .reg (.cond (.seq .reg .leaf) .leaf)) (.seq .reg (.seq .reg (.seq (.seq .reg (.cond (.seq .reg .leaf) .leaf)) (.cut [(10, .p .addr)] [10, 37, 38, 39, 40, 41, 42, 43, 44, 45, 46, 47] (.draw .blk (.one 0 .stable (.one 1 .stable (.one 2 .stable (.one 3 .stable (.one 4 .stable (.one 5 .stable (.one 6 .stable (.one 7 .stable (.one 8 .stable (.alt 9 (.alt 10 (.one 11 .keep (.one 12 .last .nil)) (.alt 11 (.one 10 .keep (.one 12 .last .nil)) .endAlt)) (.alt 11 (.one 9 .keep (.one 10 .keep (.one 12 .last .nil))) .endAlt)))))))))))) (.seq (.draw .blk (.one 0 .stable (.one 1 .stable (.one 2 .stable (.one 3 .stable (.one 4 .stable (.one 5 .pre (.one 6 .pre (.one 7 .pre (.one 8 .pre (.one 10 .stable (.one 9 .keep (.one 11 .keep (.one 12 .stable (.one 13 .stable (.one 14 .stable (.one 15 .stable (.one 16 .stable .nil)))))))))))))))))) (.seq (.seq .reg (.seq .reg (.cond (.seq .reg (.seq .reg .leaf)) .leaf))) (.cut [] [78, 79, 80, 81, 82, 83, 84, 85, 86, 87, 88, 89, 90, 91, 92, 93, 94, 95] (.seq .reg (.cond (.draw .blk (.one 0 .stable (.one 1 .stable (.one 2 .stable (.one 3 .stable (.one 4 .stable (.one 5 .stable (.one 6 .stable (.one 7 .pre (.one 8 .pre (.one 9 .pre (.one 10 .keep (.one 11 .keep (.one 12 .keep (.one 13 .stable (.one 14 .stable (.one 15 .stable (.one 16 .last .nil)))))))))))))))))) .leaf)) (.cut [] [96, 97, 98, 99, 100, 101, 102, 103, 104, 105, 106, 107, 108, 109, 110, 111, 112, 113, 114, 115, 116, 117] (.seq (.draw .blk (.one 0 .pre (.one 1 .pre (.one 2 .pre (.one 3 .pre (.one 5 .stable (.one 6 .stable (.one 7 .stable (.one 8 .stable (.one 9 .stable (.one 10 .stable (.one 4 .keep (.one 11 .keep (.one 12 .stable .nil)))))))))))))) (.cond (.draw .blk (.one 0 .stable (.one 1 .pre (.one 2 .pre (.one 3 .pre (.one 4 .pre (.one 5 .keep (.one 6 .stable (.one 7 .stable (.one 8 .stable (.one 9 .last .nil))))))))))) .leaf)) (.seq .reg (.seq .reg (.seq .reg (.cut [(15, .p .slice)] [15, 128, 129, 130, 131, 132, 133, 134, 135, 136, 137, 138, 139, 140, 141] (.seq .reg (.cond (.seq .reg .reg) .leaf)) (.seq .reg (.seq .reg (.seq .reg (.seq .reg .leaf))))))))))))))))))
def F_receiver_Receive (r_0 : Int) (r_1 : Int) (r_2 : Int) (r_3 : Int) (r_4 : Int) (r_5 : Int) (r_6 : Int) (r_7 : Int) (r_8 : Int) (r_9 : Int) (r_10 : Int) (r_11 : Int) (r_12 : Bool) (r_13_a : Option Addr) (r_13_l : Nat) (r_13_c : Nat) (b_a : Option Addr) (b_l : Nat) (b_c : Nat) (w : World) (R : Value → World → Prop) : Prop :=
 (kAlloc w #[(.int .i64 r_0), (.int .i64 r_1), (.int .i64 r_2), (.int .i64 r_3), (.int .i64 r_4), (.int .i64 r_5), (.int .i64 r_6), (.int .i64 r_7), (.int .i64 r_8), (.int .i64 r_9), (.int .i64 r_10), (.int .i64 r_11), (.bool r_12), (.slice r_13_a r_13_l r_13_c)] Ty_api_Receiver fun b w1 =>
 (kAlloc w1 #[.int .i64 (0 : Int), .int .i64 (0 : Int), .int .i64 (0 : Int), .int .i64 (0 : Int), .int .i64 (0 : Int), .int .i64 (0 : Int), .int .i64 (0 : Int), .int .i64 (0 : Int), .int .i64 (0 : Int), .int .i64 (0 : Int), .int .i64 (0 : Int), .int .i64 (0 : Int), .bool false, .slice none 0 0] Ty_api_Receiver fun b1 w2 =>
 (∃ x_0 x_1 x_2 x_3 x_4 x_5 x_6 x_7 x_8 x_9 x_10 x_11 : Int, ∃ x_12 : Bool, ∃ x_13_a : Option Addr, ∃ x_13_l x_13_c : Nat, cellsAt w2 ⟨b, 0, none⟩ 0 [(.int .i64 x_0), (.int .i64 x_1), (.int .i64 x_2), (.int .i64 x_3), (.int .i64 x_4), (.int .i64 x_5), (.int .i64 x_6), (.int .i64 x_7), (.int .i64 x_8), (.int .i64 x_9), (.int .i64 x_10), (.int .i64 x_11), (.bool x_12), (.slice x_13_a x_13_l x_13_c)] ∧
 (Calls Tryz.prog N_receiver_Valid #[(.agg #[.int .i64 x_0, .int .i64 x_1, .int .i64 x_2, .int .i64 x_3, .int .i64 x_4, .int .i64 x_5, .int .i64 x_6, .int .i64 x_7, .int .i64 x_8, .int .i64 x_9, .int .i64 x_10, .int .i64 x_11, .bool x_12, .slice x_13_a x_13_l x_13_c])] w2 fun e_ w3 =>
 ∃ r : Bool, e_ = .returned (.bool r) ∧
 (bsplit (!r)
 ((sxStore w3 ⟨b1, 0, none⟩ 0 [(.int .i64 (0 : Int)), (.int .i64 (0 : Int)), (.int .i64 (0 : Int)), (.int .i64 (0 : Int)), (.int .i64 (0 : Int)), (.int .i64 (0 : Int)), (.int .i64 (0 : Int)), (.int .i64 (0 : Int)), (.int .i64 (0 : Int)), (.int .i64 (0 : Int)), (.int .i64 (0 : Int)), (.int .i64 (0 : Int)), (.bool false), (.slice none 0 0)] fun w4 =>
 (∃ r_01 r_13 r_21 r_31 r_41 r_51 r_61 r_71 r_81 r_91 r_101 r_111 : Int, ∃ r_121 : Bool, ∃ r_13_a1 : Option Addr, ∃ r_13_l1 r_13_c1 : Nat, cellsAt w4 ⟨b1, 0, none⟩ 0 [(.int .i64 r_01), (.int .i64 r_13), (.int .i64 r_21), (.int .i64 r_31), (.int .i64 r_41), (.int .i64 r_51), (.int .i64 r_61), (.int .i64 r_71), (.int .i64 r_81), (.int .i64 r_91), (.int .i64 r_101), (.int .i64 r_111), (.bool r_121), (.slice r_13_a1 r_13_l1 r_13_c1)] ∧
 R (.tuple #[(.agg #[.int .i64 r_01, .int .i64 r_13, .int .i64 r_21, .int .i64 r_31, .int .i64 r_41, .int .i64 r_51, .int .i64 r_61, .int .i64 r_71, .int .i64 r_81, .int .i64 r_91, .int .i64 r_101, .int .i64 r_111, .bool r_121, .slice r_13_a1 r_13_l1 r_13_c1]), (.slice none 0 0), (.int .i64 (1 : Int))]) w4)))
 ((∃ x_01 x_13 x_21 x_31 x_41 x_51 x_61 x_71 x_81 x_91 x_101 x_111 : Int, ∃ x_121 : Bool, ∃ x_13_a1 : Option Addr, ∃ x_13_l1 x_13_c1 : Nat, cellsAt w3 ⟨b, 0, none⟩ 0 [(.int .i64 x_01), (.int .i64 x_13), (.int .i64 x_21), (.int .i64 x_31), (.int .i64 x_41), (.int .i64 x_51), (.int .i64 x_61), (.int .i64 x_71), (.int .i64 x_81), (.int .i64 x_91), (.int .i64 x_101), (.int .i64 x_111), (.bool x_121), (.slice x_13_a1 x_13_l1 x_13_c1)] ∧
 (Calls Tryz.prog N_receiver_begin #[(.agg #[.int .i64 x_01, .int .i64 x_13, .int .i64 x_21, .int .i64 x_31, .int .i64 x_41, .int .i64 x_51, .int .i64 x_61, .int .i64 x_71, .int .i64 x_81, .int .i64 x_91, .int .i64 x_101, .int .i64 x_111, .bool x_121, .slice x_13_a1 x_13_l1 x_13_c1])] w3 fun e_1 w5 =>
 ∃ r1 : Option Addr, e_1 = .returned (.pointer r1) ∧
 (kAlloc w5 #[.pointer none] Ty_P_receiver_side fun b2 w6 =>
 (kSet w6 ⟨b2, 0, none⟩ (.pointer r1) fun w7 =>
 (kLd w7 ⟨b, 0, none⟩ .i64 fun x =>
 (Calls Tryz.prog N_segment_Decode #[(.int .i64 x), (.slice b_a b_l b_c)] w7 fun e_2 w8 =>
 ∃ r_02 r_14 r_22 r_32 : Int, ∃ r_4_a : Option Addr, ∃ r_4_l r_4_c : Nat, ∃ r2 : Int, e_2 = .returned (.tuple #[(.agg #[.int .i64 r_02, .int .i64 r_14, .int .i64 r_22, .int .i64 r_32, .slice r_4_a r_4_l r_4_c]), (.int .i64 r2)]) ∧
 (kAlloc w8 #[.int .i64 (0 : Int), .int .i64 (0 : Int), .int .i64 (0 : Int), .int .i64 (0 : Int), .slice none 0 0] Ty_api_Piece fun b3 w9 =>
 (sxStore w9 ⟨b3, 0, none⟩ 0 [(.int .i64 r_02), (.int .i64 r_14), (.int .i64 r_22), (.int .i64 r_32), (.slice r_4_a r_4_l r_4_c)] fun w10 =>
 (bsplit (!decide (r2 = (0 : Int)))
 ((∃ x1 : Option Addr, w10.cell? ⟨b2, 0, none⟩ = some (.pointer x1) ∧
 (kNil x1 fun x2 =>
 (∃ x_02 x_14 x_22 x_32 x_42 x_52 x_62 x_72 x_82 x_92 x_102 x_112 : Int, ∃ x_122 : Bool, ∃ x_13_a2 : Option Addr, ∃ x_13_l2 x_13_c2 : Nat, cellsAt w10 x2 0 [(.int .i64 x_02), (.int .i64 x_14), (.int .i64 x_22), (.int .i64 x_32), (.int .i64 x_42), (.int .i64 x_52), (.int .i64 x_62), (.int .i64 x_72), (.int .i64 x_82), (.int .i64 x_92), (.int .i64 x_102), (.int .i64 x_112), (.bool x_122), (.slice x_13_a2 x_13_l2 x_13_c2)] ∧
 (sxStore w10 ⟨b1, 0, none⟩ 0 [(.int .i64 x_02), (.int .i64 x_14), (.int .i64 x_22), (.int .i64 x_32), (.int .i64 x_42), (.int .i64 x_52), (.int .i64 x_62), (.int .i64 x_72), (.int .i64 x_82), (.int .i64 x_92), (.int .i64 x_102), (.int .i64 x_112), (.bool x_122), (.slice x_13_a2 x_13_l2 x_13_c2)] fun w11 =>
 (∃ r_03 r_15 r_23 r_33 r_42 r_52 r_62 r_72 r_82 r_92 r_102 r_112 : Int, ∃ r_122 : Bool, ∃ r_13_a2 : Option Addr, ∃ r_13_l2 r_13_c2 : Nat, cellsAt w11 ⟨b1, 0, none⟩ 0 [(.int .i64 r_03), (.int .i64 r_15), (.int .i64 r_23), (.int .i64 r_33), (.int .i64 r_42), (.int .i64 r_52), (.int .i64 r_62), (.int .i64 r_72), (.int .i64 r_82), (.int .i64 r_92), (.int .i64 r_102), (.int .i64 r_112), (.bool r_122), (.slice r_13_a2 r_13_l2 r_13_c2)] ∧
 R (.tuple #[(.agg #[.int .i64 r_03, .int .i64 r_15, .int .i64 r_23, .int .i64 r_33, .int .i64 r_42, .int .i64 r_52, .int .i64 r_62, .int .i64 r_72, .int .i64 r_82, .int .i64 r_92, .int .i64 r_102, .int .i64 r_112, .bool r_122, .slice r_13_a2 r_13_l2 r_13_c2]), (.slice none 0 0), (.int .i64 r2)]) w11))))))
 ((∃ J : Addr → World → Prop,
 (∀ (_junk : Env) (p : Addr) (w21 : World), J p w21 →
 (kDrew w21 fun w22 =>
 (∃ S1 : Nat → Prop,
 (S1 b2 ∧
 (∃ x6 : Option Addr, w22.cell? ⟨b2, 0, none⟩ = some (.pointer x6) ∧
 (kNil x6 fun x7 =>
 (S1 (x7.add 13).block ∧
 (kLdS w22 (x7.add 13) fun x_a1 x_l1 x_c1 =>
 (∃ x8 : Option Addr, w22.cell? ⟨b2, 0, none⟩ = some (.pointer x8) ∧
 (kLd w22 p .i64 fun x9 =>
 (Calls Tryz.prog N_receiver_side_place #[(.pointer x8), (.int .i64 x9)] w22 fun e_5 w23 =>
 ∃ r5 : Int, e_5 = .returned (.int .i64 r5) ∧
 (KeepsB S1 w22 w23 ∧ (Calls Tryz.prog N_slices_BinarySearchFunc_Sapi_Partial_api_Partial_int #[(.slice x_a1 x_l1 x_c1), (.int .i64 r5), (.func (.func N_receiver_Receive_1) #[] #[(.pointer (some ⟨b2, 0, none⟩))])] w23 fun e_6 w24 =>
 ∃ r6 : Int, ∃ r7 : Bool, e_6 = .returned (.tuple #[(.int .i64 r6), (.bool r7)]) ∧
 (KeepsB S1 w22 w24 ∧ (∃ x10 : Option Addr, w24.cell? ⟨b2, 0, none⟩ = some (.pointer x10) ∧
 (∃ x_04 x_16 x_24 x_34 : Int, ∃ x_4_a1 : Option Addr, ∃ x_4_l1 x_4_c1 : Nat, ∃ x_53 : Int, ∃ x_63 : Bool, cellsAt w24 p 0 [(.int .i64 x_04), (.int .i64 x_16), (.int .i64 x_24), (.int .i64 x_34), (.slice x_4_a1 x_4_l1 x_4_c1), (.int .i64 x_53), (.bool x_63)] ∧
 (Calls Tryz.prog N_receiver_side_refused #[(.pointer x10), (.agg #[.int .i64 x_04, .int .i64 x_16, .int .i64 x_24, .int .i64 x_34, .slice x_4_a1 x_4_l1 x_4_c1, .int .i64 x_53, .bool x_63]), (.int .i64 r6), (.bool r7)] w24 fun e_7 w25 =>
 ∃ r8 : Int, e_7 = .returned (.int .i64 r8) ∧
 (bsplit (!decide (r8 = (0 : Int)))
 ((∃ x11 : Option Addr, w25.cell? ⟨b2, 0, none⟩ = some (.pointer x11) ∧
 (∃ x_05 x_17 x_25 x_35 : Int, ∃ x_4_a2 : Option Addr, ∃ x_4_l2 x_4_c2 : Nat, cellsAt w25 ⟨b3, 0, none⟩ 0 [(.int .i64 x_05), (.int .i64 x_17), (.int .i64 x_25), (.int .i64 x_35), (.slice x_4_a2 x_4_l2 x_4_c2)] ∧
 (Calls Tryz.prog N_receiver_side_poll #[(.pointer x11), (.agg #[.int .i64 x_05, .int .i64 x_17, .int .i64 x_25, .int .i64 x_35, .slice x_4_a2 x_4_l2 x_4_c2])] w25 fun e_8 w26 =>
 e_8 = .returned (.tuple #[]) ∧
 (∃ x12 : Option Addr, w26.cell? ⟨b2, 0, none⟩ = some (.pointer x12) ∧
 (kNil x12 fun x13 =>
 (∃ x_06 x_18 x_26 x_36 x_43 x_54 x_64 x_73 x_83 x_93 x_103 x_113 : Int, ∃ x_123 : Bool, ∃ x_13_a3 : Option Addr, ∃ x_13_l3 x_13_c3 : Nat, cellsAt w26 x13 0 [(.int .i64 x_06), (.int .i64 x_18), (.int .i64 x_26), (.int .i64 x_36), (.int .i64 x_43), (.int .i64 x_54), (.int .i64 x_64), (.int .i64 x_73), (.int .i64 x_83), (.int .i64 x_93), (.int .i64 x_103), (.int .i64 x_113), (.bool x_123), (.slice x_13_a3 x_13_l3 x_13_c3)] ∧
 (sxStore w26 ⟨b1, 0, none⟩ 0 [(.int .i64 x_06), (.int .i64 x_18), (.int .i64 x_26), (.int .i64 x_36), (.int .i64 x_43), (.int .i64 x_54), (.int .i64 x_64), (.int .i64 x_73), (.int .i64 x_83), (.int .i64 x_93), (.int .i64 x_103), (.int .i64 x_113), (.bool x_123), (.slice x_13_a3 x_13_l3 x_13_c3)] fun w27 =>
 (∃ r_04 r_16 r_24 r_34 r_43 r_53 r_63 r_73 r_83 r_93 r_103 r_113 : Int, ∃ r_123 : Bool, ∃ r_13_a3 : Option Addr, ∃ r_13_l3 r_13_c3 : Nat, cellsAt w27 ⟨b1, 0, none⟩ 0 [(.int .i64 r_04), (.int .i64 r_16), (.int .i64 r_24), (.int .i64 r_34), (.int .i64 r_43), (.int .i64 r_53), (.int .i64 r_63), (.int .i64 r_73), (.int .i64 r_83), (.int .i64 r_93), (.int .i64 r_103), (.int .i64 r_113), (.bool r_123), (.slice r_13_a3 r_13_l3 r_13_c3)] ∧
 R (.tuple #[(.agg #[.int .i64 r_04, .int .i64 r_16, .int .i64 r_24, .int .i64 r_34, .int .i64 r_43, .int .i64 r_53, .int .i64 r_63, .int .i64 r_73, .int .i64 r_83, .int .i64 r_93, .int .i64 r_103, .int .i64 r_113, .bool r_123, .slice r_13_a3 r_13_l3 r_13_c3]), (.slice none 0 0), (.int .i64 r8)]) w27)))))))))
 ((∃ J1 : World → Prop,
 (∀ (_junk : Env)  (w32 : World), J1 w32 →
 (∃ J2 : World → Prop,
 (∀ (_junk : Env)  (w39 : World), J2 w39 →
 (∃ x29 : Option Addr, w39.cell? ⟨b2, 0, none⟩ = some (.pointer x29) ∧
 (kNil x29 fun x30 =>
 (kLdS w39 (x30.add 13) fun x_a3 x_l3 _ =>
 (kIx x_a3 x_l3 r6 fun b8 =>
 (∃ x_07 x_19 x_27 x_37 : Int, ∃ x_4_a3 : Option Addr, ∃ x_4_l3 x_4_c3 : Nat, ∃ x_55 : Int, ∃ x_65 : Bool, cellsAt w39 p 0 [(.int .i64 x_07), (.int .i64 x_19), (.int .i64 x_27), (.int .i64 x_37), (.slice x_4_a3 x_4_l3 x_4_c3), (.int .i64 x_55), (.bool x_65)] ∧
 (Calls Tryz.prog N_receiver_piece_put #[(.agg #[.int .i64 x_07, .int .i64 x_19, .int .i64 x_27, .int .i64 x_37, .slice x_4_a3 x_4_l3 x_4_c3, .int .i64 x_55, .bool x_65]), (.pointer (some (b8.add (r6.toNat * 5))))] w39 fun e_13 w40 =>
 e_13 = .returned (.tuple #[]) ∧
 (∃ J3 : Option Addr → Nat → Nat → World → Prop,
 (∀ (_junk : Env) (out_a : Option Addr) (out_l : Nat) (out_c : Nat) (w43 : World), J3 out_a out_l out_c w43 →
 (∃ x32 : Option Addr, w43.cell? ⟨b2, 0, none⟩ = some (.pointer x32) ∧
 (Calls Tryz.prog N_receiver_side_advance #[(.pointer x32)] w43 fun e_15 w44 =>
 e_15 = .returned (.tuple #[]) ∧
 (∃ x33 : Option Addr, w44.cell? ⟨b2, 0, none⟩ = some (.pointer x33) ∧
 (Calls Tryz.prog N_receiver_side_start #[(.pointer x33)] w44 fun e_16 w45 =>
 e_16 = .returned (.tuple #[]) ∧
 (∃ x34 : Option Addr, w45.cell? ⟨b2, 0, none⟩ = some (.pointer x34) ∧
 (∃ x_09 x_114 x_29 x_38 : Int, ∃ x_4_a5 : Option Addr, ∃ x_4_l5 x_4_c5 : Nat, cellsAt w45 ⟨b3, 0, none⟩ 0 [(.int .i64 x_09), (.int .i64 x_114), (.int .i64 x_29), (.int .i64 x_38), (.slice x_4_a5 x_4_l5 x_4_c5)] ∧
 (Calls Tryz.prog N_receiver_side_poll #[(.pointer x34), (.agg #[.int .i64 x_09, .int .i64 x_114, .int .i64 x_29, .int .i64 x_38, .slice x_4_a5 x_4_l5 x_4_c5])] w45 fun e_17 w46 =>
 e_17 = .returned (.tuple #[]) ∧
 (∃ x35 : Option Addr, w46.cell? ⟨b2, 0, none⟩ = some (.pointer x35) ∧
 (kNil x35 fun x36 =>
 (∃ x_010 x_115 x_210 x_39 x_44 x_56 x_66 x_74 x_84 x_94 x_104 x_116 : Int, ∃ x_124 : Bool, ∃ x_13_a4 : Option Addr, ∃ x_13_l4 x_13_c4 : Nat, cellsAt w46 x36 0 [(.int .i64 x_010), (.int .i64 x_115), (.int .i64 x_210), (.int .i64 x_39), (.int .i64 x_44), (.int .i64 x_56), (.int .i64 x_66), (.int .i64 x_74), (.int .i64 x_84), (.int .i64 x_94), (.int .i64 x_104), (.int .i64 x_116), (.bool x_124), (.slice x_13_a4 x_13_l4 x_13_c4)] ∧
 (sxStore w46 ⟨b1, 0, none⟩ 0 [(.int .i64 x_010), (.int .i64 x_115), (.int .i64 x_210), (.int .i64 x_39), (.int .i64 x_44), (.int .i64 x_56), (.int .i64 x_66), (.int .i64 x_74), (.int .i64 x_84), (.int .i64 x_94), (.int .i64 x_104), (.int .i64 x_116), (.bool x_124), (.slice x_13_a4 x_13_l4 x_13_c4)] fun w47 =>
 (∃ r_05 r_17 r_25 r_35 r_44 r_54 r_64 r_74 r_84 r_94 r_104 r_114 : Int, ∃ r_124 : Bool, ∃ r_13_a4 : Option Addr, ∃ r_13_l4 r_13_c4 : Nat, cellsAt w47 ⟨b1, 0, none⟩ 0 [(.int .i64 r_05), (.int .i64 r_17), (.int .i64 r_25), (.int .i64 r_35), (.int .i64 r_44), (.int .i64 r_54), (.int .i64 r_64), (.int .i64 r_74), (.int .i64 r_84), (.int .i64 r_94), (.int .i64 r_104), (.int .i64 r_114), (.bool r_124), (.slice r_13_a4 r_13_l4 r_13_c4)] ∧
 R (.tuple #[(.agg #[.int .i64 r_05, .int .i64 r_17, .int .i64 r_25, .int .i64 r_35, .int .i64 r_44, .int .i64 r_54, .int .i64 r_64, .int .i64 r_74, .int .i64 r_84, .int .i64 r_94, .int .i64 r_104, .int .i64 r_114, .bool r_124, .slice r_13_a4 r_13_l4 r_13_c4]), (.slice out_a out_l out_c), (.int .i64 (0 : Int))]) w47))))))))))))) ∧
 (∃ x_08 : Int, ∃ x_110 : Bool, ∃ x_28 : Int, ∃ x_3_a : Option Addr, ∃ x_3_l x_3_c : Nat, ∃ x_4_a4 : Option Addr, ∃ x_4_l4 x_4_c4 : Nat, cellsAt w40 (b8.add (r6.toNat * 5)) 0 [(.int .i64 x_08), (.bool x_110), (.int .i64 x_28), (.slice x_3_a x_3_l x_3_c), (.slice x_4_a4 x_4_l4 x_4_c4)] ∧
 (Calls Tryz.prog N_receiver_complete #[(.agg #[.int .i64 x_08, .bool x_110, .int .i64 x_28, .slice x_3_a x_3_l x_3_c, .slice x_4_a4 x_4_l4 x_4_c4])] w40 fun e_14 w41 =>
 ∃ r12 : Bool, e_14 = .returned (.bool r12) ∧
 (bsplit r12
 ((kLdS w41 ((b8.add (r6.toNat * 5)).add 3) fun x_a4 x_l4 x_c4 =>
 (kLd w41 p .i64 fun x31 =>
 (sxStore w41 (b8.add (r6.toNat * 5)) 0 [(.int .i64 x31), (.bool true), (.int .i64 (0 : Int)), (.slice none 0 0), (.slice none 0 0)] fun w42 =>
 J3 x_a4 x_l4 x_c4 w42))))
 (J3 none 0 0 w41)))))))))))) ∧
 (kDrew w32 fun w33 =>
 (∃ S3 : Nat → Prop,
 (∃ x19 : Option Addr, w33.cell? ⟨b2, 0, none⟩ = some (.pointer x19) ∧
 (kLd w33 p .i64 fun x20 =>
 (S3 b2 ∧
 (∃ x21 : Option Addr, w33.cell? ⟨b2, 0, none⟩ = some (.pointer x21) ∧
 (S3 b2 ∧
 (∃ x22 : Option Addr, w33.cell? ⟨b2, 0, none⟩ = some (.pointer x22) ∧
 (kNil x22 fun x23 =>
 (S3 (x23.add 7).block ∧
 (kLd w33 (x23.add 7) .i64 fun x24 =>
 (Calls Tryz.prog N_receiver_side_place #[(.pointer x19), (.int .i64 x20)] w33 fun e_10 w34 =>
 ∃ r9 : Int, e_10 = .returned (.int .i64 r9) ∧
 (KeepsB S3 w33 w34 ∧ (Calls Tryz.prog N_receiver_side_place #[(.pointer x21), (.int .i64 x24)] w34 fun e_11 w35 =>
 ∃ r10 : Int, e_11 = .returned (.int .i64 r10) ∧
 (KeepsB S3 w33 w35 ∧ (bsplit (decide (r9 ≥ r10))
 ((kDrew w35 fun w36 =>
 (∃ S4 : Nat → Prop,
 (S4 b2 ∧
 (∃ x25 : Option Addr, w36.cell? ⟨b2, 0, none⟩ = some (.pointer x25) ∧
 (∃ x26 : Option Addr, w36.cell? ⟨b2, 0, none⟩ = some (.pointer x26) ∧
 (kLd w36 p .i64 fun x27 =>
 (Calls Tryz.prog N_receiver_side_behind #[(.pointer x26), (.int .i64 x27)] w36 fun e_12 w37 =>
 ∃ r11 : Int, e_12 = .returned (.int .i64 r11) ∧
 (KeepsB S4 w36 w37 ∧ (kNil x25 fun x28 =>
 (kSet w37 (x28.add 7) (.int .i64 r11) fun w38 =>
 J2 w38)))))))))))
 (J2 w35))))))))))))))))))) ∧
 (bsplit (!r7)
 ((kDrew w25 fun w28 =>
 (∃ S2 : Nat → Prop,
 (S2 b2 ∧
 (∃ x14 : Option Addr, w28.cell? ⟨b2, 0, none⟩ = some (.pointer x14) ∧
 (S2 b2 ∧
 (∃ x15 : Option Addr, w28.cell? ⟨b2, 0, none⟩ = some (.pointer x15) ∧
 (kNil x15 fun x16 =>
 (S2 (x16.add 13).block ∧
 (kLdS w28 (x16.add 13) fun x_a2 x_l2 x_c2 =>
 (kLd w28 p .i64 fun x17 =>
 (KeepsB S2 w28 w28 ∧ (kAlloc w28 #[(.int .i64 x17), (.bool false), (.int .i64 (-1 : Int)), (.slice none 0 0), (.slice none 0 0)] Ty_api_Partial fun b7 w29 =>
 (KeepsB S2 w28 w29 ∧ (Calls Tryz.prog N_slices_Insert_Sapi_Partial_api_Partial #[(.slice x_a2 x_l2 x_c2), (.int .i64 r6), (.slice (some ⟨b7, 0, none⟩) 1 1)] w29 fun e_9 w30 =>
 ∃ r_a : Option Addr, ∃ r_l r_c : Nat, e_9 = .returned (.slice r_a r_l r_c) ∧
 (KeepsB S2 w28 w30 ∧ (kNil x14 fun x18 =>
 (kSet w30 (x18.add 13) (.slice r_a r_l r_c) fun w31 =>
 J1 w31))))))))))))))))))
 (J1 w25)))))))))))))))))))))) ∧
 (kDrew w10 fun w12 =>
 (∃ S : Nat → Prop,
 (S b3 ∧
 (∃ x_03 x_15 x_23 x_33 : Int, ∃ x_4_a : Option Addr, ∃ x_4_l x_4_c : Nat, cellsAt w12 ⟨b3, 0, none⟩ 0 [(.int .i64 x_03), (.int .i64 x_15), (.int .i64 x_23), (.int .i64 x_33), (.slice x_4_a x_4_l x_4_c)] ∧
 (S b3 ∧
 (kLd w12 ⟨b3, 3, none⟩ .i64 fun x3 =>
 (S b3 ∧
 (kLdS w12 ⟨b3, 4, none⟩ fun _ x_l _ =>
 (kW .i64 (x3 + (x_l : Int)) fun x4 =>
 (S b3 ∧
 (kLd w12 ⟨b3, 1, none⟩ .i64 fun x5 =>
 ((Calls Tryz.prog N_segment_Ends #[(.int .i64 x5)] w12 fun e_4 w16 =>
 ∃ r4 : Bool, e_4 = .returned (.bool r4) ∧
 (KeepsB S w12 w16 ∧ ((KeepsB S w12 w16 ∧ (kAlloc w16 #[.int .i64 (0 : Int), .int .i64 (0 : Int), .int .i64 (0 : Int), .int .i64 (0 : Int), .slice none 0 0, .int .i64 (0 : Int), .bool false] Ty_receiver_piece fun b6 w19 =>
 (KeepsB S w12 w19 ∧ (sxStore w19 ⟨b6, 0, none⟩ 0 [(.int .i64 x_03), (.int .i64 x_15), (.int .i64 x_23), (.int .i64 x_33), (.slice x_4_a x_4_l x_4_c), (.int .i64 x4), (.bool r4)] fun w20 =>
 J ⟨b6, 0, none⟩ w20)))) ∧
 ((kAlloc w16 #[.int .i64 (0 : Int), .int .i64 (0 : Int), .int .i64 (0 : Int), .int .i64 (0 : Int), .slice none 0 0, .int .i64 (0 : Int), .bool false] Ty_receiver_piece fun b5 w17 =>
 (KeepsB S w12 w17 ∧ (KeepsB S w12 w17 ∧ (sxStore w17 ⟨b5, 0, none⟩ 0 [(.int .i64 x_03), (.int .i64 x_15), (.int .i64 x_23), (.int .i64 x_33), (.slice x_4_a x_4_l x_4_c), (.int .i64 x4), (.bool r4)] fun w18 =>
 J ⟨b5, 0, none⟩ w18)))) ∧
 True)))) ∧
 ((kAlloc w12 #[.int .i64 (0 : Int), .int .i64 (0 : Int), .int .i64 (0 : Int), .int .i64 (0 : Int), .slice none 0 0, .int .i64 (0 : Int), .bool false] Ty_receiver_piece fun b4 w13 =>
 (KeepsB S w12 w13 ∧ (Calls Tryz.prog N_segment_Ends #[(.int .i64 x5)] w13 fun e_3 w14 =>
 ∃ r3 : Bool, e_3 = .returned (.bool r3) ∧
 (KeepsB S w12 w14 ∧ (KeepsB S w12 w14 ∧ (sxStore w14 ⟨b4, 0, none⟩ 0 [(.int .i64 x_03), (.int .i64 x_15), (.int .i64 x_23), (.int .i64 x_33), (.slice x_4_a x_4_l x_4_c), (.int .i64 x4), (.bool r3)] fun w15 =>
 J ⟨b4, 0, none⟩ w15)))))) ∧
 True))))))))))))))))))))))))))))))
theorem F_receiver_Receive_eq (r_0 : Int) (r_1 : Int) (r_2 : Int) (r_3 : Int) (r_4 : Int) (r_5 : Int) (r_6 : Int) (r_7 : Int) (r_8 : Int) (r_9 : Int) (r_10 : Int) (r_11 : Int) (r_12 : Bool) (r_13_a : Option Addr) (r_13_l : Nat) (r_13_c : Nat) (b_a : Option Addr) (b_l : Nat) (b_c : Nat) (w : World) (R : Value → World → Prop) : sxFn Tryz.prog TT h_receiver_Receive Tryz.f20 #[(.agg #[.int .i64 r_0, .int .i64 r_1, .int .i64 r_2, .int .i64 r_3, .int .i64 r_4, .int .i64 r_5, .int .i64 r_6, .int .i64 r_7, .int .i64 r_8, .int .i64 r_9, .int .i64 r_10, .int .i64 r_11, .bool r_12, .slice r_13_a r_13_l r_13_c]), (.slice b_a b_l b_c)] w R = F_receiver_Receive r_0 r_1 r_2 r_3 r_4 r_5 r_6 r_7 r_8 r_9 r_10 r_11 r_12 r_13_a r_13_l r_13_c b_a b_l b_c w R := by kernel_rfl
theorem F_receiver_Receive_ok {R : Ending → World → Prop} (r_0 : Int) (r_1 : Int) (r_2 : Int) (r_3 : Int) (r_4 : Int) (r_5 : Int) (r_6 : Int) (r_7 : Int) (r_8 : Int) (r_9 : Int) (r_10 : Int) (r_11 : Int) (r_12 : Bool) (r_13_a : Option Addr) (r_13_l : Nat) (r_13_c : Nat) (b_a : Option Addr) (b_l : Nat) (b_c : Nat) (w : World) (h : F_receiver_Receive r_0 r_1 r_2 r_3 r_4 r_5 r_6 r_7 r_8 r_9 r_10 r_11 r_12 r_13_a r_13_l r_13_c b_a b_l b_c w fun v w' => R (.returned v) w') : Calls Tryz.prog N_receiver_Receive #[(.agg #[.int .i64 r_0, .int .i64 r_1, .int .i64 r_2, .int .i64 r_3, .int .i64 r_4, .int .i64 r_5, .int .i64 r_6, .int .i64 r_7, .int .i64 r_8, .int .i64 r_9, .int .i64 r_10, .int .i64 r_11, .bool r_12, .slice r_13_a r_13_l r_13_c]), (.slice b_a b_l b_c)] w R :=
 calls_of (f := 20) follows_ok Tryz.func20 (Eq.mpr (F_receiver_Receive_eq r_0 r_1 r_2 r_3 r_4 r_5 r_6 r_7 r_8 r_9 r_10 r_11 r_12 r_13_a r_13_l r_13_c b_a b_l b_c w _) h)

def h_receiver_Report : H := (.seq .reg (.seq .reg (.cut [] [5, 6, 16, 17, 18, 19, 20, 21, 22, 23, 24, 25, 26, 27, 28, 29, 30, 31, 32, 33, 34, 35, 36, 37, 38] (.block (.seq .reg (.cond (.seq .reg .leaf) (.cut [(21, .p .bool)] [21, 22, 23, 24, 25, 26, 27] .reg (.cond (.seq .reg .leaf) (.seq .reg (.cond (.seq .reg .leaf) .leaf))))))) (.seq (.seq .reg (.seq .reg (.cond (.seq .reg .leaf) .leaf))) (.seq .reg (.seq .reg (.seq (.draw .blk (.one 0 .pre (.one 1 .stable (.one 2 .stable (.one 3 .stable (.one 4 .stable (.one 5 .pre (.one 6 .pre (.one 7 .pre (.one 8 .keep (.one 9 .stable (.one 10 .stable (.one 11 .stable (.one 12 .last .nil)))))))))))))) (.seq .reg .leaf))))))))
def F_receiver_Report (r_0 : Int) (r_1 : Int) (r_2 : Int) (r_3 : Int) (r_4 : Int) (r_5 : Int) (r_6 : Int) (r_7 : Int) (r_8 : Int) (r_9 : Int) (r_10 : Int) (r_11 : Int) (r_12 : Bool) (r_13_a : Option Addr) (r_13_l : Nat) (r_13_c : Nat) (size : Int) (w : World) (R : Value → World → Prop) : Prop :=
 (kAlloc w #[(.int .i64 r_0), (.int .i64 r_1), (.int .i64 r_2), (.int .i64 r_3), (.int .i64 r_4), (.int .i64 r_5), (.int .i64 r_6), (.int .i64 r_7), (.int .i64 r_8), (.int .i64 r_9), (.int .i64 r_10), (.int .i64 r_11), (.bool r_12), (.slice r_13_a r_13_l r_13_c)] Ty_api_Receiver fun b w1 =>
 (kAlloc w1 #[.int .i64 (0 : Int), .int .i64 (0 : Int), .int .i64 (0 : Int), .int .i64 (0 : Int), .int .i64 (0 : Int), .int .i64 (0 : Int), .int .i64 (0 : Int), .int .i64 (0 : Int), .int .i64 (0 : Int), .int .i64 (0 : Int), .int .i64 (0 : Int), .int .i64 (0 : Int), .bool false, .slice none 0 0] Ty_api_Receiver fun b1 w2 =>
 (∃ x_0 x_1 x_2 x_3 x_4 x_5 x_6 x_7 x_8 x_9 x_10 x_11 : Int, ∃ x_12 : Bool, ∃ x_13_a : Option Addr, ∃ x_13_l x_13_c : Nat, cellsAt w2 ⟨b, 0, none⟩ 0 [(.int .i64 x_0), (.int .i64 x_1), (.int .i64 x_2), (.int .i64 x_3), (.int .i64 x_4), (.int .i64 x_5), (.int .i64 x_6), (.int .i64 x_7), (.int .i64 x_8), (.int .i64 x_9), (.int .i64 x_10), (.int .i64 x_11), (.bool x_12), (.slice x_13_a x_13_l x_13_c)] ∧
 (Calls Tryz.prog N_receiver_Status #[(.agg #[.int .i64 x_0, .int .i64 x_1, .int .i64 x_2, .int .i64 x_3, .int .i64 x_4, .int .i64 x_5, .int .i64 x_6, .int .i64 x_7, .int .i64 x_8, .int .i64 x_9, .int .i64 x_10, .int .i64 x_11, .bool x_12, .slice x_13_a x_13_l x_13_c])] w2 fun e_ w3 =>
 ∃ r_01 : Int, ∃ r_1_a : Option Addr, ∃ r_1_l r_1_c : Nat, ∃ r : Int, e_ = .returned (.tuple #[(.agg #[.int .i64 r_01, .slice r_1_a r_1_l r_1_c]), (.int .i64 r)]) ∧
 (kAlloc w3 #[.int .i64 (0 : Int), .slice none 0 0] Ty_api_Status fun b2 w4 =>
 (sxStore w4 ⟨b2, 0, none⟩ 0 [(.int .i64 r_01), (.slice r_1_a r_1_l r_1_c)] fun w5 =>
 (∃ J : World → Prop,
 (∀ (_junk : Env)  (w11 : World), J w11 →
 (kLd w11 ⟨b, 0, none⟩ .i64 fun x6 =>
 (∃ x_01 : Int, ∃ x_1_a : Option Addr, ∃ x_1_l x_1_c : Nat, cellsAt w11 ⟨b2, 0, none⟩ 0 [(.int .i64 x_01), (.slice x_1_a x_1_l x_1_c)] ∧
 (Calls Tryz.prog N_status_Fit #[(.int .i64 x6), (.agg #[.int .i64 x_01, .slice x_1_a x_1_l x_1_c]), (.int .i64 size)] w11 fun e_1 w12 =>
 ∃ r_06 : Int, ∃ r_1_a1 : Option Addr, ∃ r_1_l1 r_1_c1 : Nat, ∃ r1 : Int, e_1 = .returned (.tuple #[(.agg #[.int .i64 r_06, .slice r_1_a1 r_1_l1 r_1_c1]), (.int .i64 r1)]) ∧
 (sxStore w12 ⟨b2, 0, none⟩ 0 [(.int .i64 r_06), (.slice r_1_a1 r_1_l1 r_1_c1)] fun w13 =>
 (bsplit (!decide (r1 = (0 : Int)))
 ((sxStore w13 ⟨b1, 0, none⟩ 0 [(.int .i64 (0 : Int)), (.int .i64 (0 : Int)), (.int .i64 (0 : Int)), (.int .i64 (0 : Int)), (.int .i64 (0 : Int)), (.int .i64 (0 : Int)), (.int .i64 (0 : Int)), (.int .i64 (0 : Int)), (.int .i64 (0 : Int)), (.int .i64 (0 : Int)), (.int .i64 (0 : Int)), (.int .i64 (0 : Int)), (.bool false), (.slice none 0 0)] fun w14 =>
 (∃ r_07 r_17 r_25 r_35 r_45 r_55 r_65 r_75 r_85 r_95 r_105 r_115 : Int, ∃ r_125 : Bool, ∃ r_13_a5 : Option Addr, ∃ r_13_l5 r_13_c5 : Nat, cellsAt w14 ⟨b1, 0, none⟩ 0 [(.int .i64 r_07), (.int .i64 r_17), (.int .i64 r_25), (.int .i64 r_35), (.int .i64 r_45), (.int .i64 r_55), (.int .i64 r_65), (.int .i64 r_75), (.int .i64 r_85), (.int .i64 r_95), (.int .i64 r_105), (.int .i64 r_115), (.bool r_125), (.slice r_13_a5 r_13_l5 r_13_c5)] ∧
 R (.tuple #[(.agg #[.int .i64 r_07, .int .i64 r_17, .int .i64 r_25, .int .i64 r_35, .int .i64 r_45, .int .i64 r_55, .int .i64 r_65, .int .i64 r_75, .int .i64 r_85, .int .i64 r_95, .int .i64 r_105, .int .i64 r_115, .bool r_125, .slice r_13_a5 r_13_l5 r_13_c5]), (.slice none 0 0), (.int .i64 r1)]) w14)))
 ((kLd w13 ⟨b, 0, none⟩ .i64 fun x7 =>
 (∃ x_02 : Int, ∃ x_1_a1 : Option Addr, ∃ x_1_l1 x_1_c1 : Nat, cellsAt w13 ⟨b2, 0, none⟩ 0 [(.int .i64 x_02), (.slice x_1_a1 x_1_l1 x_1_c1)] ∧
 (Calls Tryz.prog N_status_Encode #[(.int .i64 x7), (.agg #[.int .i64 x_02, .slice x_1_a1 x_1_l1 x_1_c1])] w13 fun e_2 w15 =>
 ∃ r_a : Option Addr, ∃ r_l r_c : Nat, ∃ r2 : Int, e_2 = .returned (.tuple #[(.slice r_a r_l r_c), (.int .i64 r2)]) ∧
 (∃ x_03 x_13 x_21 x_31 x_41 x_51 x_61 x_71 x_81 x_91 x_101 x_111 : Int, ∃ x_121 : Bool, ∃ x_13_a1 : Option Addr, ∃ x_13_l1 x_13_c1 : Nat, cellsAt w15 ⟨b, 0, none⟩ 0 [(.int .i64 x_03), (.int .i64 x_13), (.int .i64 x_21), (.int .i64 x_31), (.int .i64 x_41), (.int .i64 x_51), (.int .i64 x_61), (.int .i64 x_71), (.int .i64 x_81), (.int .i64 x_91), (.int .i64 x_101), (.int .i64 x_111), (.bool x_121), (.slice x_13_a1 x_13_l1 x_13_c1)] ∧
 (Calls Tryz.prog N_receiver_begin #[(.agg #[.int .i64 x_03, .int .i64 x_13, .int .i64 x_21, .int .i64 x_31, .int .i64 x_41, .int .i64 x_51, .int .i64 x_61, .int .i64 x_71, .int .i64 x_81, .int .i64 x_91, .int .i64 x_101, .int .i64 x_111, .bool x_121, .slice x_13_a1 x_13_l1 x_13_c1])] w15 fun e_3 w16 =>
 ∃ r3 : Option Addr, e_3 = .returned (.pointer r3) ∧
 (kDrew w16 fun w17 =>
 (∃ S : Nat → Prop,
 (S b ∧
 (kLd w17 ⟨b, 4, none⟩ .i64 fun x8 =>
 (kNil r3 fun x9 =>
 (kSet w17 (x9.add 12) (.bool false) fun w18 =>
 (KeepsB S w17 w18 ∧ (kNil r3 fun x10 =>
 (kSet w18 (x10.add 11) (.int .i64 x8) fun w19 =>
 (kNil r3 fun x11 =>
 (∃ x_04 x_14 x_22 x_32 x_42 x_52 x_62 x_72 x_82 x_92 x_102 x_112 : Int, ∃ x_122 : Bool, ∃ x_13_a2 : Option Addr, ∃ x_13_l2 x_13_c2 : Nat, cellsAt w19 x11 0 [(.int .i64 x_04), (.int .i64 x_14), (.int .i64 x_22), (.int .i64 x_32), (.int .i64 x_42), (.int .i64 x_52), (.int .i64 x_62), (.int .i64 x_72), (.int .i64 x_82), (.int .i64 x_92), (.int .i64 x_102), (.int .i64 x_112), (.bool x_122), (.slice x_13_a2 x_13_l2 x_13_c2)] ∧
 (sxStore w19 ⟨b1, 0, none⟩ 0 [(.int .i64 x_04), (.int .i64 x_14), (.int .i64 x_22), (.int .i64 x_32), (.int .i64 x_42), (.int .i64 x_52), (.int .i64 x_62), (.int .i64 x_72), (.int .i64 x_82), (.int .i64 x_92), (.int .i64 x_102), (.int .i64 x_112), (.bool x_122), (.slice x_13_a2 x_13_l2 x_13_c2)] fun w20 =>
 (∃ r_08 r_18 r_26 r_36 r_46 r_56 r_66 r_76 r_86 r_96 r_106 r_116 : Int, ∃ r_126 : Bool, ∃ r_13_a6 : Option Addr, ∃ r_13_l6 r_13_c6 : Nat, cellsAt w20 ⟨b1, 0, none⟩ 0 [(.int .i64 r_08), (.int .i64 r_18), (.int .i64 r_26), (.int .i64 r_36), (.int .i64 r_46), (.int .i64 r_56), (.int .i64 r_66), (.int .i64 r_76), (.int .i64 r_86), (.int .i64 r_96), (.int .i64 r_106), (.int .i64 r_116), (.bool r_126), (.slice r_13_a6 r_13_l6 r_13_c6)] ∧
 R (.tuple #[(.agg #[.int .i64 r_08, .int .i64 r_18, .int .i64 r_26, .int .i64 r_36, .int .i64 r_46, .int .i64 r_56, .int .i64 r_66, .int .i64 r_76, .int .i64 r_86, .int .i64 r_96, .int .i64 r_106, .int .i64 r_116, .bool r_126, .slice r_13_a6 r_13_l6 r_13_c6]), (.slice r_a r_l r_c), (.int .i64 r2)]) w20))))))))))))))))))))))))) ∧
 (kLet (!decide (r = (0 : Int))) fun x =>
 (bsplit x
 ((sxStore w5 ⟨b1, 0, none⟩ 0 [(.int .i64 (0 : Int)), (.int .i64 (0 : Int)), (.int .i64 (0 : Int)), (.int .i64 (0 : Int)), (.int .i64 (0 : Int)), (.int .i64 (0 : Int)), (.int .i64 (0 : Int)), (.int .i64 (0 : Int)), (.int .i64 (0 : Int)), (.int .i64 (0 : Int)), (.int .i64 (0 : Int)), (.int .i64 (0 : Int)), (.bool false), (.slice none 0 0)] fun w6 =>
 (∃ r_02 r_13 r_21 r_31 r_41 r_51 r_61 r_71 r_81 r_91 r_101 r_111 : Int, ∃ r_121 : Bool, ∃ r_13_a1 : Option Addr, ∃ r_13_l1 r_13_c1 : Nat, cellsAt w6 ⟨b1, 0, none⟩ 0 [(.int .i64 r_02), (.int .i64 r_13), (.int .i64 r_21), (.int .i64 r_31), (.int .i64 r_41), (.int .i64 r_51), (.int .i64 r_61), (.int .i64 r_71), (.int .i64 r_81), (.int .i64 r_91), (.int .i64 r_101), (.int .i64 r_111), (.bool r_121), (.slice r_13_a1 r_13_l1 r_13_c1)] ∧
 R (.tuple #[(.agg #[.int .i64 r_02, .int .i64 r_13, .int .i64 r_21, .int .i64 r_31, .int .i64 r_41, .int .i64 r_51, .int .i64 r_61, .int .i64 r_71, .int .i64 r_81, .int .i64 r_91, .int .i64 r_101, .int .i64 r_111, .bool r_121, .slice r_13_a1 r_13_l1 r_13_c1]), (.slice none 0 0), (.int .i64 r)]) w6)))
 ((∃ J1 : Bool → World → Prop,
 (∀ (_junk : Env) (x2 : Bool) (w7 : World), J1 x2 w7 →
 (bsplit x2
 ((sxStore w7 ⟨b1, 0, none⟩ 0 [(.int .i64 (0 : Int)), (.int .i64 (0 : Int)), (.int .i64 (0 : Int)), (.int .i64 (0 : Int)), (.int .i64 (0 : Int)), (.int .i64 (0 : Int)), (.int .i64 (0 : Int)), (.int .i64 (0 : Int)), (.int .i64 (0 : Int)), (.int .i64 (0 : Int)), (.int .i64 (0 : Int)), (.int .i64 (0 : Int)), (.bool false), (.slice none 0 0)] fun w8 =>
 (∃ r_03 r_14 r_22 r_32 r_42 r_52 r_62 r_72 r_82 r_92 r_102 r_112 : Int, ∃ r_122 : Bool, ∃ r_13_a2 : Option Addr, ∃ r_13_l2 r_13_c2 : Nat, cellsAt w8 ⟨b1, 0, none⟩ 0 [(.int .i64 r_03), (.int .i64 r_14), (.int .i64 r_22), (.int .i64 r_32), (.int .i64 r_42), (.int .i64 r_52), (.int .i64 r_62), (.int .i64 r_72), (.int .i64 r_82), (.int .i64 r_92), (.int .i64 r_102), (.int .i64 r_112), (.bool r_122), (.slice r_13_a2 r_13_l2 r_13_c2)] ∧
 R (.tuple #[(.agg #[.int .i64 r_03, .int .i64 r_14, .int .i64 r_22, .int .i64 r_32, .int .i64 r_42, .int .i64 r_52, .int .i64 r_62, .int .i64 r_72, .int .i64 r_82, .int .i64 r_92, .int .i64 r_102, .int .i64 r_112, .bool r_122, .slice r_13_a2 r_13_l2 r_13_c2]), (.slice none 0 0), (.int .i64 (3 : Int))]) w8)))
 ((kLdB w7 ⟨b, 12, none⟩ fun x3 =>
 (bsplit (!x3)
 ((sxStore w7 ⟨b1, 0, none⟩ 0 [(.int .i64 (0 : Int)), (.int .i64 (0 : Int)), (.int .i64 (0 : Int)), (.int .i64 (0 : Int)), (.int .i64 (0 : Int)), (.int .i64 (0 : Int)), (.int .i64 (0 : Int)), (.int .i64 (0 : Int)), (.int .i64 (0 : Int)), (.int .i64 (0 : Int)), (.int .i64 (0 : Int)), (.int .i64 (0 : Int)), (.bool false), (.slice none 0 0)] fun w9 =>
 (∃ r_04 r_15 r_23 r_33 r_43 r_53 r_63 r_73 r_83 r_93 r_103 r_113 : Int, ∃ r_123 : Bool, ∃ r_13_a3 : Option Addr, ∃ r_13_l3 r_13_c3 : Nat, cellsAt w9 ⟨b1, 0, none⟩ 0 [(.int .i64 r_04), (.int .i64 r_15), (.int .i64 r_23), (.int .i64 r_33), (.int .i64 r_43), (.int .i64 r_53), (.int .i64 r_63), (.int .i64 r_73), (.int .i64 r_83), (.int .i64 r_93), (.int .i64 r_103), (.int .i64 r_113), (.bool r_123), (.slice r_13_a3 r_13_l3 r_13_c3)] ∧
 R (.tuple #[(.agg #[.int .i64 r_04, .int .i64 r_15, .int .i64 r_23, .int .i64 r_33, .int .i64 r_43, .int .i64 r_53, .int .i64 r_63, .int .i64 r_73, .int .i64 r_83, .int .i64 r_93, .int .i64 r_103, .int .i64 r_113, .bool r_123, .slice r_13_a3 r_13_l3 r_13_c3]), (.slice none 0 0), (.int .i64 (14 : Int))]) w9)))
 ((kLd w7 ⟨b, 11, none⟩ .i64 fun x4 =>
 (kLet (decide (x4 > (0 : Int))) fun x5 =>
 (bsplit x5
 ((sxStore w7 ⟨b1, 0, none⟩ 0 [(.int .i64 (0 : Int)), (.int .i64 (0 : Int)), (.int .i64 (0 : Int)), (.int .i64 (0 : Int)), (.int .i64 (0 : Int)), (.int .i64 (0 : Int)), (.int .i64 (0 : Int)), (.int .i64 (0 : Int)), (.int .i64 (0 : Int)), (.int .i64 (0 : Int)), (.int .i64 (0 : Int)), (.int .i64 (0 : Int)), (.bool false), (.slice none 0 0)] fun w10 =>
 (∃ r_05 r_16 r_24 r_34 r_44 r_54 r_64 r_74 r_84 r_94 r_104 r_114 : Int, ∃ r_124 : Bool, ∃ r_13_a4 : Option Addr, ∃ r_13_l4 r_13_c4 : Nat, cellsAt w10 ⟨b1, 0, none⟩ 0 [(.int .i64 r_05), (.int .i64 r_16), (.int .i64 r_24), (.int .i64 r_34), (.int .i64 r_44), (.int .i64 r_54), (.int .i64 r_64), (.int .i64 r_74), (.int .i64 r_84), (.int .i64 r_94), (.int .i64 r_104), (.int .i64 r_114), (.bool r_124), (.slice r_13_a4 r_13_l4 r_13_c4)] ∧
 R (.tuple #[(.agg #[.int .i64 r_05, .int .i64 r_16, .int .i64 r_24, .int .i64 r_34, .int .i64 r_44, .int .i64 r_54, .int .i64 r_64, .int .i64 r_74, .int .i64 r_84, .int .i64 r_94, .int .i64 r_104, .int .i64 r_114, .bool r_124, .slice r_13_a4 r_13_l4 r_13_c4]), (.slice none 0 0), (.int .i64 (14 : Int))]) w10)))
 (J w7)))))))))) ∧
 (bsplit (decide (size < (0 : Int)))
 (J1 true w5)
 ((kLet (decide (size > (4096 : Int))) fun x1 =>
 J1 x1 w5))))))))))))))
theorem F_receiver_Report_eq (r_0 : Int) (r_1 : Int) (r_2 : Int) (r_3 : Int) (r_4 : Int) (r_5 : Int) (r_6 : Int) (r_7 : Int) (r_8 : Int) (r_9 : Int) (r_10 : Int) (r_11 : Int) (r_12 : Bool) (r_13_a : Option Addr) (r_13_l : Nat) (r_13_c : Nat) (size : Int) (w : World) (R : Value → World → Prop) : sxFn Tryz.prog TT h_receiver_Report Tryz.f21 #[(.agg #[.int .i64 r_0, .int .i64 r_1, .int .i64 r_2, .int .i64 r_3, .int .i64 r_4, .int .i64 r_5, .int .i64 r_6, .int .i64 r_7, .int .i64 r_8, .int .i64 r_9, .int .i64 r_10, .int .i64 r_11, .bool r_12, .slice r_13_a r_13_l r_13_c]), (.int .i64 size)] w R = F_receiver_Report r_0 r_1 r_2 r_3 r_4 r_5 r_6 r_7 r_8 r_9 r_10 r_11 r_12 r_13_a r_13_l r_13_c size w R := by kernel_rfl
theorem F_receiver_Report_ok {R : Ending → World → Prop} (r_0 : Int) (r_1 : Int) (r_2 : Int) (r_3 : Int) (r_4 : Int) (r_5 : Int) (r_6 : Int) (r_7 : Int) (r_8 : Int) (r_9 : Int) (r_10 : Int) (r_11 : Int) (r_12 : Bool) (r_13_a : Option Addr) (r_13_l : Nat) (r_13_c : Nat) (size : Int) (w : World) (h : F_receiver_Report r_0 r_1 r_2 r_3 r_4 r_5 r_6 r_7 r_8 r_9 r_10 r_11 r_12 r_13_a r_13_l r_13_c size w fun v w' => R (.returned v) w') : Calls Tryz.prog N_receiver_Report #[(.agg #[.int .i64 r_0, .int .i64 r_1, .int .i64 r_2, .int .i64 r_3, .int .i64 r_4, .int .i64 r_5, .int .i64 r_6, .int .i64 r_7, .int .i64 r_8, .int .i64 r_9, .int .i64 r_10, .int .i64 r_11, .bool r_12, .slice r_13_a r_13_l r_13_c]), (.int .i64 size)] w R :=
 calls_of (f := 21) follows_ok Tryz.func21 (Eq.mpr (F_receiver_Report_eq r_0 r_1 r_2 r_3 r_4 r_5 r_6 r_7 r_8 r_9 r_10 r_11 r_12 r_13_a r_13_l r_13_c size w _) h)

def h_ref19_Decode : H := (.seq .reg (.seq (.seq .reg (.cond (.seq .reg .leaf) .leaf)) (.seq (.seq .reg (.cond (.seq .reg .leaf) .leaf)) (.seq .reg (.seq .reg (.seq (.seq .reg (.block (.loop [(7, .p (.int .i64)), (8, .p (.int .i64))] [5, 7, 8, 9, 10, 28, 29, 30, 31, 32, 33, 34, 35, 36, 37, 38, 39, 40, 41, 42, 43, 44, 45, 46, 47, 48, 49, 50, 51, 52, 53, 54, 55, 56, 57, 58, 59, 60, 61, 62, 63, 64, 65, 66, 67, 68, 69, 70, 71] (.seq (.seq .reg (.cond .leaf .leaf)) (.seq (.block (.seq (.seq .reg (.cond (.seq .reg .leaf) .leaf)) (.seq .reg (.seq .reg (.seq .reg (.seq (.seq .reg (.cond (.seq (.seq .reg (.cond (.seq .reg .leaf) .leaf)) (.seq .reg .reg)) .leaf)) .reg)))))) .reg))))) (.seq .reg (.seq (.seq .reg (.cond (.seq .reg .leaf) .leaf)) (.seq .reg .leaf)))))))))
def F_ref19_Decode (bits : Int) (b_a : Option Addr) (b_l : Nat) (b_c : Nat) (w : World) (R : Value → World → Prop) : Prop :=
 (kAlloc w #[.int .i64 (0 : Int), .slice none 0 0] Ty_api_Status fun b w1 =>
 (Calls Tryz.prog N_ref15_Bits #[(.int .i64 bits)] w1 fun e_ w2 =>
 ∃ r : Bool, e_ = .returned (.bool r) ∧
 (bsplit (!r)
 ((sxStore w2 ⟨b, 0, none⟩ 0 [(.int .i64 (0 : Int)), (.slice none 0 0)] fun w3 =>
 (∃ r_0 : Int, ∃ r_1_a : Option Addr, ∃ r_1_l r_1_c : Nat, cellsAt w3 ⟨b, 0, none⟩ 0 [(.int .i64 r_0), (.slice r_1_a r_1_l r_1_c)] ∧
 R (.tuple #[(.agg #[.int .i64 r_0, .slice r_1_a r_1_l r_1_c]), (.int .i64 (3 : Int))]) w3)))
 ((bsplit (decide ((b_l : Int) < (3 : Int)))
 ((sxStore w2 ⟨b, 0, none⟩ 0 [(.int .i64 (0 : Int)), (.slice none 0 0)] fun w4 =>
 (∃ r_01 : Int, ∃ r_1_a1 : Option Addr, ∃ r_1_l1 r_1_c1 : Nat, cellsAt w4 ⟨b, 0, none⟩ 0 [(.int .i64 r_01), (.slice r_1_a1 r_1_l1 r_1_c1)] ∧
 R (.tuple #[(.agg #[.int .i64 r_01, .slice r_1_a1 r_1_l1 r_1_c1]), (.int .i64 (5 : Int))]) w4)))
 ((Calls Tryz.prog N_ref01_Get #[(.slice b_a b_l b_c), (.int .i64 (0 : Int)), (.int .i64 (2 : Int))] w2 fun e_1 w5 =>
 ∃ r1 : Int, e_1 = .returned (.int .i64 r1) ∧
 (kAlloc w5 #[.int .i64 (0 : Int), .slice none 0 0] Ty_api_Status fun b1 w6 =>
 (sxStore w6 ⟨b1, 0, none⟩ 0 [(.int .i64 r1), (.slice none 0 0)] fun w7 =>
 (kIx b_a b_l (2 : Int) fun b2 =>
 (kLd w7 (b2.add ((2 : Int).toNat * 1)) .u8 fun x =>
 (kW .i64 (x) fun x1 =>
 (∃ I : Int → Int → Nat × (World → Prop), (I (3 : Int) x1).2 w7 ∧
 (∀ (_junk : Env) (at1 : Int) (n : Int) (w8 : World), (I at1 n).2 w8 →
 (bsplit (decide (n > (0 : Int)))
 ((kW .i64 (at1 + (2 : Int)) fun x2 =>
 (bsplit (decide ((b_l : Int) < x2))
 ((sxStore w8 ⟨b, 0, none⟩ 0 [(.int .i64 (0 : Int)), (.slice none 0 0)] fun w9 =>
 (∃ r_02 : Int, ∃ r_1_a2 : Option Addr, ∃ r_1_l2 r_1_c2 : Nat, cellsAt w9 ⟨b, 0, none⟩ 0 [(.int .i64 r_02), (.slice r_1_a2 r_1_l2 r_1_c2)] ∧
 R (.tuple #[(.agg #[.int .i64 r_02, .slice r_1_a2 r_1_l2 r_1_c2]), (.int .i64 (5 : Int))]) w9)))
 ((Calls Tryz.prog N_ref01_Get #[(.slice b_a b_l b_c), (.int .i64 at1), (.int .i64 (2 : Int))] w8 fun e_2 w10 =>
 ∃ r2 : Int, e_2 = .returned (.int .i64 r2) ∧
 (kLet (Int.fdiv r2 (2 ^ 4)) fun x3 =>
 (kAlloc w10 #[.int .i64 (0 : Int), .int .i64 (0 : Int), .int .i64 (0 : Int)] Ty_api_Range fun b3 w11 =>
 (sxStore w11 ⟨b3, 0, none⟩ 0 [(.int .i64 x3), (.int .i64 (0 : Int)), (.int .i64 (0 : Int))] fun w12 =>
 (kW .i64 (at1 + (2 : Int)) fun x4 =>
 (kLet (bAnd .i64 r2 (15 : Int)) fun x5 =>
 (bsplit (decide (x5 = (1 : Int)))
 ((kW .i64 (x4 + (4 : Int)) fun x6 =>
 (bsplit (decide ((b_l : Int) < x6))
 ((sxStore w12 ⟨b, 0, none⟩ 0 [(.int .i64 (0 : Int)), (.slice none 0 0)] fun w13 =>
 (∃ r_03 : Int, ∃ r_1_a3 : Option Addr, ∃ r_1_l3 r_1_c3 : Nat, cellsAt w13 ⟨b, 0, none⟩ 0 [(.int .i64 r_03), (.slice r_1_a3 r_1_l3 r_1_c3)] ∧
 R (.tuple #[(.agg #[.int .i64 r_03, .slice r_1_a3 r_1_l3 r_1_c3]), (.int .i64 (5 : Int))]) w13)))
 ((Calls Tryz.prog N_ref01_Get #[(.slice b_a b_l b_c), (.int .i64 x4), (.int .i64 (2 : Int))] w12 fun e_3 w14 =>
 ∃ r3 : Int, e_3 = .returned (.int .i64 r3) ∧
 (kW .i64 (x4 + (2 : Int)) fun x7 =>
 (Calls Tryz.prog N_ref01_Get #[(.slice b_a b_l b_c), (.int .i64 x7), (.int .i64 (2 : Int))] w14 fun e_4 w15 =>
 ∃ r4 : Int, e_4 = .returned (.int .i64 r4) ∧
 (kSet w15 ⟨b3, 1, none⟩ (.int .i64 r3) fun w16 =>
 (kSet w16 ⟨b3, 2, none⟩ (.int .i64 r4) fun w17 =>
 (kW .i64 (x4 + (4 : Int)) fun x8 =>
 (kLdS w17 ⟨b1, 1, none⟩ fun x_a x_l x_c =>
 (∃ x_0 x_1 x_2 : Int, cellsAt w17 ⟨b3, 0, none⟩ 0 [(.int .i64 x_0), (.int .i64 x_1), (.int .i64 x_2)] ∧
 (kAlloc w17 #[(.int .i64 x_0), (.int .i64 x_1), (.int .i64 x_2)] Ty_api_Range fun b4 w18 =>
 (AppP Tryz.prog #[Ty_S_api_Range, Ty_S_api_Range] Ty_S_api_Range #[(.slice x_a x_l x_c), (.slice (some ⟨b4, 0, none⟩) 1 1)] w18 fun x_a1 x_l1 x_c1 w19 =>
 (kSet w19 ⟨b1, 1, none⟩ (.slice x_a1 x_l1 x_c1) fun w20 =>
 (kW .i64 (n - (1 : Int)) fun x9 =>
 ((I x8 x9).2 w20 ∧ (I x8 x9).1 < (I at1 n).1)))))))))))))))))
 ((kLdS w12 ⟨b1, 1, none⟩ fun x_a2 x_l2 x_c2 =>
 (∃ x_01 x_11 x_21 : Int, cellsAt w12 ⟨b3, 0, none⟩ 0 [(.int .i64 x_01), (.int .i64 x_11), (.int .i64 x_21)] ∧
 (kAlloc w12 #[(.int .i64 x_01), (.int .i64 x_11), (.int .i64 x_21)] Ty_api_Range fun b5 w21 =>
 (AppP Tryz.prog #[Ty_S_api_Range, Ty_S_api_Range] Ty_S_api_Range #[(.slice x_a2 x_l2 x_c2), (.slice (some ⟨b5, 0, none⟩) 1 1)] w21 fun x_a3 x_l3 x_c3 w22 =>
 (kSet w22 ⟨b1, 1, none⟩ (.slice x_a3 x_l3 x_c3) fun w23 =>
 (kW .i64 (n - (1 : Int)) fun x10 =>
 ((I x4 x10).2 w23 ∧ (I x4 x10).1 < (I at1 n).1)))))))))))))))))))
 ((∃ x_02 : Int, ∃ x_1_a : Option Addr, ∃ x_1_l x_1_c : Nat, cellsAt w8 ⟨b1, 0, none⟩ 0 [(.int .i64 x_02), (.slice x_1_a x_1_l x_1_c)] ∧
 (Calls Tryz.prog N_ref19_Encode #[(.int .i64 bits), (.agg #[.int .i64 x_02, .slice x_1_a x_1_l x_1_c])] w8 fun e_5 w24 =>
 ∃ r_a : Option Addr, ∃ r_l r_c : Nat, ∃ r5 : Int, e_5 = .returned (.tuple #[(.slice r_a r_l r_c), (.int .i64 r5)]) ∧
 (bsplit (!decide (r5 = (0 : Int)))
 ((sxStore w24 ⟨b, 0, none⟩ 0 [(.int .i64 (0 : Int)), (.slice none 0 0)] fun w25 =>
 (∃ r_04 : Int, ∃ r_1_a4 : Option Addr, ∃ r_1_l4 r_1_c4 : Nat, cellsAt w25 ⟨b, 0, none⟩ 0 [(.int .i64 r_04), (.slice r_1_a4 r_1_l4 r_1_c4)] ∧
 R (.tuple #[(.agg #[.int .i64 r_04, .slice r_1_a4 r_1_l4 r_1_c4]), (.int .i64 (4 : Int))]) w25)))
 ((Calls Tryz.prog N_ref01_Same #[(.slice b_a b_l b_c), (.slice r_a r_l r_c)] w24 fun e_6 w27 =>
 ∃ r6 : Bool, e_6 = .returned (.bool r6) ∧
 (bsplit (!r6)
 ((sxStore w27 ⟨b, 0, none⟩ 0 [(.int .i64 (0 : Int)), (.slice none 0 0)] fun w28 =>
 (∃ r_06 : Int, ∃ r_1_a6 : Option Addr, ∃ r_1_l6 r_1_c6 : Nat, cellsAt w28 ⟨b, 0, none⟩ 0 [(.int .i64 r_06), (.slice r_1_a6 r_1_l6 r_1_c6)] ∧
 R (.tuple #[(.agg #[.int .i64 r_06, .slice r_1_a6 r_1_l6 r_1_c6]), (.int .i64 (4 : Int))]) w28)))
 ((∃ x_04 : Int, ∃ x_1_a2 : Option Addr, ∃ x_1_l2 x_1_c2 : Nat, cellsAt w27 ⟨b1, 0, none⟩ 0 [(.int .i64 x_04), (.slice x_1_a2 x_1_l2 x_1_c2)] ∧
 (sxStore w27 ⟨b, 0, none⟩ 0 [(.int .i64 x_04), (.slice x_1_a2 x_1_l2 x_1_c2)] fun w29 =>
 (∃ r_07 : Int, ∃ r_1_a7 : Option Addr, ∃ r_1_l7 r_1_c7 : Nat, cellsAt w29 ⟨b, 0, none⟩ 0 [(.int .i64 r_07), (.slice r_1_a7 r_1_l7 r_1_c7)] ∧
 R (.tuple #[(.agg #[.int .i64 r_07, .slice r_1_a7 r_1_l7 r_1_c7]), (.int .i64 (0 : Int))]) w29))))))))))))))))))))))))))
theorem F_ref19_Decode_eq (bits : Int) (b_a : Option Addr) (b_l : Nat) (b_c : Nat) (w : World) (R : Value → World → Prop) : sxFn Tryz.prog TT h_ref19_Decode Tryz.f22 #[(.int .i64 bits), (.slice b_a b_l b_c)] w R = F_ref19_Decode bits b_a b_l b_c w R := by kernel_rfl
theorem F_ref19_Decode_ok {R : Ending → World → Prop} (bits : Int) (b_a : Option Addr) (b_l : Nat) (b_c : Nat) (w : World) (h : F_ref19_Decode bits b_a b_l b_c w fun v w' => R (.returned v) w') : Calls Tryz.prog N_ref19_Decode #[(.int .i64 bits), (.slice b_a b_l b_c)] w R :=
 calls_of (f := 22) follows_ok Tryz.func22 (Eq.mpr (F_ref19_Decode_eq bits b_a b_l b_c w _) h)

def h_ref21_Status : H := (.seq .reg (.seq (.seq .reg (.cond (.seq .reg .leaf) .leaf)) (.seq .reg (.seq .reg (.seq (.seq .reg (.block (.loop [(5, .p (.int .i64)), (6, .p (.int .i64))] [5, 6, 7, 8, 9, 10, 18, 19, 20, 21, 22, 23, 24, 25, 26, 27, 28, 29, 30, 31, 32, 33, 34, 35, 36, 37, 38, 39, 40, 41, 42, 43, 44, 45, 46, 47, 48, 49, 50, 51, 52, 53, 54, 55, 56, 57, 58, 59, 60, 61, 62, 63, 64, 65, 66, 67, 68, 69, 70, 71, 72, 73, 74, 75, 76, 77, 78, 79, 80, 81, 82, 83, 84, 85, 86] (.seq (.seq .reg (.cond .leaf .leaf)) (.seq (.block (.seq .reg (.seq .reg (.cut [(5, .p (.int .i64)), (8, .p .slice)] [5, 8, 9, 10, 37, 38, 39, 40, 41, 42, 43, 44, 45, 46, 47, 48, 49, 50, 51, 52, 53, 54, 55, 56, 57, 58, 59, 60, 61, 62, 63, 64, 65, 66, 67, 68, 69, 70, 71, 72] (.cut [(51, .p .bool)] [37, 38, 39, 40, 41, 42, 43, 44, 45, 46, 47, 48, 49, 50, 51] .reg (.cond (.seq .reg (.seq .reg (.seq (.seq .reg (.cond .leaf .leaf)) (.seq .reg (.seq (.seq .reg (.cond .reg .leaf)) .reg))))) .leaf)) (.seq (.seq .reg (.cond (.seq .reg .leaf) .leaf)) .reg))))) .reg))))) (.seq .reg .leaf))))))
def F_ref21_Status (r_0 : Int) (r_1 : Int) (r_2 : Int) (r_3 : Int) (r_4 : Int) (r_5 : Int) (r_6 : Int) (r_7 : Int) (r_8 : Int) (r_9 : Int) (r_10 : Int) (r_11 : Int) (r_12 : Bool) (r_13_a : Option Addr) (r_13_l : Nat) (r_13_c : Nat) (w : World) (R : Value → World → Prop) : Prop :=
 (kAlloc w #[(.int .i64 r_0), (.int .i64 r_1), (.int .i64 r_2), (.int .i64 r_3), (.int .i64 r_4), (.int .i64 r_5), (.int .i64 r_6), (.int .i64 r_7), (.int .i64 r_8), (.int .i64 r_9), (.int .i64 r_10), (.int .i64 r_11), (.bool r_12), (.slice r_13_a r_13_l r_13_c)] Ty_api_Receiver fun b w1 =>
 (kAlloc w1 #[.int .i64 (0 : Int), .slice none 0 0] Ty_api_Status fun b1 w2 =>
 (∃ x_0 x_1 x_2 x_3 x_4 x_5 x_6 x_7 x_8 x_9 x_10 x_11 : Int, ∃ x_12 : Bool, ∃ x_13_a : Option Addr, ∃ x_13_l x_13_c : Nat, cellsAt w2 ⟨b, 0, none⟩ 0 [(.int .i64 x_0), (.int .i64 x_1), (.int .i64 x_2), (.int .i64 x_3), (.int .i64 x_4), (.int .i64 x_5), (.int .i64 x_6), (.int .i64 x_7), (.int .i64 x_8), (.int .i64 x_9), (.int .i64 x_10), (.int .i64 x_11), (.bool x_12), (.slice x_13_a x_13_l x_13_c)] ∧
 (Calls Tryz.prog N_ref21_Valid #[(.agg #[.int .i64 x_0, .int .i64 x_1, .int .i64 x_2, .int .i64 x_3, .int .i64 x_4, .int .i64 x_5, .int .i64 x_6, .int .i64 x_7, .int .i64 x_8, .int .i64 x_9, .int .i64 x_10, .int .i64 x_11, .bool x_12, .slice x_13_a x_13_l x_13_c])] w2 fun e_ w3 =>
 ∃ r : Bool, e_ = .returned (.bool r) ∧
 (bsplit (!r)
 ((sxStore w3 ⟨b1, 0, none⟩ 0 [(.int .i64 (0 : Int)), (.slice none 0 0)] fun w4 =>
 (∃ r_01 : Int, ∃ r_1_a : Option Addr, ∃ r_1_l r_1_c : Nat, cellsAt w4 ⟨b1, 0, none⟩ 0 [(.int .i64 r_01), (.slice r_1_a r_1_l r_1_c)] ∧
 R (.tuple #[(.agg #[.int .i64 r_01, .slice r_1_a r_1_l r_1_c]), (.int .i64 (1 : Int))]) w4)))
 ((kLd w3 ⟨b, 8, none⟩ .i64 fun x =>
 (kAlloc w3 #[.int .i64 (0 : Int), .slice none 0 0] Ty_api_Status fun b2 w5 =>
 (sxStore w5 ⟨b2, 0, none⟩ 0 [(.int .i64 x), (.slice none 0 0)] fun w6 =>
 (∃ I : Int → Int → Nat × (World → Prop), (I (0 : Int) (0 : Int)).2 w6 ∧
 (∀ (_junk : Env) (k : Int) (i : Int) (w7 : World), (I k i).2 w7 →
 (∃ x_01 x_13 x_21 x_31 x_41 x_51 x_61 x_71 x_81 x_91 x_101 x_111 : Int, ∃ x_121 : Bool, ∃ x_13_a1 : Option Addr, ∃ x_13_l1 x_13_c1 : Nat, cellsAt w7 ⟨b, 0, none⟩ 0 [(.int .i64 x_01), (.int .i64 x_13), (.int .i64 x_21), (.int .i64 x_31), (.int .i64 x_41), (.int .i64 x_51), (.int .i64 x_61), (.int .i64 x_71), (.int .i64 x_81), (.int .i64 x_91), (.int .i64 x_101), (.int .i64 x_111), (.bool x_121), (.slice x_13_a1 x_13_l1 x_13_c1)] ∧
 (kLd w7 ⟨b, 8, none⟩ .i64 fun x1 =>
 (Calls Tryz.prog N_ref21_place #[(.agg #[.int .i64 x_01, .int .i64 x_13, .int .i64 x_21, .int .i64 x_31, .int .i64 x_41, .int .i64 x_51, .int .i64 x_61, .int .i64 x_71, .int .i64 x_81, .int .i64 x_91, .int .i64 x_101, .int .i64 x_111, .bool x_121, .slice x_13_a1 x_13_l1 x_13_c1]), (.int .i64 x1)] w7 fun e_1 w8 =>
 ∃ r1 : Int, e_1 = .returned (.int .i64 r1) ∧
 (bsplit (decide (i < r1))
 ((kLd w8 ⟨b, 0, none⟩ .i64 fun x2 =>
 (kLd w8 ⟨b, 6, none⟩ .i64 fun x3 =>
 (kW .i64 (x3 + i) fun x4 =>
 (Calls Tryz.prog N_ref02_Low #[(.int .i64 x2), (.int .i64 x4)] w8 fun e_2 w9 =>
 ∃ r2 : Int, e_2 = .returned (.int .i64 r2) ∧
 (kAlloc w9 #[(.int .i64 r2), (.int .i64 (0 : Int)), (.int .i64 (0 : Int))] Ty_api_Range fun b3 w10 =>
 (∃ J : Int → Option Addr → Nat → Nat → World → Prop,
 (∀ (_junk : Env) (k1 : Int) (more_a : Option Addr) (more_l : Nat) (more_c : Nat) (w16 : World), J k1 more_a more_l more_c w16 →
 (kLdS w16 ⟨b2, 1, none⟩ fun _ x_l5 _ =>
 (kW .i64 ((x_l5 : Int) + (more_l : Int)) fun x11 =>
 (bsplit (decide (x11 > (64 : Int)))
 ((kSet w16 ⟨b2, 0, none⟩ (.int .i64 r2) fun w17 =>
 (∃ x_03 : Int, ∃ x_1_a : Option Addr, ∃ x_1_l x_1_c : Nat, cellsAt w17 ⟨b2, 0, none⟩ 0 [(.int .i64 x_03), (.slice x_1_a x_1_l x_1_c)] ∧
 (sxStore w17 ⟨b1, 0, none⟩ 0 [(.int .i64 x_03), (.slice x_1_a x_1_l x_1_c)] fun w18 =>
 (∃ r_02 : Int, ∃ r_1_a1 : Option Addr, ∃ r_1_l1 r_1_c1 : Nat, cellsAt w18 ⟨b1, 0, none⟩ 0 [(.int .i64 r_02), (.slice r_1_a1 r_1_l1 r_1_c1)] ∧
 R (.tuple #[(.agg #[.int .i64 r_02, .slice r_1_a1 r_1_l1 r_1_c1]), (.int .i64 (0 : Int))]) w18)))))
 ((kLdS w16 ⟨b2, 1, none⟩ fun x_a6 x_l6 x_c6 =>
 (AppP Tryz.prog #[Ty_S_api_Range, Ty_S_api_Range] Ty_S_api_Range #[(.slice x_a6 x_l6 x_c6), (.slice more_a more_l more_c)] w16 fun x_a7 x_l7 x_c7 w19 =>
 (kSet w19 ⟨b2, 1, none⟩ (.slice x_a7 x_l7 x_c7) fun w20 =>
 (kW .i64 (i + (1 : Int)) fun x12 =>
 ((I k1 x12).2 w20 ∧ (I k1 x12).1 < (I k i).1)))))))))) ∧
 (∃ J1 : Bool → World → Prop,
 (∀ (_junk : Env) (x6 : Bool) (w11 : World), J1 x6 w11 →
 (bsplit x6
 ((kLdS w11 ⟨b, 13, none⟩ fun x_a2 x_l2 _ =>
 (kIx x_a2 x_l2 k fun b5 =>
 (∃ x_02 : Int, ∃ x_14 : Bool, ∃ x_22 : Int, ∃ x_3_a : Option Addr, ∃ x_3_l x_3_c : Nat, ∃ x_4_a : Option Addr, ∃ x_4_l x_4_c : Nat, cellsAt w11 (b5.add (k.toNat * 5)) 0 [(.int .i64 x_02), (.bool x_14), (.int .i64 x_22), (.slice x_3_a x_3_l x_3_c), (.slice x_4_a x_4_l x_4_c)] ∧
 (kAlloc w11 #[.int .i64 (0 : Int), .bool false, .int .i64 (0 : Int), .slice none 0 0, .slice none 0 0] Ty_api_Partial fun b6 w12 =>
 (sxStore w12 ⟨b6, 0, none⟩ 0 [(.int .i64 x_02), (.bool x_14), (.int .i64 x_22), (.slice x_3_a x_3_l x_3_c), (.slice x_4_a x_4_l x_4_c)] fun w13 =>
 (kW .i64 (k + (1 : Int)) fun x7 =>
 (kLdB w13 ⟨b6, 1, none⟩ fun x8 =>
 (bsplit x8
 ((kW .i64 (i + (1 : Int)) fun x9 =>
 ((I x7 x9).2 w13 ∧ (I x7 x9).1 < (I k i).1)))
 ((kLd w13 ⟨b6, 2, none⟩ .i64 fun x10 =>
 (bsplit (decide (x10 = (-1 : Int)))
 ((kLdS w13 ⟨b6, 4, none⟩ fun x_a3 x_l3 x_c3 =>
 (Calls Tryz.prog N_ref18_Gaps #[(.slice x_a3 x_l3 x_c3), (.int .i64 r2), (.int .i64 (65535 : Int))] w13 fun e_3 w14 =>
 ∃ r_a : Option Addr, ∃ r_l r_c : Nat, ∃ r3 : Int, e_3 = .returned (.tuple #[(.slice r_a r_l r_c), (.int .i64 r3)]) ∧
 J x7 r_a r_l r_c w14)))
 ((kLdS w13 ⟨b6, 4, none⟩ fun x_a4 x_l4 x_c4 =>
 (Calls Tryz.prog N_ref18_Gaps #[(.slice x_a4 x_l4 x_c4), (.int .i64 r2), (.int .i64 x10)] w13 fun e_4 w15 =>
 ∃ r_a1 : Option Addr, ∃ r_l1 r_c1 : Nat, ∃ r4 : Int, e_4 = .returned (.tuple #[(.slice r_a1 r_l1 r_c1), (.int .i64 r4)]) ∧
 J x7 r_a1 r_l1 r_c1 w15)))))))))))))))
 (J k (some ⟨b3, 0, none⟩) 1 1 w11))) ∧
 (kLdS w10 ⟨b, 13, none⟩ fun _ x_l _ =>
 (bsplit (decide (k < (x_l : Int)))
 ((kLdS w10 ⟨b, 13, none⟩ fun x_a1 x_l1 _ =>
 (kIx x_a1 x_l1 k fun b4 =>
 (kLd w10 (b4.add (k.toNat * 5)) .i64 fun x5 =>
 J1 (decide (x5 = r2)) w10))))
 (J1 false w10)))))))))))
 ((∃ x_04 : Int, ∃ x_1_a1 : Option Addr, ∃ x_1_l1 x_1_c1 : Nat, cellsAt w8 ⟨b2, 0, none⟩ 0 [(.int .i64 x_04), (.slice x_1_a1 x_1_l1 x_1_c1)] ∧
 (sxStore w8 ⟨b1, 0, none⟩ 0 [(.int .i64 x_04), (.slice x_1_a1 x_1_l1 x_1_c1)] fun w21 =>
 (∃ r_03 : Int, ∃ r_1_a2 : Option Addr, ∃ r_1_l2 r_1_c2 : Nat, cellsAt w21 ⟨b1, 0, none⟩ 0 [(.int .i64 r_03), (.slice r_1_a2 r_1_l2 r_1_c2)] ∧
 R (.tuple #[(.agg #[.int .i64 r_03, .slice r_1_a2 r_1_l2 r_1_c2]), (.int .i64 (0 : Int))]) w21)))))))))))))))))))
theorem F_ref21_Status_eq (r_0 : Int) (r_1 : Int) (r_2 : Int) (r_3 : Int) (r_4 : Int) (r_5 : Int) (r_6 : Int) (r_7 : Int) (r_8 : Int) (r_9 : Int) (r_10 : Int) (r_11 : Int) (r_12 : Bool) (r_13_a : Option Addr) (r_13_l : Nat) (r_13_c : Nat) (w : World) (R : Value → World → Prop) : sxFn Tryz.prog TT h_ref21_Status Tryz.f23 #[(.agg #[.int .i64 r_0, .int .i64 r_1, .int .i64 r_2, .int .i64 r_3, .int .i64 r_4, .int .i64 r_5, .int .i64 r_6, .int .i64 r_7, .int .i64 r_8, .int .i64 r_9, .int .i64 r_10, .int .i64 r_11, .bool r_12, .slice r_13_a r_13_l r_13_c])] w R = F_ref21_Status r_0 r_1 r_2 r_3 r_4 r_5 r_6 r_7 r_8 r_9 r_10 r_11 r_12 r_13_a r_13_l r_13_c w R := by kernel_rfl
theorem F_ref21_Status_ok {R : Ending → World → Prop} (r_0 : Int) (r_1 : Int) (r_2 : Int) (r_3 : Int) (r_4 : Int) (r_5 : Int) (r_6 : Int) (r_7 : Int) (r_8 : Int) (r_9 : Int) (r_10 : Int) (r_11 : Int) (r_12 : Bool) (r_13_a : Option Addr) (r_13_l : Nat) (r_13_c : Nat) (w : World) (h : F_ref21_Status r_0 r_1 r_2 r_3 r_4 r_5 r_6 r_7 r_8 r_9 r_10 r_11 r_12 r_13_a r_13_l r_13_c w fun v w' => R (.returned v) w') : Calls Tryz.prog N_ref21_Status #[(.agg #[.int .i64 r_0, .int .i64 r_1, .int .i64 r_2, .int .i64 r_3, .int .i64 r_4, .int .i64 r_5, .int .i64 r_6, .int .i64 r_7, .int .i64 r_8, .int .i64 r_9, .int .i64 r_10, .int .i64 r_11, .bool r_12, .slice r_13_a r_13_l r_13_c])] w R :=
 calls_of (f := 23) follows_ok Tryz.func23 (Eq.mpr (F_ref21_Status_eq r_0 r_1 r_2 r_3 r_4 r_5 r_6 r_7 r_8 r_9 r_10 r_11 r_12 r_13_a r_13_l r_13_c w _) h)

def h_ref19_Same : H := (.seq .reg (.seq .reg .leaf))
def F_ref19_Same (a_0 : Int) (a_1_a : Option Addr) (a_1_l : Nat) (a_1_c : Nat) (b_0 : Int) (b_1_a : Option Addr) (b_1_l : Nat) (b_1_c : Nat) (w : World) (R : Value → World → Prop) : Prop :=
 (kAlloc w #[(.int .i64 a_0), (.slice a_1_a a_1_l a_1_c)] Ty_api_Status fun b w1 =>
 (kAlloc w1 #[(.int .i64 b_0), (.slice b_1_a b_1_l b_1_c)] Ty_api_Status fun b1 w2 =>
 (kLd w2 ⟨b, 0, none⟩ .i64 fun x =>
 (kLd w2 ⟨b1, 0, none⟩ .i64 fun x1 =>
 (bsplit (decide (x = x1))
 ((kLdS w2 ⟨b, 1, none⟩ fun x_a x_l x_c =>
 (kLdS w2 ⟨b1, 1, none⟩ fun x_a1 x_l1 x_c1 =>
 (Calls Tryz.prog N_ref18_SameRanges #[(.slice x_a x_l x_c), (.slice x_a1 x_l1 x_c1)] w2 fun e_ w3 =>
 ∃ r : Bool, e_ = .returned (.bool r) ∧
 R (.bool r) w3))))
 (R (.bool false) w2))))))
theorem F_ref19_Same_eq (a_0 : Int) (a_1_a : Option Addr) (a_1_l : Nat) (a_1_c : Nat) (b_0 : Int) (b_1_a : Option Addr) (b_1_l : Nat) (b_1_c : Nat) (w : World) (R : Value → World → Prop) : sxFn Tryz.prog TT h_ref19_Same Tryz.f24 #[(.agg #[.int .i64 a_0, .slice a_1_a a_1_l a_1_c]), (.agg #[.int .i64 b_0, .slice b_1_a b_1_l b_1_c])] w R = F_ref19_Same a_0 a_1_a a_1_l a_1_c b_0 b_1_a b_1_l b_1_c w R := by kernel_rfl
theorem F_ref19_Same_ok {R : Ending → World → Prop} (a_0 : Int) (a_1_a : Option Addr) (a_1_l : Nat) (a_1_c : Nat) (b_0 : Int) (b_1_a : Option Addr) (b_1_l : Nat) (b_1_c : Nat) (w : World) (h : F_ref19_Same a_0 a_1_a a_1_l a_1_c b_0 b_1_a b_1_l b_1_c w fun v w' => R (.returned v) w') : Calls Tryz.prog N_ref19_Same #[(.agg #[.int .i64 a_0, .slice a_1_a a_1_l a_1_c]), (.agg #[.int .i64 b_0, .slice b_1_a b_1_l b_1_c])] w R :=
 calls_of (f := 24) follows_ok Tryz.func24 (Eq.mpr (F_ref19_Same_eq a_0 a_1_a a_1_l a_1_c b_0 b_1_a b_1_l b_1_c w _) h)

def h_receiver_Tick : H := (.seq .reg (.seq (.seq .reg (.cond (.seq .reg .leaf) .leaf)) (.seq .reg (.seq .reg (.seq (.seq .reg (.cond (.seq .reg .leaf) .leaf)) (.cut [] [32, 33, 34, 35, 36, 37, 38, 39, 40, 41, 42, 43, 44, 45, 46, 47, 48, 49, 50, 51, 52, 53, 54, 55, 56, 57, 58, 59, 60, 61, 62, 63, 64, 65, 66, 67, 68, 69, 70, 71, 72, 73, 74, 75, 76, 77, 78, 79, 80] (.seq .reg (.seq .reg (.cond (.seq (.seq (.draw .blk (.one 0 .pre (.one 1 .pre (.one 2 .pre (.one 3 .pre (.one 4 .pre (.one 5 .pre (.one 7 .stable (.one 8 .stable (.one 9 .stable (.one 10 .stable (.one 11 .stable (.one 12 .stable (.one 6 .keep (.one 13 .keep (.one 14 .stable .nil)))))))))))))))) (.cond .reg .leaf)) (.seq .reg .reg)) .leaf))) (.seq .reg .leaf)))))))
def F_receiver_Tick (r_0 : Int) (r_1 : Int) (r_2 : Int) (r_3 : Int) (r_4 : Int) (r_5 : Int) (r_6 : Int) (r_7 : Int) (r_8 : Int) (r_9 : Int) (r_10 : Int) (r_11 : Int) (r_12 : Bool) (r_13_a : Option Addr) (r_13_l : Nat) (r_13_c : Nat) (w : World) (R : Value → World → Prop) : Prop :=
 (kAlloc w #[(.int .i64 r_0), (.int .i64 r_1), (.int .i64 r_2), (.int .i64 r_3), (.int .i64 r_4), (.int .i64 r_5), (.int .i64 r_6), (.int .i64 r_7), (.int .i64 r_8), (.int .i64 r_9), (.int .i64 r_10), (.int .i64 r_11), (.bool r_12), (.slice r_13_a r_13_l r_13_c)] Ty_api_Receiver fun b w1 =>
 (kAlloc w1 #[.int .i64 (0 : Int), .int .i64 (0 : Int), .int .i64 (0 : Int), .int .i64 (0 : Int), .int .i64 (0 : Int), .int .i64 (0 : Int), .int .i64 (0 : Int), .int .i64 (0 : Int), .int .i64 (0 : Int), .int .i64 (0 : Int), .int .i64 (0 : Int), .int .i64 (0 : Int), .bool false, .slice none 0 0] Ty_api_Receiver fun b1 w2 =>
 (∃ x_0 x_1 x_2 x_3 x_4 x_5 x_6 x_7 x_8 x_9 x_10 x_11 : Int, ∃ x_12 : Bool, ∃ x_13_a : Option Addr, ∃ x_13_l x_13_c : Nat, cellsAt w2 ⟨b, 0, none⟩ 0 [(.int .i64 x_0), (.int .i64 x_1), (.int .i64 x_2), (.int .i64 x_3), (.int .i64 x_4), (.int .i64 x_5), (.int .i64 x_6), (.int .i64 x_7), (.int .i64 x_8), (.int .i64 x_9), (.int .i64 x_10), (.int .i64 x_11), (.bool x_12), (.slice x_13_a x_13_l x_13_c)] ∧
 (Calls Tryz.prog N_receiver_Valid #[(.agg #[.int .i64 x_0, .int .i64 x_1, .int .i64 x_2, .int .i64 x_3, .int .i64 x_4, .int .i64 x_5, .int .i64 x_6, .int .i64 x_7, .int .i64 x_8, .int .i64 x_9, .int .i64 x_10, .int .i64 x_11, .bool x_12, .slice x_13_a x_13_l x_13_c])] w2 fun e_ w3 =>
 ∃ r : Bool, e_ = .returned (.bool r) ∧
 (bsplit (!r)
 ((sxStore w3 ⟨b1, 0, none⟩ 0 [(.int .i64 (0 : Int)), (.int .i64 (0 : Int)), (.int .i64 (0 : Int)), (.int .i64 (0 : Int)), (.int .i64 (0 : Int)), (.int .i64 (0 : Int)), (.int .i64 (0 : Int)), (.int .i64 (0 : Int)), (.int .i64 (0 : Int)), (.int .i64 (0 : Int)), (.int .i64 (0 : Int)), (.int .i64 (0 : Int)), (.bool false), (.slice none 0 0)] fun w4 =>
 (∃ r_01 r_13 r_21 r_31 r_41 r_51 r_61 r_71 r_81 r_91 r_101 r_111 : Int, ∃ r_121 : Bool, ∃ r_13_a1 : Option Addr, ∃ r_13_l1 r_13_c1 : Nat, cellsAt w4 ⟨b1, 0, none⟩ 0 [(.int .i64 r_01), (.int .i64 r_13), (.int .i64 r_21), (.int .i64 r_31), (.int .i64 r_41), (.int .i64 r_51), (.int .i64 r_61), (.int .i64 r_71), (.int .i64 r_81), (.int .i64 r_91), (.int .i64 r_101), (.int .i64 r_111), (.bool r_121), (.slice r_13_a1 r_13_l1 r_13_c1)] ∧
 R (.tuple #[(.agg #[.int .i64 r_01, .int .i64 r_13, .int .i64 r_21, .int .i64 r_31, .int .i64 r_41, .int .i64 r_51, .int .i64 r_61, .int .i64 r_71, .int .i64 r_81, .int .i64 r_91, .int .i64 r_101, .int .i64 r_111, .bool r_121, .slice r_13_a1 r_13_l1 r_13_c1]), (.int .i64 (1 : Int))]) w4)))
 ((∃ x_01 x_13 x_21 x_31 x_41 x_51 x_61 x_71 x_81 x_91 x_101 x_111 : Int, ∃ x_121 : Bool, ∃ x_13_a1 : Option Addr, ∃ x_13_l1 x_13_c1 : Nat, cellsAt w3 ⟨b, 0, none⟩ 0 [(.int .i64 x_01), (.int .i64 x_13), (.int .i64 x_21), (.int .i64 x_31), (.int .i64 x_41), (.int .i64 x_51), (.int .i64 x_61), (.int .i64 x_71), (.int .i64 x_81), (.int .i64 x_91), (.int .i64 x_101), (.int .i64 x_111), (.bool x_121), (.slice x_13_a1 x_13_l1 x_13_c1)] ∧
 (Calls Tryz.prog N_receiver_begin #[(.agg #[.int .i64 x_01, .int .i64 x_13, .int .i64 x_21, .int .i64 x_31, .int .i64 x_41, .int .i64 x_51, .int .i64 x_61, .int .i64 x_71, .int .i64 x_81, .int .i64 x_91, .int .i64 x_101, .int .i64 x_111, .bool x_121, .slice x_13_a1 x_13_l1 x_13_c1])] w3 fun e_1 w5 =>
 ∃ r1 : Option Addr, e_1 = .returned (.pointer r1) ∧
 (kNil r1 fun x =>
 (kLd w5 (x.add 11) .i64 fun x1 =>
 (kW .i64 (x1 - (1 : Int)) fun x2 =>
 (kNil r1 fun x3 =>
 (kSet w5 (x3.add 11) (.int .i64 (if x2 > (0 : Int) then x2 else (0 : Int))) fun w6 =>
 (kNil r1 fun x4 =>
 (kLd w6 (x4.add 10) .i64 fun x5 =>
 (bsplit (decide (x5 = (0 : Int)))
 ((kNil r1 fun x6 =>
 (∃ x_02 x_14 x_22 x_32 x_42 x_52 x_62 x_72 x_82 x_92 x_102 x_112 : Int, ∃ x_122 : Bool, ∃ x_13_a2 : Option Addr, ∃ x_13_l2 x_13_c2 : Nat, cellsAt w6 x6 0 [(.int .i64 x_02), (.int .i64 x_14), (.int .i64 x_22), (.int .i64 x_32), (.int .i64 x_42), (.int .i64 x_52), (.int .i64 x_62), (.int .i64 x_72), (.int .i64 x_82), (.int .i64 x_92), (.int .i64 x_102), (.int .i64 x_112), (.bool x_122), (.slice x_13_a2 x_13_l2 x_13_c2)] ∧
 (sxStore w6 ⟨b1, 0, none⟩ 0 [(.int .i64 x_02), (.int .i64 x_14), (.int .i64 x_22), (.int .i64 x_32), (.int .i64 x_42), (.int .i64 x_52), (.int .i64 x_62), (.int .i64 x_72), (.int .i64 x_82), (.int .i64 x_92), (.int .i64 x_102), (.int .i64 x_112), (.bool x_122), (.slice x_13_a2 x_13_l2 x_13_c2)] fun w7 =>
 (∃ r_02 r_14 r_22 r_32 r_42 r_52 r_62 r_72 r_82 r_92 r_102 r_112 : Int, ∃ r_122 : Bool, ∃ r_13_a2 : Option Addr, ∃ r_13_l2 r_13_c2 : Nat, cellsAt w7 ⟨b1, 0, none⟩ 0 [(.int .i64 r_02), (.int .i64 r_14), (.int .i64 r_22), (.int .i64 r_32), (.int .i64 r_42), (.int .i64 r_52), (.int .i64 r_62), (.int .i64 r_72), (.int .i64 r_82), (.int .i64 r_92), (.int .i64 r_102), (.int .i64 r_112), (.bool r_122), (.slice r_13_a2 r_13_l2 r_13_c2)] ∧
 R (.tuple #[(.agg #[.int .i64 r_02, .int .i64 r_14, .int .i64 r_22, .int .i64 r_32, .int .i64 r_42, .int .i64 r_52, .int .i64 r_62, .int .i64 r_72, .int .i64 r_82, .int .i64 r_92, .int .i64 r_102, .int .i64 r_112, .bool r_122, .slice r_13_a2 r_13_l2 r_13_c2]), (.int .i64 (0 : Int))]) w7)))))
 ((∃ J : World → Prop,
 (∀ (_junk : Env)  (w19 : World), J w19 →
 (kNil r1 fun x24 =>
 (∃ x_03 x_15 x_23 x_33 x_43 x_53 x_63 x_73 x_83 x_93 x_103 x_113 : Int, ∃ x_123 : Bool, ∃ x_13_a3 : Option Addr, ∃ x_13_l3 x_13_c3 : Nat, cellsAt w19 x24 0 [(.int .i64 x_03), (.int .i64 x_15), (.int .i64 x_23), (.int .i64 x_33), (.int .i64 x_43), (.int .i64 x_53), (.int .i64 x_63), (.int .i64 x_73), (.int .i64 x_83), (.int .i64 x_93), (.int .i64 x_103), (.int .i64 x_113), (.bool x_123), (.slice x_13_a3 x_13_l3 x_13_c3)] ∧
 (sxStore w19 ⟨b1, 0, none⟩ 0 [(.int .i64 x_03), (.int .i64 x_15), (.int .i64 x_23), (.int .i64 x_33), (.int .i64 x_43), (.int .i64 x_53), (.int .i64 x_63), (.int .i64 x_73), (.int .i64 x_83), (.int .i64 x_93), (.int .i64 x_103), (.int .i64 x_113), (.bool x_123), (.slice x_13_a3 x_13_l3 x_13_c3)] fun w20 =>
 (∃ r_03 r_15 r_23 r_33 r_43 r_53 r_63 r_73 r_83 r_93 r_103 r_113 : Int, ∃ r_123 : Bool, ∃ r_13_a3 : Option Addr, ∃ r_13_l3 r_13_c3 : Nat, cellsAt w20 ⟨b1, 0, none⟩ 0 [(.int .i64 r_03), (.int .i64 r_15), (.int .i64 r_23), (.int .i64 r_33), (.int .i64 r_43), (.int .i64 r_53), (.int .i64 r_63), (.int .i64 r_73), (.int .i64 r_83), (.int .i64 r_93), (.int .i64 r_103), (.int .i64 r_113), (.bool r_123), (.slice r_13_a3 r_13_l3 r_13_c3)] ∧
 R (.tuple #[(.agg #[.int .i64 r_03, .int .i64 r_15, .int .i64 r_23, .int .i64 r_33, .int .i64 r_43, .int .i64 r_53, .int .i64 r_63, .int .i64 r_73, .int .i64 r_83, .int .i64 r_93, .int .i64 r_103, .int .i64 r_113, .bool r_123, .slice r_13_a3 r_13_l3 r_13_c3]), (.int .i64 (0 : Int))]) w20))))) ∧
 (kNil r1 fun x7 =>
 (kLd w6 (x7.add 10) .i64 fun x8 =>
 (kW .i64 (x8 - (1 : Int)) fun x9 =>
 (kNil r1 fun x10 =>
 (kSet w6 (x10.add 10) (.int .i64 x9) fun w8 =>
 (kNil r1 fun x11 =>
 (kLd w8 (x11.add 10) .i64 fun x12 =>
 (bsplit (decide (x12 = (0 : Int)))
 ((kDrew w8 fun w9 =>
 (∃ S : Nat → Prop,
 (kNil r1 fun x13 =>
 (kLd w9 (x13.add 9) .i64 fun x14 =>
 (kNil r1 fun x15 =>
 (S (x15.add 8).block ∧
 (kLd w9 (x15.add 8) .i64 fun x16 =>
 (Calls Tryz.prog N_receiver_side_place #[(.pointer r1), (.int .i64 x14)] w9 fun e_2 w10 =>
 ∃ r2 : Int, e_2 = .returned (.int .i64 r2) ∧
 (KeepsB S w9 w10 ∧ (Calls Tryz.prog N_receiver_side_place #[(.pointer r1), (.int .i64 x16)] w10 fun e_3 w11 =>
 ∃ r3 : Int, e_3 = .returned (.int .i64 r3) ∧
 (KeepsB S w9 w11 ∧ (bsplit (decide (r2 > r3))
 ((kNil r1 fun x17 =>
 (kLd w11 (x17.add 9) .i64 fun x18 =>
 (kNil r1 fun x19 =>
 (kSet w11 (x19.add 8) (.int .i64 x18) fun w12 =>
 (kNil r1 fun x20 =>
 (kSet w12 (x20.add 12) (.bool true) fun w13 =>
 (kNil r1 fun x21 =>
 (kSet w13 (x21.add 9) (.int .i64 (-1 : Int)) fun w14 =>
 (Calls Tryz.prog N_receiver_side_start #[(.pointer r1)] w14 fun e_4 w15 =>
 e_4 = .returned (.tuple #[]) ∧
 J w15))))))))))
 ((kNil r1 fun x22 =>
 (kSet w11 (x22.add 12) (.bool true) fun w16 =>
 (kNil r1 fun x23 =>
 (kSet w16 (x23.add 9) (.int .i64 (-1 : Int)) fun w17 =>
 (Calls Tryz.prog N_receiver_side_start #[(.pointer r1)] w17 fun e_5 w18 =>
 e_5 = .returned (.tuple #[]) ∧
 J w18)))))))))))))))))))
 (J w8)))))))))))))))))))))))))))
theorem F_receiver_Tick_eq (r_0 : Int) (r_1 : Int) (r_2 : Int) (r_3 : Int) (r_4 : Int) (r_5 : Int) (r_6 : Int) (r_7 : Int) (r_8 : Int) (r_9 : Int) (r_10 : Int) (r_11 : Int) (r_12 : Bool) (r_13_a : Option Addr) (r_13_l : Nat) (r_13_c : Nat) (w : World) (R : Value → World → Prop) : sxFn Tryz.prog TT h_receiver_Tick Tryz.f25 #[(.agg #[.int .i64 r_0, .int .i64 r_1, .int .i64 r_2, .int .i64 r_3, .int .i64 r_4, .int .i64 r_5, .int .i64 r_6, .int .i64 r_7, .int .i64 r_8, .int .i64 r_9, .int .i64 r_10, .int .i64 r_11, .bool r_12, .slice r_13_a r_13_l r_13_c])] w R = F_receiver_Tick r_0 r_1 r_2 r_3 r_4 r_5 r_6 r_7 r_8 r_9 r_10 r_11 r_12 r_13_a r_13_l r_13_c w R := by kernel_rfl
theorem F_receiver_Tick_ok {R : Ending → World → Prop} (r_0 : Int) (r_1 : Int) (r_2 : Int) (r_3 : Int) (r_4 : Int) (r_5 : Int) (r_6 : Int) (r_7 : Int) (r_8 : Int) (r_9 : Int) (r_10 : Int) (r_11 : Int) (r_12 : Bool) (r_13_a : Option Addr) (r_13_l : Nat) (r_13_c : Nat) (w : World) (h : F_receiver_Tick r_0 r_1 r_2 r_3 r_4 r_5 r_6 r_7 r_8 r_9 r_10 r_11 r_12 r_13_a r_13_l r_13_c w fun v w' => R (.returned v) w') : Calls Tryz.prog N_receiver_Tick #[(.agg #[.int .i64 r_0, .int .i64 r_1, .int .i64 r_2, .int .i64 r_3, .int .i64 r_4, .int .i64 r_5, .int .i64 r_6, .int .i64 r_7, .int .i64 r_8, .int .i64 r_9, .int .i64 r_10, .int .i64 r_11, .bool r_12, .slice r_13_a r_13_l r_13_c])] w R :=
 calls_of (f := 25) follows_ok Tryz.func25 (Eq.mpr (F_receiver_Tick_eq r_0 r_1 r_2 r_3 r_4 r_5 r_6 r_7 r_8 r_9 r_10 r_11 r_12 r_13_a r_13_l r_13_c w _) h)

def h_receiver_Status : H := (.seq .reg (.seq (.seq .reg (.cond (.seq .reg .leaf) .leaf)) (.seq .reg (.seq .reg (.seq (.seq .reg (.block (.loop [(6, .p (.int .i64))] [6, 7, 20, 21, 22, 23, 24, 25, 26, 27, 28, 29, 30, 31, 32, 33, 34, 35, 36, 37, 38, 39, 40, 41, 42, 43] (.seq (.seq .reg (.cond .leaf .leaf)) (.seq (.block (.seq .reg (.seq (.seq .reg (.cond (.seq .reg .leaf) .leaf)) .reg))) .reg))))) (.seq .reg .leaf))))))
def F_receiver_Status (r_0 : Int) (r_1 : Int) (r_2 : Int) (r_3 : Int) (r_4 : Int) (r_5 : Int) (r_6 : Int) (r_7 : Int) (r_8 : Int) (r_9 : Int) (r_10 : Int) (r_11 : Int) (r_12 : Bool) (r_13_a : Option Addr) (r_13_l : Nat) (r_13_c : Nat) (w : World) (R : Value → World → Prop) : Prop :=
 (kAlloc w #[(.int .i64 r_0), (.int .i64 r_1), (.int .i64 r_2), (.int .i64 r_3), (.int .i64 r_4), (.int .i64 r_5), (.int .i64 r_6), (.int .i64 r_7), (.int .i64 r_8), (.int .i64 r_9), (.int .i64 r_10), (.int .i64 r_11), (.bool r_12), (.slice r_13_a r_13_l r_13_c)] Ty_api_Receiver fun b w1 =>
 (kAlloc w1 #[.int .i64 (0 : Int), .slice none 0 0] Ty_api_Status fun b1 w2 =>
 (∃ x_0 x_1 x_2 x_3 x_4 x_5 x_6 x_7 x_8 x_9 x_10 x_11 : Int, ∃ x_12 : Bool, ∃ x_13_a : Option Addr, ∃ x_13_l x_13_c : Nat, cellsAt w2 ⟨b, 0, none⟩ 0 [(.int .i64 x_0), (.int .i64 x_1), (.int .i64 x_2), (.int .i64 x_3), (.int .i64 x_4), (.int .i64 x_5), (.int .i64 x_6), (.int .i64 x_7), (.int .i64 x_8), (.int .i64 x_9), (.int .i64 x_10), (.int .i64 x_11), (.bool x_12), (.slice x_13_a x_13_l x_13_c)] ∧
 (Calls Tryz.prog N_receiver_Valid #[(.agg #[.int .i64 x_0, .int .i64 x_1, .int .i64 x_2, .int .i64 x_3, .int .i64 x_4, .int .i64 x_5, .int .i64 x_6, .int .i64 x_7, .int .i64 x_8, .int .i64 x_9, .int .i64 x_10, .int .i64 x_11, .bool x_12, .slice x_13_a x_13_l x_13_c])] w2 fun e_ w3 =>
 ∃ r : Bool, e_ = .returned (.bool r) ∧
 (bsplit (!r)
 ((sxStore w3 ⟨b1, 0, none⟩ 0 [(.int .i64 (0 : Int)), (.slice none 0 0)] fun w4 =>
 (∃ r_01 : Int, ∃ r_1_a : Option Addr, ∃ r_1_l r_1_c : Nat, cellsAt w4 ⟨b1, 0, none⟩ 0 [(.int .i64 r_01), (.slice r_1_a r_1_l r_1_c)] ∧
 R (.tuple #[(.agg #[.int .i64 r_01, .slice r_1_a r_1_l r_1_c]), (.int .i64 (1 : Int))]) w4)))
 ((∃ x_01 x_13 x_21 x_31 x_41 x_51 x_61 x_71 x_81 x_91 x_101 x_111 : Int, ∃ x_121 : Bool, ∃ x_13_a1 : Option Addr, ∃ x_13_l1 x_13_c1 : Nat, cellsAt w3 ⟨b, 0, none⟩ 0 [(.int .i64 x_01), (.int .i64 x_13), (.int .i64 x_21), (.int .i64 x_31), (.int .i64 x_41), (.int .i64 x_51), (.int .i64 x_61), (.int .i64 x_71), (.int .i64 x_81), (.int .i64 x_91), (.int .i64 x_101), (.int .i64 x_111), (.bool x_121), (.slice x_13_a1 x_13_l1 x_13_c1)] ∧
 (kAlloc w3 #[(.int .i64 x_01), (.int .i64 x_13), (.int .i64 x_21), (.int .i64 x_31), (.int .i64 x_41), (.int .i64 x_51), (.int .i64 x_61), (.int .i64 x_71), (.int .i64 x_81), (.int .i64 x_91), (.int .i64 x_101), (.int .i64 x_111), (.bool x_121), (.slice x_13_a1 x_13_l1 x_13_c1)] Ty_receiver_side fun b2 w5 =>
 (kLd w5 ⟨b, 8, none⟩ .i64 fun x =>
 (kAlloc w5 #[.int .i64 (0 : Int), .slice none 0 0] Ty_api_Status fun b3 w6 =>
 (sxStore w6 ⟨b3, 0, none⟩ 0 [(.int .i64 x), (.slice none 0 0)] fun w7 =>
 (kLd w7 ⟨b, 6, none⟩ .i64 fun x1 =>
 (∃ I : Int → Nat × (World → Prop), (I x1).2 w7 ∧
 (∀ (_junk : Env) (n : Int) (w8 : World), (I n).2 w8 →
 (kLd w8 ⟨b, 8, none⟩ .i64 fun x2 =>
 (bsplit (!decide (n = x2))
 ((Calls Tryz.prog N_receiver_side_missing #[(.pointer (some ⟨b2, 0, none⟩)), (.int .i64 n)] w8 fun e_1 w9 =>
 ∃ r_a : Option Addr, ∃ r_l r_c : Nat, e_1 = .returned (.slice r_a r_l r_c) ∧
 (kLdS w9 ⟨b3, 1, none⟩ fun _ x_l _ =>
 (kW .i64 ((x_l : Int) + (r_l : Int)) fun x3 =>
 (bsplit (decide (x3 > (64 : Int)))
 ((kSet w9 ⟨b3, 0, none⟩ (.int .i64 n) fun w10 =>
 (∃ x_02 : Int, ∃ x_1_a : Option Addr, ∃ x_1_l x_1_c : Nat, cellsAt w10 ⟨b3, 0, none⟩ 0 [(.int .i64 x_02), (.slice x_1_a x_1_l x_1_c)] ∧
 (sxStore w10 ⟨b1, 0, none⟩ 0 [(.int .i64 x_02), (.slice x_1_a x_1_l x_1_c)] fun w11 =>
 (∃ r_02 : Int, ∃ r_1_a1 : Option Addr, ∃ r_1_l1 r_1_c1 : Nat, cellsAt w11 ⟨b1, 0, none⟩ 0 [(.int .i64 r_02), (.slice r_1_a1 r_1_l1 r_1_c1)] ∧
 R (.tuple #[(.agg #[.int .i64 r_02, .slice r_1_a1 r_1_l1 r_1_c1]), (.int .i64 (0 : Int))]) w11)))))
 ((kLdS w9 ⟨b3, 1, none⟩ fun x_a1 x_l1 x_c1 =>
 (AppP Tryz.prog #[Ty_S_api_Range, Ty_S_api_Range] Ty_S_api_Range #[(.slice x_a1 x_l1 x_c1), (.slice r_a r_l r_c)] w9 fun x_a2 x_l2 x_c2 w12 =>
 (kSet w12 ⟨b3, 1, none⟩ (.slice x_a2 x_l2 x_c2) fun w13 =>
 (Calls Tryz.prog N_receiver_side_behind #[(.pointer (some ⟨b2, 0, none⟩)), (.int .i64 n)] w13 fun e_2 w14 =>
 ∃ r1 : Int, e_2 = .returned (.int .i64 r1) ∧
 ((I r1).2 w14 ∧ (I r1).1 < (I n).1)))))))))))
 ((∃ x_03 : Int, ∃ x_1_a1 : Option Addr, ∃ x_1_l1 x_1_c1 : Nat, cellsAt w8 ⟨b3, 0, none⟩ 0 [(.int .i64 x_03), (.slice x_1_a1 x_1_l1 x_1_c1)] ∧
 (sxStore w8 ⟨b1, 0, none⟩ 0 [(.int .i64 x_03), (.slice x_1_a1 x_1_l1 x_1_c1)] fun w15 =>
 (∃ r_03 : Int, ∃ r_1_a2 : Option Addr, ∃ r_1_l2 r_1_c2 : Nat, cellsAt w15 ⟨b1, 0, none⟩ 0 [(.int .i64 r_03), (.slice r_1_a2 r_1_l2 r_1_c2)] ∧
 R (.tuple #[(.agg #[.int .i64 r_03, .slice r_1_a2 r_1_l2 r_1_c2]), (.int .i64 (0 : Int))]) w15))))))))))))))))))))
theorem F_receiver_Status_eq (r_0 : Int) (r_1 : Int) (r_2 : Int) (r_3 : Int) (r_4 : Int) (r_5 : Int) (r_6 : Int) (r_7 : Int) (r_8 : Int) (r_9 : Int) (r_10 : Int) (r_11 : Int) (r_12 : Bool) (r_13_a : Option Addr) (r_13_l : Nat) (r_13_c : Nat) (w : World) (R : Value → World → Prop) : sxFn Tryz.prog TT h_receiver_Status Tryz.f26 #[(.agg #[.int .i64 r_0, .int .i64 r_1, .int .i64 r_2, .int .i64 r_3, .int .i64 r_4, .int .i64 r_5, .int .i64 r_6, .int .i64 r_7, .int .i64 r_8, .int .i64 r_9, .int .i64 r_10, .int .i64 r_11, .bool r_12, .slice r_13_a r_13_l r_13_c])] w R = F_receiver_Status r_0 r_1 r_2 r_3 r_4 r_5 r_6 r_7 r_8 r_9 r_10 r_11 r_12 r_13_a r_13_l r_13_c w R := by kernel_rfl
theorem F_receiver_Status_ok {R : Ending → World → Prop} (r_0 : Int) (r_1 : Int) (r_2 : Int) (r_3 : Int) (r_4 : Int) (r_5 : Int) (r_6 : Int) (r_7 : Int) (r_8 : Int) (r_9 : Int) (r_10 : Int) (r_11 : Int) (r_12 : Bool) (r_13_a : Option Addr) (r_13_l : Nat) (r_13_c : Nat) (w : World) (h : F_receiver_Status r_0 r_1 r_2 r_3 r_4 r_5 r_6 r_7 r_8 r_9 r_10 r_11 r_12 r_13_a r_13_l r_13_c w fun v w' => R (.returned v) w') : Calls Tryz.prog N_receiver_Status #[(.agg #[.int .i64 r_0, .int .i64 r_1, .int .i64 r_2, .int .i64 r_3, .int .i64 r_4, .int .i64 r_5, .int .i64 r_6, .int .i64 r_7, .int .i64 r_8, .int .i64 r_9, .int .i64 r_10, .int .i64 r_11, .bool r_12, .slice r_13_a r_13_l r_13_c])] w R :=
 calls_of (f := 26) follows_ok Tryz.func26 (Eq.mpr (F_receiver_Status_eq r_0 r_1 r_2 r_3 r_4 r_5 r_6 r_7 r_8 r_9 r_10 r_11 r_12 r_13_a r_13_l r_13_c w _) h)

end Go.Proofs.YthceaojjeokclaaGreat
