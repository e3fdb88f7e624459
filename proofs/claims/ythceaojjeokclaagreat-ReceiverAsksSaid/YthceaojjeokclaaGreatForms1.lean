import Derived.Test.YthceaojjeokclaaGreatBase
import Derived.KernelRfl
namespace Go.Proofs.YthceaojjeokclaaGreat
open Go.Sx Go.RowKit
set_option maxRecDepth 100000

def h_law21_awake : H := (.seq .reg (.seq .reg (.seq .reg (.seq .reg (.seq .reg (.seq .reg (.seq .reg (.seq .reg .leaf))))))))
def F_law21_awake  (w : World) (R : Value → WP) : Prop :=
 (CP N_receiver_New #[(.agg #[Iv (5 : Int), Iv (4 : Int), Iv (3 : Int), Iv (3 : Int), Iv (0 : Int), Iv (4 : Int)])] w fun e_ w1 =>
 ∃ r_0 r_1 r_2 r_3 r_4 r_5 r_6 r_7 r_8 r_9 r_10 r_11 : Int, ∃ r_12 : Bool, ∃ r_13_a : OA, ∃ r_13_l r_13_c : Nat, ∃ r : Int, e_ = .returned (.tuple #[(.agg #[Iv r_0, Iv r_1, Iv r_2, Iv r_3, Iv r_4, Iv r_5, Iv r_6, Iv r_7, Iv r_8, Iv r_9, Iv r_10, Iv r_11, .bool r_12, .slice r_13_a r_13_l r_13_c]), (Iv r)]) ∧
 (kAlloc w1 #[Iv (0 : Int), Iv (0 : Int), Iv (0 : Int), Iv (0 : Int), Iv (0 : Int), Iv (0 : Int), Iv (0 : Int), Iv (0 : Int), Iv (0 : Int), Iv (0 : Int), Iv (0 : Int), Iv (0 : Int), .bool false, .slice none 0 0] Ty_api_Receiver fun b w2 =>
 (sxStore w2 ⟨b, 0, none⟩ 0 [(Iv r_0), (Iv r_1), (Iv r_2), (Iv r_3), (Iv r_4), (Iv r_5), (Iv r_6), (Iv r_7), (Iv r_8), (Iv r_9), (Iv r_10), (Iv r_11), (.bool r_12), (.slice r_13_a r_13_l r_13_c)] fun w3 =>
 (kAlloc w3 #[(.int .u8 (3 : Int))] Ty_uint8 fun b1 w4 =>
 (CP N_ref18_Encode #[(Iv (5 : Int)), (.agg #[Iv (0 : Int), Iv (2 : Int), Iv (1 : Int), Iv (2 : Int), .slice (some ⟨b1, 0, none⟩) 1 1])] w4 fun e_1 w5 =>
 ∃ r_a : OA, ∃ r_l r_c : Nat, ∃ r1 : Int, e_1 = .returned (.tuple #[(.slice r_a r_l r_c), (Iv r1)]) ∧
 (kAlloc w5 #[(.int .u8 (1 : Int)), (.int .u8 (2 : Int))] Ty_uint8 fun b2 w6 =>
 (CP N_ref18_Encode #[(Iv (5 : Int)), (.agg #[Iv (0 : Int), Iv (1 : Int), Iv (0 : Int), Iv (0 : Int), .slice (some ⟨b2, 0, none⟩) 2 2])] w6 fun e_2 w7 =>
 ∃ r_a1 : OA, ∃ r_l1 r_c1 : Nat, ∃ r2 : Int, e_2 = .returned (.tuple #[(.slice r_a1 r_l1 r_c1), (Iv r2)]) ∧
 (∃ x_0 x_1 x_2 x_3 x_4 x_5 x_6 x_7 x_8 x_9 x_10 x_11 : Int, ∃ x_12 : Bool, ∃ x_13_a : OA, ∃ x_13_l x_13_c : Nat, cellsAt w7 ⟨b, 0, none⟩ 0 [(Iv x_0), (Iv x_1), (Iv x_2), (Iv x_3), (Iv x_4), (Iv x_5), (Iv x_6), (Iv x_7), (Iv x_8), (Iv x_9), (Iv x_10), (Iv x_11), (.bool x_12), (.slice x_13_a x_13_l x_13_c)] ∧
 (CP N_receiver_Receive #[(.agg #[Iv x_0, Iv x_1, Iv x_2, Iv x_3, Iv x_4, Iv x_5, Iv x_6, Iv x_7, Iv x_8, Iv x_9, Iv x_10, Iv x_11, .bool x_12, .slice x_13_a x_13_l x_13_c]), (.slice r_a r_l r_c)] w7 fun e_3 w8 =>
 ∃ r_01 r_13 r_21 r_31 r_41 r_51 r_61 r_71 r_81 r_91 r_101 r_111 : Int, ∃ r_121 : Bool, ∃ r_13_a1 : OA, ∃ r_13_l1 r_13_c1 : Nat, ∃ r_a2 : OA, ∃ r_l2 r_c2 : Nat, ∃ r3 : Int, e_3 = .returned (.tuple #[(.agg #[Iv r_01, Iv r_13, Iv r_21, Iv r_31, Iv r_41, Iv r_51, Iv r_61, Iv r_71, Iv r_81, Iv r_91, Iv r_101, Iv r_111, .bool r_121, .slice r_13_a1 r_13_l1 r_13_c1]), (.slice r_a2 r_l2 r_c2), (Iv r3)]) ∧
 (sxStore w8 ⟨b, 0, none⟩ 0 [(Iv r_01), (Iv r_13), (Iv r_21), (Iv r_31), (Iv r_41), (Iv r_51), (Iv r_61), (Iv r_71), (Iv r_81), (Iv r_91), (Iv r_101), (Iv r_111), (.bool r_121), (.slice r_13_a1 r_13_l1 r_13_c1)] fun w9 =>
 (∃ x_01 x_13 x_21 x_31 x_41 x_51 x_61 x_71 x_81 x_91 x_101 x_111 : Int, ∃ x_121 : Bool, ∃ x_13_a1 : OA, ∃ x_13_l1 x_13_c1 : Nat, cellsAt w9 ⟨b, 0, none⟩ 0 [(Iv x_01), (Iv x_13), (Iv x_21), (Iv x_31), (Iv x_41), (Iv x_51), (Iv x_61), (Iv x_71), (Iv x_81), (Iv x_91), (Iv x_101), (Iv x_111), (.bool x_121), (.slice x_13_a1 x_13_l1 x_13_c1)] ∧
 (CP N_receiver_Status #[(.agg #[Iv x_01, Iv x_13, Iv x_21, Iv x_31, Iv x_41, Iv x_51, Iv x_61, Iv x_71, Iv x_81, Iv x_91, Iv x_101, Iv x_111, .bool x_121, .slice x_13_a1 x_13_l1 x_13_c1])] w9 fun e_4 w10 =>
 ∃ r_02 : Int, ∃ r_1_a : OA, ∃ r_1_l r_1_c : Nat, ∃ r4 : Int, e_4 = .returned (.tuple #[(.agg #[Iv r_02, .slice r_1_a r_1_l r_1_c]), (Iv r4)]) ∧
 (kAlloc w10 #[Iv (0 : Int), .slice none 0 0] Ty_api_Status fun b3 w11 =>
 (sxStore w11 ⟨b3, 0, none⟩ 0 [(Iv r_02), (.slice r_1_a r_1_l r_1_c)] fun w12 =>
 (∃ x_02 x_14 x_22 x_32 x_42 x_52 x_62 x_72 x_82 x_92 x_102 x_112 : Int, ∃ x_122 : Bool, ∃ x_13_a2 : OA, ∃ x_13_l2 x_13_c2 : Nat, cellsAt w12 ⟨b, 0, none⟩ 0 [(Iv x_02), (Iv x_14), (Iv x_22), (Iv x_32), (Iv x_42), (Iv x_52), (Iv x_62), (Iv x_72), (Iv x_82), (Iv x_92), (Iv x_102), (Iv x_112), (.bool x_122), (.slice x_13_a2 x_13_l2 x_13_c2)] ∧
 (CP N_receiver_Receive #[(.agg #[Iv x_02, Iv x_14, Iv x_22, Iv x_32, Iv x_42, Iv x_52, Iv x_62, Iv x_72, Iv x_82, Iv x_92, Iv x_102, Iv x_112, .bool x_122, .slice x_13_a2 x_13_l2 x_13_c2]), (.slice r_a1 r_l1 r_c1)] w12 fun e_5 w13 =>
 ∃ r_03 r_14 r_22 r_32 r_42 r_52 r_62 r_72 r_82 r_92 r_102 r_112 : Int, ∃ r_122 : Bool, ∃ r_13_a2 : OA, ∃ r_13_l2 r_13_c2 : Nat, ∃ r_a3 : OA, ∃ r_l3 r_c3 : Nat, ∃ r5 : Int, e_5 = .returned (.tuple #[(.agg #[Iv r_03, Iv r_14, Iv r_22, Iv r_32, Iv r_42, Iv r_52, Iv r_62, Iv r_72, Iv r_82, Iv r_92, Iv r_102, Iv r_112, .bool r_122, .slice r_13_a2 r_13_l2 r_13_c2]), (.slice r_a3 r_l3 r_c3), (Iv r5)]) ∧
 (sxStore w13 ⟨b, 0, none⟩ 0 [(Iv r_03), (Iv r_14), (Iv r_22), (Iv r_32), (Iv r_42), (Iv r_52), (Iv r_62), (Iv r_72), (Iv r_82), (Iv r_92), (Iv r_102), (Iv r_112), (.bool r_122), (.slice r_13_a2 r_13_l2 r_13_c2)] fun w14 =>
 (bsplit (decide (r = (0 : Int)))
 ((bsplit (decide (r3 = (0 : Int)))
 ((bsplit (decide (r4 = (0 : Int)))
 ((bsplit (decide (r5 = (0 : Int)))
 ((bsplit (decide ((r_l2 : Int) = (0 : Int)))
 ((kLdS w14 ⟨b3, 1, none⟩ fun _ x_l _ =>
 (bsplit (decide ((x_l : Int) = (1 : Int)))
 ((kLdS w14 ⟨b3, 1, none⟩ fun x_a1 x_l1 _ =>
 (kIx x_a1 x_l1 (0 : Int) fun b4 =>
 (kLd w14 ((b4.add ((0 : Int).toNat * 3)).add 2) .i64 fun x =>
 (bsplit (decide (x = (2 : Int)))
 ((kLdB w14 ⟨b, 12, none⟩ fun x1 =>
 (bsplit x1
 ((bsplit (decide ((r_l3 : Int) = (3 : Int)))
 ((kIx r_a3 r_l3 (2 : Int) fun b5 =>
 (kLd w14 (b5.add ((2 : Int).toNat * 1)) .u8 fun x2 =>
 (bsplit (decide (x2 = (3 : Int)))
 ((kLd w14 ⟨b, 6, none⟩ .i64 fun x3 =>
 (bsplit (decide (x3 = (1 : Int)))
 ((∃ x_03 x_15 x_23 x_33 x_43 x_53 x_63 x_73 x_83 x_93 x_103 x_113 : Int, ∃ x_123 : Bool, ∃ x_13_a3 : OA, ∃ x_13_l3 x_13_c3 : Nat, cellsAt w14 ⟨b, 0, none⟩ 0 [(Iv x_03), (Iv x_15), (Iv x_23), (Iv x_33), (Iv x_43), (Iv x_53), (Iv x_63), (Iv x_73), (Iv x_83), (Iv x_93), (Iv x_103), (Iv x_113), (.bool x_123), (.slice x_13_a3 x_13_l3 x_13_c3)] ∧
 (CP N_receiver_Valid #[(.agg #[Iv x_03, Iv x_15, Iv x_23, Iv x_33, Iv x_43, Iv x_53, Iv x_63, Iv x_73, Iv x_83, Iv x_93, Iv x_103, Iv x_113, .bool x_123, .slice x_13_a3 x_13_l3 x_13_c3])] w14 fun e_6 w15 =>
 ∃ r6 : Bool, e_6 = .returned (.bool r6) ∧
 R (.bool r6) w15)))
 (R (.bool false) w14))))
 (R (.bool false) w14)))))
 (R (.bool false) w14)))
 (R (.bool false) w14))))
 (R (.bool false) w14))))))
 (R (.bool false) w14))))
 (R (.bool false) w14)))
 (R (.bool false) w14)))
 (R (.bool false) w14)))
 (R (.bool false) w14)))
 (R (.bool false) w14)))))))))))))))))))
theorem F_law21_awake_eq  (w : World) (R : Value → World → Prop) : sxFn Tryz.prog TT h_law21_awake Tryz.f6 #[] w R = F_law21_awake  w R := by kernel_rfl
theorem F_law21_awake_ok {R : Ending → World → Prop}  (w : World) (h : F_law21_awake  w fun v w' => R (.returned v) w') : Calls Tryz.prog N_law21_awake #[] w R :=
 calls_of (f := 6) follows_ok Tryz.func6 (Eq.mpr (F_law21_awake_eq  w _) h)

def h_receiver_New : H := (.seq .reg (.seq (.seq .reg (.cond (.seq .reg .leaf) .leaf)) (.seq .reg .leaf)))
def F_receiver_New (l_0 l_1 l_2 l_3 l_4 l_5 : Int) (w : World) (R : Value → WP) : Prop :=
 (kAlloc w #[(Iv l_0), (Iv l_1), (Iv l_2), (Iv l_3), (Iv l_4), (Iv l_5)] Ty_api_Link fun b w1 =>
 (kAlloc w1 #[Iv (0 : Int), Iv (0 : Int), Iv (0 : Int), Iv (0 : Int), Iv (0 : Int), Iv (0 : Int), Iv (0 : Int), Iv (0 : Int), Iv (0 : Int), Iv (0 : Int), Iv (0 : Int), Iv (0 : Int), .bool false, .slice none 0 0] Ty_api_Receiver fun b1 w2 =>
 (∃ x_0 x_1 x_2 x_3 x_4 x_5 : Int, cellsAt w2 ⟨b, 0, none⟩ 0 [(Iv x_0), (Iv x_1), (Iv x_2), (Iv x_3), (Iv x_4), (Iv x_5)] ∧
 (CP N_sender_ValidLink #[(.agg #[Iv x_0, Iv x_1, Iv x_2, Iv x_3, Iv x_4, Iv x_5])] w2 fun e_ w3 =>
 ∃ r : Bool, e_ = .returned (.bool r) ∧
 (bsplit (!r)
 ((sxStore w3 ⟨b1, 0, none⟩ 0 [(Iv (0 : Int)), (Iv (0 : Int)), (Iv (0 : Int)), (Iv (0 : Int)), (Iv (0 : Int)), (Iv (0 : Int)), (Iv (0 : Int)), (Iv (0 : Int)), (Iv (0 : Int)), (Iv (0 : Int)), (Iv (0 : Int)), (Iv (0 : Int)), (.bool false), (.slice none 0 0)] fun w4 =>
 (∃ r_0 r_1 r_2 r_3 r_4 r_5 r_6 r_7 r_8 r_9 r_10 r_11 : Int, ∃ r_12 : Bool, ∃ r_13_a : OA, ∃ r_13_l r_13_c : Nat, cellsAt w4 ⟨b1, 0, none⟩ 0 [(Iv r_0), (Iv r_1), (Iv r_2), (Iv r_3), (Iv r_4), (Iv r_5), (Iv r_6), (Iv r_7), (Iv r_8), (Iv r_9), (Iv r_10), (Iv r_11), (.bool r_12), (.slice r_13_a r_13_l r_13_c)] ∧
 R (.tuple #[(.agg #[Iv r_0, Iv r_1, Iv r_2, Iv r_3, Iv r_4, Iv r_5, Iv r_6, Iv r_7, Iv r_8, Iv r_9, Iv r_10, Iv r_11, .bool r_12, .slice r_13_a r_13_l r_13_c]), (Iv (3 : Int))]) w4)))
 ((∃ x_01 x_11 x_21 x_31 x_41 x_51 : Int, cellsAt w3 ⟨b, 0, none⟩ 0 [(Iv x_01), (Iv x_11), (Iv x_21), (Iv x_31), (Iv x_41), (Iv x_51)] ∧
 (sxStore w3 ⟨b1, 0, none⟩ 0 [(Iv x_01), (Iv x_11), (Iv x_21), (Iv x_31), (Iv x_41), (Iv x_51), (Iv (0 : Int)), (Iv (0 : Int)), (Iv (0 : Int)), (Iv (-1 : Int)), (Iv (0 : Int)), (Iv (0 : Int)), (.bool false), (.slice none 0 0)] fun w5 =>
 (∃ r_01 r_13 r_21 r_31 r_41 r_51 r_61 r_71 r_81 r_91 r_101 r_111 : Int, ∃ r_121 : Bool, ∃ r_13_a1 : OA, ∃ r_13_l1 r_13_c1 : Nat, cellsAt w5 ⟨b1, 0, none⟩ 0 [(Iv r_01), (Iv r_13), (Iv r_21), (Iv r_31), (Iv r_41), (Iv r_51), (Iv r_61), (Iv r_71), (Iv r_81), (Iv r_91), (Iv r_101), (Iv r_111), (.bool r_121), (.slice r_13_a1 r_13_l1 r_13_c1)] ∧
 R (.tuple #[(.agg #[Iv r_01, Iv r_13, Iv r_21, Iv r_31, Iv r_41, Iv r_51, Iv r_61, Iv r_71, Iv r_81, Iv r_91, Iv r_101, Iv r_111, .bool r_121, .slice r_13_a1 r_13_l1 r_13_c1]), (Iv (0 : Int))]) w5)))))))))
theorem F_receiver_New_eq (l_0 l_1 l_2 l_3 l_4 l_5 : Int) (w : World) (R : Value → World → Prop) : sxFn Tryz.prog TT h_receiver_New Tryz.f7 #[(.agg #[.int .i64 l_0, .int .i64 l_1, .int .i64 l_2, .int .i64 l_3, .int .i64 l_4, .int .i64 l_5])] w R = F_receiver_New l_0 l_1 l_2 l_3 l_4 l_5 w R := by kernel_rfl
theorem F_receiver_New_ok {R : Ending → World → Prop} (l_0 l_1 l_2 l_3 l_4 l_5 : Int) (w : World) (h : F_receiver_New l_0 l_1 l_2 l_3 l_4 l_5 w fun v w' => R (.returned v) w') : Calls Tryz.prog N_receiver_New #[(.agg #[.int .i64 l_0, .int .i64 l_1, .int .i64 l_2, .int .i64 l_3, .int .i64 l_4, .int .i64 l_5])] w R :=
 calls_of (f := 7) follows_ok Tryz.func7 (Eq.mpr (F_receiver_New_eq l_0 l_1 l_2 l_3 l_4 l_5 w _) h)

def h_ref21_New : H := (.seq .reg (.seq (.seq .reg (.cond (.seq .reg .leaf) .leaf)) (.seq .reg .leaf)))
def F_ref21_New (l_0 l_1 l_2 l_3 l_4 l_5 : Int) (w : World) (R : Value → WP) : Prop :=
 (kAlloc w #[(Iv l_0), (Iv l_1), (Iv l_2), (Iv l_3), (Iv l_4), (Iv l_5)] Ty_api_Link fun b w1 =>
 (kAlloc w1 #[Iv (0 : Int), Iv (0 : Int), Iv (0 : Int), Iv (0 : Int), Iv (0 : Int), Iv (0 : Int), Iv (0 : Int), Iv (0 : Int), Iv (0 : Int), Iv (0 : Int), Iv (0 : Int), Iv (0 : Int), .bool false, .slice none 0 0] Ty_api_Receiver fun b1 w2 =>
 (∃ x_0 x_1 x_2 x_3 x_4 x_5 : Int, cellsAt w2 ⟨b, 0, none⟩ 0 [(Iv x_0), (Iv x_1), (Iv x_2), (Iv x_3), (Iv x_4), (Iv x_5)] ∧
 (CP N_ref20_ValidLink #[(.agg #[Iv x_0, Iv x_1, Iv x_2, Iv x_3, Iv x_4, Iv x_5])] w2 fun e_ w3 =>
 ∃ r : Bool, e_ = .returned (.bool r) ∧
 (bsplit (!r)
 ((sxStore w3 ⟨b1, 0, none⟩ 0 [(Iv (0 : Int)), (Iv (0 : Int)), (Iv (0 : Int)), (Iv (0 : Int)), (Iv (0 : Int)), (Iv (0 : Int)), (Iv (0 : Int)), (Iv (0 : Int)), (Iv (0 : Int)), (Iv (0 : Int)), (Iv (0 : Int)), (Iv (0 : Int)), (.bool false), (.slice none 0 0)] fun w4 =>
 (∃ r_0 r_1 r_2 r_3 r_4 r_5 r_6 r_7 r_8 r_9 r_10 r_11 : Int, ∃ r_12 : Bool, ∃ r_13_a : OA, ∃ r_13_l r_13_c : Nat, cellsAt w4 ⟨b1, 0, none⟩ 0 [(Iv r_0), (Iv r_1), (Iv r_2), (Iv r_3), (Iv r_4), (Iv r_5), (Iv r_6), (Iv r_7), (Iv r_8), (Iv r_9), (Iv r_10), (Iv r_11), (.bool r_12), (.slice r_13_a r_13_l r_13_c)] ∧
 R (.tuple #[(.agg #[Iv r_0, Iv r_1, Iv r_2, Iv r_3, Iv r_4, Iv r_5, Iv r_6, Iv r_7, Iv r_8, Iv r_9, Iv r_10, Iv r_11, .bool r_12, .slice r_13_a r_13_l r_13_c]), (Iv (3 : Int))]) w4)))
 ((∃ x_01 x_11 x_21 x_31 x_41 x_51 : Int, cellsAt w3 ⟨b, 0, none⟩ 0 [(Iv x_01), (Iv x_11), (Iv x_21), (Iv x_31), (Iv x_41), (Iv x_51)] ∧
 (sxStore w3 ⟨b1, 0, none⟩ 0 [(Iv x_01), (Iv x_11), (Iv x_21), (Iv x_31), (Iv x_41), (Iv x_51), (Iv (0 : Int)), (Iv (0 : Int)), (Iv (0 : Int)), (Iv (-1 : Int)), (Iv (0 : Int)), (Iv (0 : Int)), (.bool false), (.slice none 0 0)] fun w5 =>
 (∃ r_01 r_13 r_21 r_31 r_41 r_51 r_61 r_71 r_81 r_91 r_101 r_111 : Int, ∃ r_121 : Bool, ∃ r_13_a1 : OA, ∃ r_13_l1 r_13_c1 : Nat, cellsAt w5 ⟨b1, 0, none⟩ 0 [(Iv r_01), (Iv r_13), (Iv r_21), (Iv r_31), (Iv r_41), (Iv r_51), (Iv r_61), (Iv r_71), (Iv r_81), (Iv r_91), (Iv r_101), (Iv r_111), (.bool r_121), (.slice r_13_a1 r_13_l1 r_13_c1)] ∧
 R (.tuple #[(.agg #[Iv r_01, Iv r_13, Iv r_21, Iv r_31, Iv r_41, Iv r_51, Iv r_61, Iv r_71, Iv r_81, Iv r_91, Iv r_101, Iv r_111, .bool r_121, .slice r_13_a1 r_13_l1 r_13_c1]), (Iv (0 : Int))]) w5)))))))))
theorem F_ref21_New_eq (l_0 l_1 l_2 l_3 l_4 l_5 : Int) (w : World) (R : Value → World → Prop) : sxFn Tryz.prog TT h_ref21_New Tryz.f8 #[(.agg #[.int .i64 l_0, .int .i64 l_1, .int .i64 l_2, .int .i64 l_3, .int .i64 l_4, .int .i64 l_5])] w R = F_ref21_New l_0 l_1 l_2 l_3 l_4 l_5 w R := by kernel_rfl
theorem F_ref21_New_ok {R : Ending → World → Prop} (l_0 l_1 l_2 l_3 l_4 l_5 : Int) (w : World) (h : F_ref21_New l_0 l_1 l_2 l_3 l_4 l_5 w fun v w' => R (.returned v) w') : Calls Tryz.prog N_ref21_New #[(.agg #[.int .i64 l_0, .int .i64 l_1, .int .i64 l_2, .int .i64 l_3, .int .i64 l_4, .int .i64 l_5])] w R :=
 calls_of (f := 8) follows_ok Tryz.func8 (Eq.mpr (F_ref21_New_eq l_0 l_1 l_2 l_3 l_4 l_5 w _) h)

def h_made_Light : H := (.seq .reg (.seq .reg .leaf))
def F_made_Light (_ : OA) (t_l _ : Nat) (w : World) (R : Value → WP) : Prop :=
 (kLet (decide ((t_l : Int) ≤ (400 : Int))) fun x =>
 R (.bool x) w)
theorem F_made_Light_eq (t_a : Option Addr) (t_l t_c : Nat) (w : World) (R : Value → World → Prop) : sxFn Tryz.prog TT h_made_Light Tryz.f11 #[(.slice t_a t_l t_c)] w R = F_made_Light t_a t_l t_c w R := by kernel_rfl
theorem F_made_Light_ok {R : Ending → World → Prop} (t_a : Option Addr) (t_l t_c : Nat) (w : World) (h : F_made_Light t_a t_l t_c w fun v w' => R (.returned v) w') : Calls Tryz.prog N_made_Light #[(.slice t_a t_l t_c)] w R :=
 calls_of (f := 11) follows_ok Tryz.func11 (Eq.mpr (F_made_Light_eq t_a t_l t_c w _) h)

def h_made_Roll : H := (.seq .reg (.seq .reg .leaf))
def F_made_Roll (t_a : OA) (t_l t_c : Nat) (w : World) (R : Value → WP) : Prop :=
 (kAlloc w #[(.slice t_a t_l t_c), (Iv (0 : Int))] Ty_radiolinkmade_Dice fun b w1 =>
 R (.pointer (some ⟨b, 0, none⟩)) w1)
theorem F_made_Roll_eq (t_a : Option Addr) (t_l t_c : Nat) (w : World) (R : Value → World → Prop) : sxFn Tryz.prog TT h_made_Roll Tryz.f12 #[(.slice t_a t_l t_c)] w R = F_made_Roll t_a t_l t_c w R := by kernel_rfl
theorem F_made_Roll_ok {R : Ending → World → Prop} (t_a : Option Addr) (t_l t_c : Nat) (w : World) (h : F_made_Roll t_a t_l t_c w fun v w' => R (.returned v) w') : Calls Tryz.prog N_made_Roll #[(.slice t_a t_l t_c)] w R :=
 calls_of (f := 12) follows_ok Tryz.func12 (Eq.mpr (F_made_Roll_eq t_a t_l t_c w _) h)

def h_law21_random : H := (.seq .reg (.seq .reg (.seq .reg (.seq .reg (.seq (.seq .reg (.block (.loop [(5, .p (.int .i64))] [5, 6, 7, 8, 9, 10, 33, 34, 35, 36, 37, 38, 39, 40, 41, 42, 43, 44, 45, 46, 47, 48, 49, 50, 51, 52, 53, 54, 55, 56, 57, 58, 59, 60, 61, 62, 63, 64, 65, 66, 67, 68, 69, 70, 71, 72, 73, 74, 75, 76] (.seq (.seq .reg (.cond .leaf .leaf)) (.cut [] [6, 7, 8, 9, 10, 37, 38, 39, 40, 41, 42, 43, 44, 45, 46, 47, 48, 49, 50, 51, 52, 53, 54, 55, 56, 57, 58, 59, 60, 61, 62, 63, 64, 65, 66, 67, 68, 69, 70, 71, 72, 73, 74, 75, 76] (.block (.seq .reg (.block (.seq .reg (.cond .reg (.seq .reg (.cond (.seq (.draw .blk (.one 0 .stable (.one 1 .pur (.alt 2 (.one 3 .pur (.alt 4 (.one 5 .pur (.one 6 .pur (.one 7 .pur (.one 8 .pur (.one 9 .keep (.one 10 .last (.one 11 .pur (.one 12 .pur .nil)))))))) (.alt 9 (.one 4 .keep (.one 5 .pur (.one 6 .pur (.one 7 .pur (.one 8 .pur (.one 10 .last (.one 11 .pur (.one 12 .pur .nil)))))))) .endAlt))) (.alt 9 (.one 2 .keep (.one 3 .pur (.one 4 .keep (.one 5 .pur (.one 6 .pur (.one 7 .pur (.one 8 .pur (.one 10 .last (.one 11 .pur (.one 12 .pur .nil)))))))))) .endAlt))))) (.seq .reg (.cond .reg .leaf))) (.seq (.draw .blk (.one 0 .pur (.one 1 .pur (.one 2 .stable (.one 3 .pur (.one 4 .pre (.one 5 .keep (.one 6 .last (.one 7 .pur (.one 8 .pur (.one 9 .pur (.one 10 .pur (.one 11 .pur .nil))))))))))))) .reg)))))))) .reg))))) (.seq .reg .leaf))))))
def F_law21_random (d_b d_o : Nat) (w : World) (R : Value → WP) : Prop :=
 (kAlloc w #[Iv (0 : Int), Iv (0 : Int), Iv (0 : Int), Iv (0 : Int), Iv (0 : Int), Iv (0 : Int), Iv (0 : Int), Iv (0 : Int), Iv (0 : Int), Iv (0 : Int), Iv (0 : Int), Iv (0 : Int), .bool false, .slice none 0 0] Ty_api_Receiver fun b w1 =>
 (CP N_made_Dice_Link #[(.pointer (some ⟨d_b, d_o, none⟩))] w1 fun e_ w2 =>
 ∃ r_0 r_1 r_2 r_3 r_4 r_5 : Int, e_ = .returned (.agg #[Iv r_0, Iv r_1, Iv r_2, Iv r_3, Iv r_4, Iv r_5]) ∧
 (CP N_ref21_New #[(.agg #[Iv r_0, Iv r_1, Iv r_2, Iv r_3, Iv r_4, Iv r_5])] w2 fun e_1 w3 =>
 ∃ r_01 r_11 r_21 r_31 r_41 r_51 r_6 r_7 r_8 r_9 r_10 r_111 : Int, ∃ r_12 : Bool, ∃ r_13_a : OA, ∃ r_13_l r_13_c : Nat, ∃ r : Int, e_1 = .returned (.tuple #[(.agg #[Iv r_01, Iv r_11, Iv r_21, Iv r_31, Iv r_41, Iv r_51, Iv r_6, Iv r_7, Iv r_8, Iv r_9, Iv r_10, Iv r_111, .bool r_12, .slice r_13_a r_13_l r_13_c]), (Iv r)]) ∧
 (kAlloc w3 #[Iv (0 : Int), Iv (0 : Int), Iv (0 : Int), Iv (0 : Int), Iv (0 : Int), Iv (0 : Int), Iv (0 : Int), Iv (0 : Int), Iv (0 : Int), Iv (0 : Int), Iv (0 : Int), Iv (0 : Int), .bool false, .slice none 0 0] Ty_api_Receiver fun b1 w4 =>
 (sxStore w4 ⟨b1, 0, none⟩ 0 [(Iv r_01), (Iv r_11), (Iv r_21), (Iv r_31), (Iv r_41), (Iv r_51), (Iv r_6), (Iv r_7), (Iv r_8), (Iv r_9), (Iv r_10), (Iv r_111), (.bool r_12), (.slice r_13_a r_13_l r_13_c)] fun w5 =>
 (kLd w5 ⟨b1, 0, none⟩ .i64 fun x =>
 (kW .u64 (x) fun x1 =>
 (0 ≤ x1 ∧ (kW .i64 ((1 : Int) * 2 ^ (min x1.toNat (IntKind.bits .i64))) fun x2 =>
 (CP N_made_Dice_Next #[(.pointer (some ⟨d_b, d_o, none⟩)), (Iv x2)] w5 fun e_2 w6 =>
 ∃ r1 : Int, e_2 = .returned (Iv r1) ∧
 (kSet w6 ⟨b1, 6, none⟩ (Iv r1) fun w7 =>
 (kLd w7 ⟨b1, 6, none⟩ .i64 fun x3 =>
 (kLd w7 ⟨b1, 6, none⟩ .i64 fun x4 =>
 (kSet w7 ⟨b1, 7, none⟩ (Iv x3) fun w8 =>
 (kSet w8 ⟨b1, 8, none⟩ (Iv x4) fun w9 =>
 (CP N_made_Dice_Next #[(.pointer (some ⟨d_b, d_o, none⟩)), (Iv (40 : Int))] w9 fun e_3 w10 =>
 ∃ r2 : Int, e_3 = .returned (Iv r2) ∧
 (∃ I : Int → Nat × (WP), (I r2).2 w10 ∧
 (∀ (_ : Env) (n : Int) (w11 : World), (I n).2 w11 →
 (bsplit (decide (n > (0 : Int)))
 ((∃ J : WP,
 (∀ (_ : Env)  (w35 : World), J w35 →
 (kW .i64 (n - (1 : Int)) fun x10 =>
 ((I x10).2 w35 ∧ (I x10).1 < (I n).1))) ∧
 (CP N_made_Dice_Next #[(.pointer (some ⟨d_b, d_o, none⟩)), (Iv (5 : Int))] w11 fun e_4 w12 =>
 ∃ r3 : Int, e_4 = .returned (Iv r3) ∧
 (kLet (decide (r3 = (0 : Int))) fun x5 =>
 (bsplit x5
 ((∃ x_0 x_1 x_2 x_3 x_4 x_5 x_6 x_7 x_8 x_9 x_10 x_11 : Int, ∃ x_12 : Bool, ∃ x_13_a : OA, ∃ x_13_l x_13_c : Nat, cellsAt w12 ⟨b1, 0, none⟩ 0 [(Iv x_0), (Iv x_1), (Iv x_2), (Iv x_3), (Iv x_4), (Iv x_5), (Iv x_6), (Iv x_7), (Iv x_8), (Iv x_9), (Iv x_10), (Iv x_11), (.bool x_12), (.slice x_13_a x_13_l x_13_c)] ∧
 (CP N_ref21_Tick #[(.agg #[Iv x_0, Iv x_1, Iv x_2, Iv x_3, Iv x_4, Iv x_5, Iv x_6, Iv x_7, Iv x_8, Iv x_9, Iv x_10, Iv x_11, .bool x_12, .slice x_13_a x_13_l x_13_c])] w12 fun e_5 w13 =>
 ∃ r_02 r_13 r_22 r_32 r_42 r_52 r_61 r_71 r_81 r_91 r_101 r_112 : Int, ∃ r_121 : Bool, ∃ r_13_a1 : OA, ∃ r_13_l1 r_13_c1 : Nat, ∃ r4 : Int, e_5 = .returned (.tuple #[(.agg #[Iv r_02, Iv r_13, Iv r_22, Iv r_32, Iv r_42, Iv r_52, Iv r_61, Iv r_71, Iv r_81, Iv r_91, Iv r_101, Iv r_112, .bool r_121, .slice r_13_a1 r_13_l1 r_13_c1]), (Iv r4)]) ∧
 (sxStore w13 ⟨b1, 0, none⟩ 0 [(Iv r_02), (Iv r_13), (Iv r_22), (Iv r_32), (Iv r_42), (Iv r_52), (Iv r_61), (Iv r_71), (Iv r_81), (Iv r_91), (Iv r_101), (Iv r_112), (.bool r_121), (.slice r_13_a1 r_13_l1 r_13_c1)] fun w14 =>
 J w14))))
 ((kLet (decide (r3 = (1 : Int))) fun x6 =>
 (bsplit x6
 ((kDrew w12 fun w15 =>
 (∃ S : Nat → Prop,
 (S b1 ∧
 (∃ x_01 x_13 x_21 x_31 x_41 x_51 x_61 x_71 x_81 x_91 x_101 x_111 : Int, ∃ x_121 : Bool, ∃ x_13_a1 : OA, ∃ x_13_l1 x_13_c1 : Nat, cellsAt w15 ⟨b1, 0, none⟩ 0 [(Iv x_01), (Iv x_13), (Iv x_21), (Iv x_31), (Iv x_41), (Iv x_51), (Iv x_61), (Iv x_71), (Iv x_81), (Iv x_91), (Iv x_101), (Iv x_111), (.bool x_121), (.slice x_13_a1 x_13_l1 x_13_c1)] ∧
 ((CP N_made_Dice_Next #[(.pointer (some ⟨d_b, d_o, none⟩)), (Iv (30 : Int))] w15 fun e_8 w21 =>
 ∃ r7 : Int, e_8 = .returned (Iv r7) ∧
 (KeepsB S w15 w21 ∧ (kW .i64 ((3 : Int) + r7) fun x8 =>
 ((CP N_ref21_Report #[(.agg #[Iv x_01, Iv x_13, Iv x_21, Iv x_31, Iv x_41, Iv x_51, Iv x_61, Iv x_71, Iv x_81, Iv x_91, Iv x_101, Iv x_111, .bool x_121, .slice x_13_a1 x_13_l1 x_13_c1]), (Iv x8)] w21 fun e_10 w26 =>
 ∃ r_05 r_16 r_25 r_35 r_45 r_55 r_64 r_74 r_84 r_94 r_104 r_115 : Int, ∃ r_124 : Bool, ∃ r_13_a4 : OA, ∃ r_13_l4 r_13_c4 : Nat, ∃ r_a2 : OA, ∃ r_l2 r_c2 : Nat, ∃ r9 : Int, e_10 = .returned (.tuple #[(.agg #[Iv r_05, Iv r_16, Iv r_25, Iv r_35, Iv r_45, Iv r_55, Iv r_64, Iv r_74, Iv r_84, Iv r_94, Iv r_104, Iv r_115, .bool r_124, .slice r_13_a4 r_13_l4 r_13_c4]), (.slice r_a2 r_l2 r_c2), (Iv r9)]) ∧
 (KeepsB S w15 w26 ∧ (kAlloc w26 #[Iv (0 : Int), Iv (0 : Int), Iv (0 : Int), Iv (0 : Int), Iv (0 : Int), Iv (0 : Int), Iv (0 : Int), Iv (0 : Int), Iv (0 : Int), Iv (0 : Int), Iv (0 : Int), Iv (0 : Int), .bool false, .slice none 0 0] Ty_api_Receiver fun b4 w27 =>
 (KeepsB S w15 w27 ∧ (sxStore w27 ⟨b4, 0, none⟩ 0 [(Iv r_05), (Iv r_16), (Iv r_25), (Iv r_35), (Iv r_45), (Iv r_55), (Iv r_64), (Iv r_74), (Iv r_84), (Iv r_94), (Iv r_104), (Iv r_115), (.bool r_124), (.slice r_13_a4 r_13_l4 r_13_c4)] fun w28 =>
 (bsplit (decide (r9 = (0 : Int)))
 ((∃ x_04 x_16 x_24 x_34 x_44 x_54 x_64 x_74 x_84 x_94 x_104 x_114 : Int, ∃ x_124 : Bool, ∃ x_13_a4 : OA, ∃ x_13_l4 x_13_c4 : Nat, cellsAt w28 ⟨b4, 0, none⟩ 0 [(Iv x_04), (Iv x_16), (Iv x_24), (Iv x_34), (Iv x_44), (Iv x_54), (Iv x_64), (Iv x_74), (Iv x_84), (Iv x_94), (Iv x_104), (Iv x_114), (.bool x_124), (.slice x_13_a4 x_13_l4 x_13_c4)] ∧
 (sxStore w28 ⟨b1, 0, none⟩ 0 [(Iv x_04), (Iv x_16), (Iv x_24), (Iv x_34), (Iv x_44), (Iv x_54), (Iv x_64), (Iv x_74), (Iv x_84), (Iv x_94), (Iv x_104), (Iv x_114), (.bool x_124), (.slice x_13_a4 x_13_l4 x_13_c4)] fun w29 =>
 J w29)))
 (J w28))))))) ∧
 ((kAlloc w21 #[Iv (0 : Int), Iv (0 : Int), Iv (0 : Int), Iv (0 : Int), Iv (0 : Int), Iv (0 : Int), Iv (0 : Int), Iv (0 : Int), Iv (0 : Int), Iv (0 : Int), Iv (0 : Int), Iv (0 : Int), .bool false, .slice none 0 0] Ty_api_Receiver fun b3 w22 =>
 (KeepsB S w15 w22 ∧ (CP N_ref21_Report #[(.agg #[Iv x_01, Iv x_13, Iv x_21, Iv x_31, Iv x_41, Iv x_51, Iv x_61, Iv x_71, Iv x_81, Iv x_91, Iv x_101, Iv x_111, .bool x_121, .slice x_13_a1 x_13_l1 x_13_c1]), (Iv x8)] w22 fun e_9 w23 =>
 ∃ r_04 r_15 r_24 r_34 r_44 r_54 r_63 r_73 r_83 r_93 r_103 r_114 : Int, ∃ r_123 : Bool, ∃ r_13_a3 : OA, ∃ r_13_l3 r_13_c3 : Nat, ∃ r_a1 : OA, ∃ r_l1 r_c1 : Nat, ∃ r8 : Int, e_9 = .returned (.tuple #[(.agg #[Iv r_04, Iv r_15, Iv r_24, Iv r_34, Iv r_44, Iv r_54, Iv r_63, Iv r_73, Iv r_83, Iv r_93, Iv r_103, Iv r_114, .bool r_123, .slice r_13_a3 r_13_l3 r_13_c3]), (.slice r_a1 r_l1 r_c1), (Iv r8)]) ∧
 (KeepsB S w15 w23 ∧ (sxStore w23 ⟨b3, 0, none⟩ 0 [(Iv r_04), (Iv r_15), (Iv r_24), (Iv r_34), (Iv r_44), (Iv r_54), (Iv r_63), (Iv r_73), (Iv r_83), (Iv r_93), (Iv r_103), (Iv r_114), (.bool r_123), (.slice r_13_a3 r_13_l3 r_13_c3)] fun w24 =>
 (bsplit (decide (r8 = (0 : Int)))
 ((∃ x_03 x_15 x_23 x_33 x_43 x_53 x_63 x_73 x_83 x_93 x_103 x_113 : Int, ∃ x_123 : Bool, ∃ x_13_a3 : OA, ∃ x_13_l3 x_13_c3 : Nat, cellsAt w24 ⟨b3, 0, none⟩ 0 [(Iv x_03), (Iv x_15), (Iv x_23), (Iv x_33), (Iv x_43), (Iv x_53), (Iv x_63), (Iv x_73), (Iv x_83), (Iv x_93), (Iv x_103), (Iv x_113), (.bool x_123), (.slice x_13_a3 x_13_l3 x_13_c3)] ∧
 (sxStore w24 ⟨b1, 0, none⟩ 0 [(Iv x_03), (Iv x_15), (Iv x_23), (Iv x_33), (Iv x_43), (Iv x_53), (Iv x_63), (Iv x_73), (Iv x_83), (Iv x_93), (Iv x_103), (Iv x_113), (.bool x_123), (.slice x_13_a3 x_13_l3 x_13_c3)] fun w25 =>
 J w25)))
 (J w24))))))) ∧
 True))))) ∧
 ((kAlloc w15 #[Iv (0 : Int), Iv (0 : Int), Iv (0 : Int), Iv (0 : Int), Iv (0 : Int), Iv (0 : Int), Iv (0 : Int), Iv (0 : Int), Iv (0 : Int), Iv (0 : Int), Iv (0 : Int), Iv (0 : Int), .bool false, .slice none 0 0] Ty_api_Receiver fun b2 w16 =>
 (KeepsB S w15 w16 ∧ (CP N_made_Dice_Next #[(.pointer (some ⟨d_b, d_o, none⟩)), (Iv (30 : Int))] w16 fun e_6 w17 =>
 ∃ r5 : Int, e_6 = .returned (Iv r5) ∧
 (KeepsB S w15 w17 ∧ (kW .i64 ((3 : Int) + r5) fun x7 =>
 (CP N_ref21_Report #[(.agg #[Iv x_01, Iv x_13, Iv x_21, Iv x_31, Iv x_41, Iv x_51, Iv x_61, Iv x_71, Iv x_81, Iv x_91, Iv x_101, Iv x_111, .bool x_121, .slice x_13_a1 x_13_l1 x_13_c1]), (Iv x7)] w17 fun e_7 w18 =>
 ∃ r_03 r_14 r_23 r_33 r_43 r_53 r_62 r_72 r_82 r_92 r_102 r_113 : Int, ∃ r_122 : Bool, ∃ r_13_a2 : OA, ∃ r_13_l2 r_13_c2 : Nat, ∃ r_a : OA, ∃ r_l r_c : Nat, ∃ r6 : Int, e_7 = .returned (.tuple #[(.agg #[Iv r_03, Iv r_14, Iv r_23, Iv r_33, Iv r_43, Iv r_53, Iv r_62, Iv r_72, Iv r_82, Iv r_92, Iv r_102, Iv r_113, .bool r_122, .slice r_13_a2 r_13_l2 r_13_c2]), (.slice r_a r_l r_c), (Iv r6)]) ∧
 (KeepsB S w15 w18 ∧ (sxStore w18 ⟨b2, 0, none⟩ 0 [(Iv r_03), (Iv r_14), (Iv r_23), (Iv r_33), (Iv r_43), (Iv r_53), (Iv r_62), (Iv r_72), (Iv r_82), (Iv r_92), (Iv r_102), (Iv r_113), (.bool r_122), (.slice r_13_a2 r_13_l2 r_13_c2)] fun w19 =>
 (bsplit (decide (r6 = (0 : Int)))
 ((∃ x_02 x_14 x_22 x_32 x_42 x_52 x_62 x_72 x_82 x_92 x_102 x_112 : Int, ∃ x_122 : Bool, ∃ x_13_a2 : OA, ∃ x_13_l2 x_13_c2 : Nat, cellsAt w19 ⟨b2, 0, none⟩ 0 [(Iv x_02), (Iv x_14), (Iv x_22), (Iv x_32), (Iv x_42), (Iv x_52), (Iv x_62), (Iv x_72), (Iv x_82), (Iv x_92), (Iv x_102), (Iv x_112), (.bool x_122), (.slice x_13_a2 x_13_l2 x_13_c2)] ∧
 (sxStore w19 ⟨b1, 0, none⟩ 0 [(Iv x_02), (Iv x_14), (Iv x_22), (Iv x_32), (Iv x_42), (Iv x_52), (Iv x_62), (Iv x_72), (Iv x_82), (Iv x_92), (Iv x_102), (Iv x_112), (.bool x_122), (.slice x_13_a2 x_13_l2 x_13_c2)] fun w20 =>
 J w20)))
 (J w19)))))))))) ∧
 True)))))))
 ((kDrew w12 fun w30 =>
 (∃ S1 : Nat → Prop,
 (S1 b1 ∧
 (kLd w30 ⟨b1, 0, none⟩ .i64 fun x9 =>
 (∃ x_05 x_17 x_25 x_35 x_45 x_55 x_65 x_75 x_85 x_95 x_105 x_115 : Int, ∃ x_125 : Bool, ∃ x_13_a5 : OA, ∃ x_13_l5 x_13_c5 : Nat, cellsAt w30 ⟨b1, 0, none⟩ 0 [(Iv x_05), (Iv x_17), (Iv x_25), (Iv x_35), (Iv x_45), (Iv x_55), (Iv x_65), (Iv x_75), (Iv x_85), (Iv x_95), (Iv x_105), (Iv x_115), (.bool x_125), (.slice x_13_a5 x_13_l5 x_13_c5)] ∧
 (CP N_law21_piece #[(.pointer (some ⟨d_b, d_o, none⟩)), (.agg #[Iv x_05, Iv x_17, Iv x_25, Iv x_35, Iv x_45, Iv x_55, Iv x_65, Iv x_75, Iv x_85, Iv x_95, Iv x_105, Iv x_115, .bool x_125, .slice x_13_a5 x_13_l5 x_13_c5])] w30 fun e_11 w31 =>
 ∃ r_06 r_17 r_26 r_36 : Int, ∃ r_4_a : OA, ∃ r_4_l r_4_c : Nat, e_11 = .returned (.agg #[Iv r_06, Iv r_17, Iv r_26, Iv r_36, .slice r_4_a r_4_l r_4_c]) ∧
 (KeepsB S1 w30 w31 ∧ (CP N_ref18_Encode #[(Iv x9), (.agg #[Iv r_06, Iv r_17, Iv r_26, Iv r_36, .slice r_4_a r_4_l r_4_c])] w31 fun e_12 w32 =>
 ∃ r_a3 : OA, ∃ r_l3 r_c3 : Nat, ∃ r10 : Int, e_12 = .returned (.tuple #[(.slice r_a3 r_l3 r_c3), (Iv r10)]) ∧
 (∃ x_06 x_18 x_26 x_36 x_46 x_56 x_66 x_76 x_86 x_96 x_106 x_116 : Int, ∃ x_126 : Bool, ∃ x_13_a6 : OA, ∃ x_13_l6 x_13_c6 : Nat, cellsAt w32 ⟨b1, 0, none⟩ 0 [(Iv x_06), (Iv x_18), (Iv x_26), (Iv x_36), (Iv x_46), (Iv x_56), (Iv x_66), (Iv x_76), (Iv x_86), (Iv x_96), (Iv x_106), (Iv x_116), (.bool x_126), (.slice x_13_a6 x_13_l6 x_13_c6)] ∧
 (CP N_ref21_Receive #[(.agg #[Iv x_06, Iv x_18, Iv x_26, Iv x_36, Iv x_46, Iv x_56, Iv x_66, Iv x_76, Iv x_86, Iv x_96, Iv x_106, Iv x_116, .bool x_126, .slice x_13_a6 x_13_l6 x_13_c6]), (.slice r_a3 r_l3 r_c3)] w32 fun e_13 w33 =>
 ∃ r_07 r_18 r_27 r_37 r_46 r_56 r_65 r_75 r_85 r_95 r_105 r_116 : Int, ∃ r_125 : Bool, ∃ r_13_a5 : OA, ∃ r_13_l5 r_13_c5 : Nat, ∃ r_a4 : OA, ∃ r_l4 r_c4 : Nat, ∃ r11 : Int, e_13 = .returned (.tuple #[(.agg #[Iv r_07, Iv r_18, Iv r_27, Iv r_37, Iv r_46, Iv r_56, Iv r_65, Iv r_75, Iv r_85, Iv r_95, Iv r_105, Iv r_116, .bool r_125, .slice r_13_a5 r_13_l5 r_13_c5]), (.slice r_a4 r_l4 r_c4), (Iv r11)]) ∧
 (sxStore w33 ⟨b1, 0, none⟩ 0 [(Iv r_07), (Iv r_18), (Iv r_27), (Iv r_37), (Iv r_46), (Iv r_56), (Iv r_65), (Iv r_75), (Iv r_85), (Iv r_95), (Iv r_105), (Iv r_116), (.bool r_125), (.slice r_13_a5 r_13_l5 r_13_c5)] fun w34 =>
 J w34))))))))))))))))))))
 ((∃ x_07 x_19 x_27 x_37 x_47 x_57 x_67 x_77 x_87 x_97 x_107 x_117 : Int, ∃ x_127 : Bool, ∃ x_13_a7 : OA, ∃ x_13_l7 x_13_c7 : Nat, cellsAt w11 ⟨b1, 0, none⟩ 0 [(Iv x_07), (Iv x_19), (Iv x_27), (Iv x_37), (Iv x_47), (Iv x_57), (Iv x_67), (Iv x_77), (Iv x_87), (Iv x_97), (Iv x_107), (Iv x_117), (.bool x_127), (.slice x_13_a7 x_13_l7 x_13_c7)] ∧
 (sxStore w11 ⟨b, 0, none⟩ 0 [(Iv x_07), (Iv x_19), (Iv x_27), (Iv x_37), (Iv x_47), (Iv x_57), (Iv x_67), (Iv x_77), (Iv x_87), (Iv x_97), (Iv x_107), (Iv x_117), (.bool x_127), (.slice x_13_a7 x_13_l7 x_13_c7)] fun w36 =>
 (∃ r_08 r_19 r_28 r_38 r_47 r_57 r_66 r_76 r_86 r_96 r_106 r_117 : Int, ∃ r_126 : Bool, ∃ r_13_a6 : OA, ∃ r_13_l6 r_13_c6 : Nat, cellsAt w36 ⟨b, 0, none⟩ 0 [(Iv r_08), (Iv r_19), (Iv r_28), (Iv r_38), (Iv r_47), (Iv r_57), (Iv r_66), (Iv r_76), (Iv r_86), (Iv r_96), (Iv r_106), (Iv r_117), (.bool r_126), (.slice r_13_a6 r_13_l6 r_13_c6)] ∧
 R (.agg #[Iv r_08, Iv r_19, Iv r_28, Iv r_38, Iv r_47, Iv r_57, Iv r_66, Iv r_76, Iv r_86, Iv r_96, Iv r_106, Iv r_117, .bool r_126, .slice r_13_a6 r_13_l6 r_13_c6]) w36)))))))))))))))))))))))
theorem F_law21_random_eq (d_b d_o : Nat) (w : World) (R : Value → World → Prop) : sxFn Tryz.prog TT h_law21_random Tryz.f13 #[(.pointer (some ⟨d_b, d_o, none⟩))] w R = F_law21_random d_b d_o w R := by kernel_rfl
theorem F_law21_random_ok {R : Ending → World → Prop} (d_b d_o : Nat) (w : World) (h : F_law21_random d_b d_o w fun v w' => R (.returned v) w') : Calls Tryz.prog N_law21_random #[(.pointer (some ⟨d_b, d_o, none⟩))] w R :=
 calls_of (f := 13) follows_ok Tryz.func13 (Eq.mpr (F_law21_random_eq d_b d_o w _) h)

def h_ref18_Encode : H := (.seq .reg (.seq (.seq .reg (.cond (.seq .reg .leaf) .leaf)) (.seq .reg (.seq (.seq .reg (.cond .reg .leaf)) (.seq .reg .leaf)))))
def F_ref18_Encode (bits p_0 p_1 p_2 p_3 : Int) (p_4_a : OA) (p_4_l p_4_c : Nat) (w : World) (R : Value → WP) : Prop :=
 (kAlloc w #[(Iv p_0), (Iv p_1), (Iv p_2), (Iv p_3), (.slice p_4_a p_4_l p_4_c)] Ty_api_Piece fun b w1 =>
 (∃ x_0 x_1 x_2 x_3 : Int, ∃ x_4_a : OA, ∃ x_4_l x_4_c : Nat, cellsAt w1 ⟨b, 0, none⟩ 0 [(Iv x_0), (Iv x_1), (Iv x_2), (Iv x_3), (.slice x_4_a x_4_l x_4_c)] ∧
 (CP N_ref18_Valid #[(Iv bits), (.agg #[Iv x_0, Iv x_1, Iv x_2, Iv x_3, .slice x_4_a x_4_l x_4_c])] w1 fun e_ w2 =>
 ∃ r : Bool, e_ = .returned (.bool r) ∧
 (bsplit (!r)
 (R (.tuple #[(.slice none 0 0), (Iv (1 : Int))]) w2)
 ((kLd w2 ⟨b, 2, none⟩ .i64 fun x =>
 (kW .i64 ((16384 : Int) * x) fun x1 =>
 (kW .i64 ((32768 : Int) + x1) fun x2 =>
 (kLd w2 ⟨b, 1, none⟩ .i64 fun x3 =>
 (kW .i64 ((4096 : Int) * x3) fun x4 =>
 (kW .i64 (x2 + x4) fun x5 =>
 (kLd w2 ⟨b, 0, none⟩ .i64 fun x6 =>
 (kW .i64 (x5 + x6) fun x7 =>
 (CP N_ref01_Put #[(.slice none 0 0), (Iv (2 : Int)), (Iv x7)] w2 fun e_1 w3 =>
 ∃ r_a : OA, ∃ r_l r_c : Nat, e_1 = .returned (.slice r_a r_l r_c) ∧
 (kLd w3 ⟨b, 1, none⟩ .i64 fun x8 =>
 (CP N_ref18_Head #[(Iv x8)] w3 fun e_2 w4 =>
 ∃ r1 : Int, e_2 = .returned (Iv r1) ∧
 (bsplit (decide (r1 = (4 : Int)))
 ((kLd w4 ⟨b, 3, none⟩ .i64 fun x9 =>
 (CP N_ref01_Put #[(.slice r_a r_l r_c), (Iv (2 : Int)), (Iv x9)] w4 fun e_3 w5 =>
 ∃ r_a1 : OA, ∃ r_l1 r_c1 : Nat, e_3 = .returned (.slice r_a1 r_l1 r_c1) ∧
 (kLdS w5 ⟨b, 4, none⟩ fun x_a x_l x_c =>
 (AppP Tryz.prog #[Ty_S_uint8, Ty_S_uint8] Ty_S_uint8 #[(.slice r_a1 r_l1 r_c1), (.slice x_a x_l x_c)] w5 fun x_a1 x_l1 x_c1 w6 =>
 R (.tuple #[(.slice x_a1 x_l1 x_c1), (Iv (0 : Int))]) w6)))))
 ((kLdS w4 ⟨b, 4, none⟩ fun x_a2 x_l2 x_c2 =>
 (AppP Tryz.prog #[Ty_S_uint8, Ty_S_uint8] Ty_S_uint8 #[(.slice r_a r_l r_c), (.slice x_a2 x_l2 x_c2)] w4 fun x_a3 x_l3 x_c3 w7 =>
 R (.tuple #[(.slice x_a3 x_l3 x_c3), (Iv (0 : Int))]) w7))))))))))))))))))))
theorem F_ref18_Encode_eq (bits p_0 p_1 p_2 p_3 : Int) (p_4_a : Option Addr) (p_4_l p_4_c : Nat) (w : World) (R : Value → World → Prop) : sxFn Tryz.prog TT h_ref18_Encode Tryz.f14 #[(.int .i64 bits), (.agg #[.int .i64 p_0, .int .i64 p_1, .int .i64 p_2, .int .i64 p_3, .slice p_4_a p_4_l p_4_c])] w R = F_ref18_Encode bits p_0 p_1 p_2 p_3 p_4_a p_4_l p_4_c w R := by kernel_rfl
theorem F_ref18_Encode_ok {R : Ending → World → Prop} (bits p_0 p_1 p_2 p_3 : Int) (p_4_a : Option Addr) (p_4_l p_4_c : Nat) (w : World) (h : F_ref18_Encode bits p_0 p_1 p_2 p_3 p_4_a p_4_l p_4_c w fun v w' => R (.returned v) w') : Calls Tryz.prog N_ref18_Encode #[(.int .i64 bits), (.agg #[.int .i64 p_0, .int .i64 p_1, .int .i64 p_2, .int .i64 p_3, .slice p_4_a p_4_l p_4_c])] w R :=
 calls_of (f := 14) follows_ok Tryz.func14 (Eq.mpr (F_ref18_Encode_eq bits p_0 p_1 p_2 p_3 p_4_a p_4_l p_4_c w _) h)

def h_law21_piece : H := (.seq .reg (.seq .reg (.cut [(5, .p (.int .i64))] [5, 13, 14, 15, 16, 17, 18, 19, 20, 21, 22, 23, 24] (.seq .reg (.cond .reg .leaf)) (.seq .reg (.seq .reg (.cut [(7, .p .slice)] [7, 38, 39, 40, 41, 42, 43] (.seq .reg (.cond .reg .leaf)) (.seq .reg (.seq .reg (.cut [(8, .p (.int .i64)), (9, .p (.int .i64))] [8, 9, 57, 58, 59, 60] (.seq .reg (.cond .reg .leaf)) (.cut [(10, .p .addr)] [10, 61, 62, 63, 64, 65, 66, 67, 68, 69] (.draw .blk (.one 0 .pur (.one 1 .pur (.one 3 .pur (.one 4 .pur (.one 5 .pur (.one 6 .pur (.one 7 .pur (.alt 2 (.alt 8 (.one 9 .keep (.one 10 .last .nil)) (.alt 9 (.one 8 .keep (.one 10 .last .nil)) .endAlt)) (.alt 9 (.one 2 .keep (.one 8 .keep (.one 10 .last .nil))) .endAlt)))))))))) (.seq (.block (.cut [(70, .p .bool)] [70, 71, 72, 73, 74, 75, 76, 77, 78] .reg (.cond .reg (.seq .reg (.cond .reg (.seq .reg (.cond .reg .leaf))))))) (.seq .reg .leaf))))))))))))
def F_law21_piece (d_b d_o : Nat) (r_0 r_1 r_2 r_3 r_4 r_5 r_6 r_7 r_8 r_9 r_10 r_11 : Int) (r_12 : Bool) (r_13_a : OA) (r_13_l r_13_c : Nat) (w : World) (R : Value → WP) : Prop :=
 (kAlloc w #[(Iv r_0), (Iv r_1), (Iv r_2), (Iv r_3), (Iv r_4), (Iv r_5), (Iv r_6), (Iv r_7), (Iv r_8), (Iv r_9), (Iv r_10), (Iv r_11), (.bool r_12), (.slice r_13_a r_13_l r_13_c)] Ty_api_Receiver fun b w1 =>
 (kAlloc w1 #[Iv (0 : Int), Iv (0 : Int), Iv (0 : Int), Iv (0 : Int), .slice none 0 0] Ty_api_Piece fun b1 w2 =>
 (CP N_made_Dice_Next #[(.pointer (some ⟨d_b, d_o, none⟩)), (Iv (7 : Int))] w2 fun e_ w3 =>
 ∃ r : Int, e_ = .returned (Iv r) ∧
 (∃ J : Int → WP,
 (∀ (_ : Env) (k : Int) (w6 : World), J k w6 →
 (kLd w6 ⟨b, 0, none⟩ .i64 fun x6 =>
 (kLd w6 ⟨b, 6, none⟩ .i64 fun x7 =>
 (kW .i64 (x7 + k) fun x8 =>
 (CP N_ref02_Low #[(Iv x6), (Iv x8)] w6 fun e_3 w7 =>
 ∃ r3 : Int, e_3 = .returned (Iv r3) ∧
 (kLet (Int.tmod r3 (9 : Int)) fun x9 =>
 (kW .i64 ((4 : Int) + x9) fun x10 =>
 (CP N_made_Filled #[(Iv x10), (Iv r3)] w7 fun e_4 w8 =>
 ∃ r_a : OA, ∃ r_l r_c : Nat, e_4 = .returned (.slice r_a r_l r_c) ∧
 (∃ J1 : OA → Nat → Nat → WP,
 (∀ (_ : Env) (u_a : OA) (u_l : Nat) (u_c : Nat) (w11 : World), J1 u_a u_l u_c w11 →
 (CP N_made_Dice_Next #[(.pointer (some ⟨d_b, d_o, none⟩)), (Iv (u_l : Int))] w11 fun e_7 w12 =>
 ∃ r5 : Int, e_7 = .returned (Iv r5) ∧
 (kW .i64 (r5 + (1 : Int)) fun x13 =>
 (kW .i64 ((u_l : Int) - r5) fun x14 =>
 (CP N_made_Dice_Next #[(.pointer (some ⟨d_b, d_o, none⟩)), (Iv x14)] w12 fun e_8 w13 =>
 ∃ r6 : Int, e_8 = .returned (Iv r6) ∧
 (kW .i64 (x13 + r6) fun x15 =>
 (∃ J2 : Int → Int → WP,
 (∀ (_ : Env) (from1 : Int) (to1 : Int) (w15 : World), J2 from1 to1 w15 →
 (∃ J3 : Addr → WP,
 (∀ (_ : Env) (p : Addr) (w25 : World), J3 p w25 →
 (∃ J4 : Bool → WP,
 (∀ (_ : Env) (x17 : Bool) (w26 : World), J4 x17 w26 →
 (bsplit x17
 ((kSet w26 (p.add 1) (Iv (0 : Int)) fun w27 =>
 (∃ x_0 x_1 x_2 x_3 : Int, ∃ x_4_a : OA, ∃ x_4_l x_4_c : Nat, cellsAt w27 p 0 [(Iv x_0), (Iv x_1), (Iv x_2), (Iv x_3), (.slice x_4_a x_4_l x_4_c)] ∧
 (sxStore w27 ⟨b1, 0, none⟩ 0 [(Iv x_0), (Iv x_1), (Iv x_2), (Iv x_3), (.slice x_4_a x_4_l x_4_c)] fun w28 =>
 (∃ r_01 r_13 r_21 r_31 : Int, ∃ r_4_a : OA, ∃ r_4_l r_4_c : Nat, cellsAt w28 ⟨b1, 0, none⟩ 0 [(Iv r_01), (Iv r_13), (Iv r_21), (Iv r_31), (.slice r_4_a r_4_l r_4_c)] ∧
 R (.agg #[Iv r_01, Iv r_13, Iv r_21, Iv r_31, .slice r_4_a r_4_l r_4_c]) w28)))))
 ((kLet (decide (from1 = (0 : Int))) fun x18 =>
 (bsplit x18
 ((kSet w26 (p.add 1) (Iv (1 : Int)) fun w29 =>
 (∃ x_01 x_11 x_21 x_31 : Int, ∃ x_4_a1 : OA, ∃ x_4_l1 x_4_c1 : Nat, cellsAt w29 p 0 [(Iv x_01), (Iv x_11), (Iv x_21), (Iv x_31), (.slice x_4_a1 x_4_l1 x_4_c1)] ∧
 (sxStore w29 ⟨b1, 0, none⟩ 0 [(Iv x_01), (Iv x_11), (Iv x_21), (Iv x_31), (.slice x_4_a1 x_4_l1 x_4_c1)] fun w30 =>
 (∃ r_02 r_14 r_22 r_32 : Int, ∃ r_4_a1 : OA, ∃ r_4_l1 r_4_c1 : Nat, cellsAt w30 ⟨b1, 0, none⟩ 0 [(Iv r_02), (Iv r_14), (Iv r_22), (Iv r_32), (.slice r_4_a1 r_4_l1 r_4_c1)] ∧
 R (.agg #[Iv r_02, Iv r_14, Iv r_22, Iv r_32, .slice r_4_a1 r_4_l1 r_4_c1]) w30)))))
 ((kLet (decide (to1 = (u_l : Int))) fun x19 =>
 (bsplit x19
 ((kSet w26 (p.add 1) (Iv (2 : Int)) fun w31 =>
 (∃ x_02 x_12 x_22 x_32 : Int, ∃ x_4_a2 : OA, ∃ x_4_l2 x_4_c2 : Nat, cellsAt w31 p 0 [(Iv x_02), (Iv x_12), (Iv x_22), (Iv x_32), (.slice x_4_a2 x_4_l2 x_4_c2)] ∧
 (sxStore w31 ⟨b1, 0, none⟩ 0 [(Iv x_02), (Iv x_12), (Iv x_22), (Iv x_32), (.slice x_4_a2 x_4_l2 x_4_c2)] fun w32 =>
 (∃ r_03 r_15 r_23 r_33 : Int, ∃ r_4_a2 : OA, ∃ r_4_l2 r_4_c2 : Nat, cellsAt w32 ⟨b1, 0, none⟩ 0 [(Iv r_03), (Iv r_15), (Iv r_23), (Iv r_33), (.slice r_4_a2 r_4_l2 r_4_c2)] ∧
 R (.agg #[Iv r_03, Iv r_15, Iv r_23, Iv r_33, .slice r_4_a2 r_4_l2 r_4_c2]) w32)))))
 ((∃ x_03 x_13 x_23 x_33 : Int, ∃ x_4_a3 : OA, ∃ x_4_l3 x_4_c3 : Nat, cellsAt w26 p 0 [(Iv x_03), (Iv x_13), (Iv x_23), (Iv x_33), (.slice x_4_a3 x_4_l3 x_4_c3)] ∧
 (sxStore w26 ⟨b1, 0, none⟩ 0 [(Iv x_03), (Iv x_13), (Iv x_23), (Iv x_33), (.slice x_4_a3 x_4_l3 x_4_c3)] fun w33 =>
 (∃ r_04 r_16 r_24 r_34 : Int, ∃ r_4_a3 : OA, ∃ r_4_l3 r_4_c3 : Nat, cellsAt w33 ⟨b1, 0, none⟩ 0 [(Iv r_04), (Iv r_16), (Iv r_24), (Iv r_34), (.slice r_4_a3 r_4_l3 r_4_c3)] ∧
 R (.agg #[Iv r_04, Iv r_16, Iv r_24, Iv r_34, .slice r_4_a3 r_4_l3 r_4_c3]) w33)))))))))))) ∧
 (bsplit (decide (from1 = (0 : Int)))
 ((kLet (decide (to1 = (u_l : Int))) fun x16 =>
 J4 x16 w25))
 (J4 false w25)))) ∧
 (kDrew w15 fun w16 =>
 (∃ S : Nat → Prop,
 ((0 ≤ to1 ∧ to1 ≤ ((u_c : Nat) : Int)) ∧ ((0 ≤ from1 ∧ from1 ≤ ((to1.toNat : Nat) : Int)) ∧ ((CP N_made_Dice_Next #[(.pointer (some ⟨d_b, d_o, none⟩)), (Iv (2 : Int))] w16 fun e_11 w20 =>
 ∃ r9 : Int, e_11 = .returned (Iv r9) ∧
 (KeepsB S w16 w20 ∧ ((KeepsB S w16 w20 ∧ (kAlloc w20 #[Iv (0 : Int), Iv (0 : Int), Iv (0 : Int), Iv (0 : Int), .slice none 0 0] Ty_api_Piece fun b4 w23 =>
 (KeepsB S w16 w23 ∧ (sxStore w23 ⟨b4, 0, none⟩ 0 [(Iv r3), (Iv (3 : Int)), (Iv r9), (Iv from1), (.slice (slAddr u_c (from1.toNat) 1 u_a) (to1.toNat - from1.toNat) (u_c - from1.toNat))] fun w24 =>
 J3 ⟨b4, 0, none⟩ w24)))) ∧
 ((kAlloc w20 #[Iv (0 : Int), Iv (0 : Int), Iv (0 : Int), Iv (0 : Int), .slice none 0 0] Ty_api_Piece fun b3 w21 =>
 (KeepsB S w16 w21 ∧ (KeepsB S w16 w21 ∧ (sxStore w21 ⟨b3, 0, none⟩ 0 [(Iv r3), (Iv (3 : Int)), (Iv r9), (Iv from1), (.slice (slAddr u_c (from1.toNat) 1 u_a) (to1.toNat - from1.toNat) (u_c - from1.toNat))] fun w22 =>
 J3 ⟨b3, 0, none⟩ w22)))) ∧
 True)))) ∧
 ((kAlloc w16 #[Iv (0 : Int), Iv (0 : Int), Iv (0 : Int), Iv (0 : Int), .slice none 0 0] Ty_api_Piece fun b2 w17 =>
 (KeepsB S w16 w17 ∧ (CP N_made_Dice_Next #[(.pointer (some ⟨d_b, d_o, none⟩)), (Iv (2 : Int))] w17 fun e_10 w18 =>
 ∃ r8 : Int, e_10 = .returned (Iv r8) ∧
 (KeepsB S w16 w18 ∧ (KeepsB S w16 w18 ∧ (sxStore w18 ⟨b2, 0, none⟩ 0 [(Iv r3), (Iv (3 : Int)), (Iv r8), (Iv from1), (.slice (slAddr u_c (from1.toNat) 1 u_a) (to1.toNat - from1.toNat) (u_c - from1.toNat))] fun w19 =>
 J3 ⟨b2, 0, none⟩ w19)))))) ∧
 True)))))))) ∧
 (CP N_made_Dice_One #[(.pointer (some ⟨d_b, d_o, none⟩)), (Iv (3 : Int))] w13 fun e_9 w14 =>
 ∃ r7 : Bool, e_9 = .returned (.bool r7) ∧
 (bsplit r7
 (J2 (0 : Int) (u_l : Int) w14)
 (J2 r5 x15 w14)))))))))) ∧
 (CP N_made_Dice_One #[(.pointer (some ⟨d_b, d_o, none⟩)), (Iv (15 : Int))] w8 fun e_5 w9 =>
 ∃ r4 : Bool, e_5 = .returned (.bool r4) ∧
 (bsplit r4
 ((kLet (Int.tmod r3 (11 : Int)) fun x11 =>
 (kW .i64 ((3 : Int) + x11) fun x12 =>
 (CP N_made_Filled #[(Iv x12), (Iv (1 : Int))] w9 fun e_6 w10 =>
 ∃ r_a1 : OA, ∃ r_l1 r_c1 : Nat, e_6 = .returned (.slice r_a1 r_l1 r_c1) ∧
 J1 r_a1 r_l1 r_c1 w10))))
 (J1 r_a r_l r_c w9)))))))))))) ∧
 (CP N_made_Dice_One #[(.pointer (some ⟨d_b, d_o, none⟩)), (Iv (6 : Int))] w3 fun e_1 w4 =>
 ∃ r1 : Bool, e_1 = .returned (.bool r1) ∧
 (bsplit r1
 ((kLd w4 ⟨b, 0, none⟩ .i64 fun x =>
 (kW .i64 (x - (1 : Int)) fun x1 =>
 (kW .u64 (x1) fun x2 =>
 (0 ≤ x2 ∧ (kW .i64 ((1 : Int) * 2 ^ (min x2.toNat (IntKind.bits .i64))) fun x3 =>
 (kW .i64 (x3 + (6 : Int)) fun x4 =>
 (CP N_made_Dice_Next #[(.pointer (some ⟨d_b, d_o, none⟩)), (Iv x4)] w4 fun e_2 w5 =>
 ∃ r2 : Int, e_2 = .returned (Iv r2) ∧
 (kW .i64 (r2 - (3 : Int)) fun x5 =>
 J x5 w5)))))))))
 (J r w4)))))))
theorem F_law21_piece_eq (d_b d_o : Nat) (r_0 r_1 r_2 r_3 r_4 r_5 r_6 r_7 r_8 r_9 r_10 r_11 : Int) (r_12 : Bool) (r_13_a : Option Addr) (r_13_l r_13_c : Nat) (w : World) (R : Value → World → Prop) : sxFn Tryz.prog TT h_law21_piece Tryz.f15 #[(.pointer (some ⟨d_b, d_o, none⟩)), (.agg #[.int .i64 r_0, .int .i64 r_1, .int .i64 r_2, .int .i64 r_3, .int .i64 r_4, .int .i64 r_5, .int .i64 r_6, .int .i64 r_7, .int .i64 r_8, .int .i64 r_9, .int .i64 r_10, .int .i64 r_11, .bool r_12, .slice r_13_a r_13_l r_13_c])] w R = F_law21_piece d_b d_o r_0 r_1 r_2 r_3 r_4 r_5 r_6 r_7 r_8 r_9 r_10 r_11 r_12 r_13_a r_13_l r_13_c w R := by kernel_rfl
theorem F_law21_piece_ok {R : Ending → World → Prop} (d_b d_o : Nat) (r_0 r_1 r_2 r_3 r_4 r_5 r_6 r_7 r_8 r_9 r_10 r_11 : Int) (r_12 : Bool) (r_13_a : Option Addr) (r_13_l r_13_c : Nat) (w : World) (h : F_law21_piece d_b d_o r_0 r_1 r_2 r_3 r_4 r_5 r_6 r_7 r_8 r_9 r_10 r_11 r_12 r_13_a r_13_l r_13_c w fun v w' => R (.returned v) w') : Calls Tryz.prog N_law21_piece #[(.pointer (some ⟨d_b, d_o, none⟩)), (.agg #[.int .i64 r_0, .int .i64 r_1, .int .i64 r_2, .int .i64 r_3, .int .i64 r_4, .int .i64 r_5, .int .i64 r_6, .int .i64 r_7, .int .i64 r_8, .int .i64 r_9, .int .i64 r_10, .int .i64 r_11, .bool r_12, .slice r_13_a r_13_l r_13_c])] w R :=
 calls_of (f := 15) follows_ok Tryz.func15 (Eq.mpr (F_law21_piece_eq d_b d_o r_0 r_1 r_2 r_3 r_4 r_5 r_6 r_7 r_8 r_9 r_10 r_11 r_12 r_13_a r_13_l r_13_c w _) h)

def h_made_Dice_One : H := (.seq .reg (.seq .reg .leaf))
def F_made_Dice_One (d_b d_o : Nat) (n : Int) (w : World) (R : Value → WP) : Prop :=
 (CP N_made_Dice_Next #[(.pointer (some ⟨d_b, d_o, none⟩)), (Iv n)] w fun e_ w1 =>
 ∃ r : Int, e_ = .returned (Iv r) ∧
 (kW .i64 (n - (1 : Int)) fun x =>
 (kLet (decide (r = x)) fun x1 =>
 R (.bool x1) w1)))
theorem F_made_Dice_One_eq (d_b d_o : Nat) (n : Int) (w : World) (R : Value → World → Prop) : sxFn Tryz.prog TT h_made_Dice_One Tryz.f16 #[(.pointer (some ⟨d_b, d_o, none⟩)), (.int .i64 n)] w R = F_made_Dice_One d_b d_o n w R := by kernel_rfl
theorem F_made_Dice_One_ok {R : Ending → World → Prop} (d_b d_o : Nat) (n : Int) (w : World) (h : F_made_Dice_One d_b d_o n w fun v w' => R (.returned v) w') : Calls Tryz.prog N_made_Dice_One #[(.pointer (some ⟨d_b, d_o, none⟩)), (.int .i64 n)] w R :=
 calls_of (f := 16) follows_ok Tryz.func16 (Eq.mpr (F_made_Dice_One_eq d_b d_o n w _) h)

def h_made_Dice_Spoil : H := (.seq .reg (.seq .reg (.seq .reg (.seq (.seq .reg (.cond (.seq .reg .leaf) .leaf)) (.seq .reg (.seq (.seq .reg (.block (.seq .reg (.cond .reg (.seq .reg (.cond (.draw .blk (.one 0 .stable (.one 1 .stable (.one 2 .stable (.one 3 .stable (.one 4 .pre (.one 5 .keep (.one 6 .stable (.one 7 .stable (.one 8 .stable (.one 9 .stable (.one 10 .last .nil)))))))))))) (.seq .reg (.cond (.draw .blk (.one 0 .pre (.one 1 .pre (.one 2 .pre (.one 3 .pre (.one 4 .pre (.one 5 .pre (.one 6 .pre (.one 7 .keep (.one 8 .stable .nil)))))))))) (.draw .blk (.one 0 .stable (.one 1 .stable (.one 2 .stable (.one 3 .pre (.one 5 .stable (.one 6 .stable (.one 7 .stable (.one 4 .keep (.one 8 .keep (.one 9 .keep (.one 10 .stable .nil)))))))))))))))))))) (.seq .reg .leaf)))))))
def F_made_Dice_Spoil (d_b d_o : Nat) (b_a : OA) (b_l b_c : Nat) (w : World) (R : Value → WP) : Prop :=
 (AppP Tryz.prog #[Ty_S_uint8, Ty_S_uint8] Ty_S_uint8 #[(.slice none 0 0), (.slice b_a b_l b_c)] w fun x_a x_l x_c w1 =>
 (CP N_made_Dice_Next #[(.pointer (some ⟨d_b, d_o, none⟩)), (Iv (256 : Int))] w1 fun e_ w2 =>
 ∃ r : Int, e_ = .returned (Iv r) ∧
 (kW .u8 (r) fun x =>
 (bsplit (decide ((x_l : Int) = (0 : Int)))
 ((kAlloc w2 #[(.int .u8 x)] Ty_uint8 fun b w3 =>
 R (.slice (some ⟨b, 0, none⟩) 1 1) w3))
 ((CP N_made_Dice_Next #[(.pointer (some ⟨d_b, d_o, none⟩)), (Iv (x_l : Int))] w2 fun e_1 w4 =>
 ∃ r1 : Int, e_1 = .returned (Iv r1) ∧
 (CP N_made_Dice_Next #[(.pointer (some ⟨d_b, d_o, none⟩)), (Iv (4 : Int))] w4 fun e_2 w5 =>
 ∃ r2 : Int, e_2 = .returned (Iv r2) ∧
 (kLet (decide (r2 = (0 : Int))) fun x1 =>
 (bsplit x1
 ((kIx x_a x_l r1 fun b1 =>
 (kSet w5 (b1.add (r1.toNat * 1)) (.int .u8 x) fun w6 =>
 R (.slice x_a x_l x_c) w6)))
 ((kLet (decide (r2 = (1 : Int))) fun x2 =>
 (bsplit x2
 ((kDrew w5 fun w7 =>
 (∃ S : Nat → Prop,
 (kIx x_a x_l r1 fun b2 =>
 (S (b2.add (r1.toNat * 1)).block ∧
 (kLd w7 (b2.add (r1.toNat * 1)) .u8 fun x3 =>
 (CP N_made_Dice_Next #[(.pointer (some ⟨d_b, d_o, none⟩)), (Iv (8 : Int))] w7 fun e_3 w8 =>
 ∃ r3 : Int, e_3 = .returned (Iv r3) ∧
 (KeepsB S w7 w8 ∧ (kW .u64 (r3) fun x4 =>
 (0 ≤ x4 ∧ (kW .u8 ((1 : Int) * 2 ^ (min x4.toNat (IntKind.bits .u8))) fun x5 =>
 (kLet (bXor .u8 x3 x5) fun x6 =>
 (kIx x_a x_l r1 fun b3 =>
 (kSet w8 (b3.add (r1.toNat * 1)) (.int .u8 x6) fun w9 =>
 R (.slice x_a x_l x_c) w9))))))))))))))
 ((kLet (decide (r2 = (2 : Int))) fun x7 =>
 (bsplit x7
 ((kDrew w5 fun w10 =>
 (∃ S1 : Nat → Prop,
 ((0 ≤ r1 ∧ r1 ≤ ((x_c : Nat) : Int)) ∧ (kW .i64 (r1 + (1 : Int)) fun x8 =>
 ((0 ≤ x8 ∧ x8 ≤ ((x_l : Nat) : Int)) ∧ (AppP Tryz.prog #[Ty_S_uint8, Ty_S_uint8] Ty_S_uint8 #[(.slice (slAddr x_c 0 1 x_a) (r1.toNat - 0) (x_c - 0)), (.slice (slAddr x_c (x8.toNat) 1 x_a) (x_l - x8.toNat) (x_c - x8.toNat))] w10 fun x_a1 x_l1 x_c1 w11 =>
 (KeepsB S1 w10 w11 ∧ R (.slice x_a1 x_l1 x_c1) w11))))))))
 ((kDrew w5 fun w12 =>
 (∃ S2 : Nat → Prop,
 ((0 ≤ r1 ∧ r1 ≤ ((x_c : Nat) : Int)) ∧ ((0 ≤ r1 ∧ r1 ≤ ((x_l : Nat) : Int)) ∧ (kAlloc w12 #[(.int .u8 x)] Ty_uint8 fun b4 w13 =>
 (KeepsB S2 w12 w13 ∧ (AppP Tryz.prog #[Ty_S_uint8, Ty_S_uint8] Ty_S_uint8 #[(.slice (some ⟨b4, 0, none⟩) 1 1), (.slice (slAddr x_c (r1.toNat) 1 x_a) (x_l - r1.toNat) (x_c - r1.toNat))] w13 fun x_a2 x_l2 x_c2 w14 =>
 (KeepsB S2 w12 w14 ∧ (AppP Tryz.prog #[Ty_S_uint8, Ty_S_uint8] Ty_S_uint8 #[(.slice (slAddr x_c 0 1 x_a) (r1.toNat - 0) (x_c - 0)), (.slice x_a2 x_l2 x_c2)] w14 fun x_a3 x_l3 x_c3 w15 =>
 (KeepsB S2 w12 w15 ∧ R (.slice x_a3 x_l3 x_c3) w15))))))))))))))))))))))))))
theorem F_made_Dice_Spoil_eq (d_b d_o : Nat) (b_a : Option Addr) (b_l b_c : Nat) (w : World) (R : Value → World → Prop) : sxFn Tryz.prog TT h_made_Dice_Spoil Tryz.f17 #[(.pointer (some ⟨d_b, d_o, none⟩)), (.slice b_a b_l b_c)] w R = F_made_Dice_Spoil d_b d_o b_a b_l b_c w R := by kernel_rfl
theorem F_made_Dice_Spoil_ok {R : Ending → World → Prop} (d_b d_o : Nat) (b_a : Option Addr) (b_l b_c : Nat) (w : World) (h : F_made_Dice_Spoil d_b d_o b_a b_l b_c w fun v w' => R (.returned v) w') : Calls Tryz.prog N_made_Dice_Spoil #[(.pointer (some ⟨d_b, d_o, none⟩)), (.slice b_a b_l b_c)] w R :=
 calls_of (f := 17) follows_ok Tryz.func17 (Eq.mpr (F_made_Dice_Spoil_eq d_b d_o b_a b_l b_c w _) h)

def h_made_Dice_Next : H := (.seq .reg (.seq (.seq (.draw .no (.one 0 .stable (.one 1 .stable (.one 2 .stable (.one 3 .stable (.one 4 .stable (.one 5 .stable (.one 6 .stable (.one 7 .stable (.one 8 .stable (.one 9 .stable .nil))))))))))) (.cond (.seq .reg .leaf) .leaf)) (.seq .reg (.seq (.draw .blk (.one 0 .pre (.one 1 .pre (.one 2 .pre (.one 3 .pre (.one 4 .pre (.one 5 .pre (.one 6 .pre (.one 7 .pre (.one 8 .pre (.one 9 .pre (.one 10 .pre (.one 11 .pre (.one 12 .keep (.one 13 .stable .nil))))))))))))))) .leaf))))
def F_made_Dice_Next (d_b d_o : Nat) (n : Int) (w : World) (R : Value → WP) : Prop :=
 (kDrew w fun w1 =>
 (kLd w1 ⟨d_b, d_o + 1, none⟩ .i64 fun x =>
 (kLdS w1 ⟨d_b, d_o, none⟩ fun _ x_l _ =>
 (bsplit (decide (x ≥ (x_l : Int)))
 (R (Iv (0 : Int)) w1)
 ((kLd w1 ⟨d_b, d_o + 1, none⟩ .i64 fun x1 =>
 (kW .i64 (x1 + (1 : Int)) fun x2 =>
 (kSet w1 ⟨d_b, d_o + 1, none⟩ (Iv x2) fun w2 =>
 (kDrew w2 fun w3 =>
 (∃ S : Nat → Prop,
 (kLdS w3 ⟨d_b, d_o, none⟩ fun x_a1 x_l1 _ =>
 (kLd w3 ⟨d_b, d_o + 1, none⟩ .i64 fun x3 =>
 (kW .i64 (x3 - (1 : Int)) fun x4 =>
 (kIx x_a1 x_l1 x4 fun b =>
 (kLd w3 (b.add (x4.toNat * 1)) .i64 fun x5 =>
 (CP N_made_Mod #[(Iv x5), (Iv n)] w3 fun e_ w4 =>
 ∃ r : Int, e_ = .returned (Iv r) ∧
 (KeepsB S w3 w4 ∧ R (Iv r) w4)))))))))))))))))
theorem F_made_Dice_Next_eq (d_b d_o : Nat) (n : Int) (w : World) (R : Value → World → Prop) : sxFn Tryz.prog TT h_made_Dice_Next Tryz.f18 #[(.pointer (some ⟨d_b, d_o, none⟩)), (.int .i64 n)] w R = F_made_Dice_Next d_b d_o n w R := by kernel_rfl
theorem F_made_Dice_Next_ok {R : Ending → World → Prop} (d_b d_o : Nat) (n : Int) (w : World) (h : F_made_Dice_Next d_b d_o n w fun v w' => R (.returned v) w') : Calls Tryz.prog N_made_Dice_Next #[(.pointer (some ⟨d_b, d_o, none⟩)), (.int .i64 n)] w R :=
 calls_of (f := 18) follows_ok Tryz.func18 (Eq.mpr (F_made_Dice_Next_eq d_b d_o n w _) h)

def h_made_Dice_OddLink : H := (.seq .reg (.seq .reg (.cut [] [11, 12, 13, 14, 15, 16, 17, 18, 19, 20, 21, 22, 23, 24, 25, 26, 27, 28, 29, 30, 31, 32, 33, 34] (.seq .reg (.block (.seq .reg (.cond .reg (.seq .reg (.cond .reg (.seq .reg (.cond .reg (.seq .reg (.cond .reg (.seq .reg (.cond .reg .reg)))))))))))) (.seq .reg .leaf))))
def F_made_Dice_OddLink (d_b d_o : Nat) (l_0 l_1 l_2 l_3 l_4 l_5 : Int) (w : World) (R : Value → WP) : Prop :=
 (kAlloc w #[(Iv l_0), (Iv l_1), (Iv l_2), (Iv l_3), (Iv l_4), (Iv l_5)] Ty_api_Link fun b w1 =>
 (kAlloc w1 #[Iv (0 : Int), Iv (0 : Int), Iv (0 : Int), Iv (0 : Int), Iv (0 : Int), Iv (0 : Int)] Ty_api_Link fun b1 w2 =>
 (kAlloc w2 #[(Iv (-1 : Int)), (Iv (0 : Int)), (Iv (1 : Int)), (Iv (4 : Int)), (Iv (10 : Int)), (Iv (64 : Int)), (Iv (65 : Int)), (Iv (1000 : Int)), (Iv (1001 : Int)), (Iv (33 : Int))] Ty_int fun b2 w3 =>
 (CP N_made_Dice_Next #[(.pointer (some ⟨d_b, d_o, none⟩)), (Iv (10 : Int))] w3 fun e_ w4 =>
 ∃ r : Int, e_ = .returned (Iv r) ∧
 (kIx (some ⟨b2, 0, none⟩) 10 r fun b3 =>
 (kLd w4 (b3.add (r.toNat * 1)) .i64 fun x =>
 (∃ J : WP,
 (∀ (_ : Env)  (w12 : World), J w12 →
 (∃ x_0 x_1 x_2 x_3 x_4 x_5 : Int, cellsAt w12 ⟨b, 0, none⟩ 0 [(Iv x_0), (Iv x_1), (Iv x_2), (Iv x_3), (Iv x_4), (Iv x_5)] ∧
 (sxStore w12 ⟨b1, 0, none⟩ 0 [(Iv x_0), (Iv x_1), (Iv x_2), (Iv x_3), (Iv x_4), (Iv x_5)] fun w13 =>
 (∃ r_0 r_1 r_2 r_3 r_4 r_5 : Int, cellsAt w13 ⟨b1, 0, none⟩ 0 [(Iv r_0), (Iv r_1), (Iv r_2), (Iv r_3), (Iv r_4), (Iv r_5)] ∧
 R (.agg #[Iv r_0, Iv r_1, Iv r_2, Iv r_3, Iv r_4, Iv r_5]) w13)))) ∧
 (CP N_made_Dice_Next #[(.pointer (some ⟨d_b, d_o, none⟩)), (Iv (6 : Int))] w4 fun e_1 w5 =>
 ∃ r1 : Int, e_1 = .returned (Iv r1) ∧
 (kLet (decide (r1 = (0 : Int))) fun x1 =>
 (bsplit x1
 ((kSet w5 ⟨b, 0, none⟩ (Iv x) fun w6 =>
 J w6))
 ((kLet (decide (r1 = (1 : Int))) fun x2 =>
 (bsplit x2
 ((kSet w5 ⟨b, 1, none⟩ (Iv x) fun w7 =>
 J w7))
 ((kLet (decide (r1 = (2 : Int))) fun x3 =>
 (bsplit x3
 ((kSet w5 ⟨b, 2, none⟩ (Iv x) fun w8 =>
 J w8))
 ((kLet (decide (r1 = (3 : Int))) fun x4 =>
 (bsplit x4
 ((kSet w5 ⟨b, 3, none⟩ (Iv x) fun w9 =>
 J w9))
 ((kLet (decide (r1 = (4 : Int))) fun x5 =>
 (bsplit x5
 ((kSet w5 ⟨b, 4, none⟩ (Iv x) fun w10 =>
 J w10))
 ((kSet w5 ⟨b, 5, none⟩ (Iv x) fun w11 =>
 J w11))))))))))))))))))))))))
theorem F_made_Dice_OddLink_eq (d_b d_o : Nat) (l_0 l_1 l_2 l_3 l_4 l_5 : Int) (w : World) (R : Value → World → Prop) : sxFn Tryz.prog TT h_made_Dice_OddLink Tryz.f19 #[(.pointer (some ⟨d_b, d_o, none⟩)), (.agg #[.int .i64 l_0, .int .i64 l_1, .int .i64 l_2, .int .i64 l_3, .int .i64 l_4, .int .i64 l_5])] w R = F_made_Dice_OddLink d_b d_o l_0 l_1 l_2 l_3 l_4 l_5 w R := by kernel_rfl
theorem F_made_Dice_OddLink_ok {R : Ending → World → Prop} (d_b d_o : Nat) (l_0 l_1 l_2 l_3 l_4 l_5 : Int) (w : World) (h : F_made_Dice_OddLink d_b d_o l_0 l_1 l_2 l_3 l_4 l_5 w fun v w' => R (.returned v) w') : Calls Tryz.prog N_made_Dice_OddLink #[(.pointer (some ⟨d_b, d_o, none⟩)), (.agg #[.int .i64 l_0, .int .i64 l_1, .int .i64 l_2, .int .i64 l_3, .int .i64 l_4, .int .i64 l_5])] w R :=
 calls_of (f := 19) follows_ok Tryz.func19 (Eq.mpr (F_made_Dice_OddLink_eq d_b d_o l_0 l_1 l_2 l_3 l_4 l_5 w _) h)

def h_receiver_Receive : H := (.seq .reg (.seq (.seq .reg (.cond (.seq .reg .leaf) .leaf)) (.seq .reg (.seq .reg (.seq (.seq .reg (.cond (.seq .reg .leaf) .leaf)) (.cut [(10, .p .addr)] [10, 37, 38, 39, 40, 41, 42, 43, 44, 45, 46, 47] (.draw .blk (.one 0 .stable (.one 1 .stable (.one 2 .stable (.one 3 .stable (.one 4 .stable (.one 5 .stable (.one 6 .stable (.one 7 .stable (.one 8 .stable (.alt 9 (.alt 10 (.one 11 .keep (.one 12 .last .nil)) (.alt 11 (.one 10 .keep (.one 12 .last .nil)) .endAlt)) (.alt 11 (.one 9 .keep (.one 10 .keep (.one 12 .last .nil))) .endAlt)))))))))))) (.seq (.draw .blk (.one 0 .stable (.one 1 .stable (.one 2 .stable (.one 3 .stable (.one 4 .stable (.one 5 .pre (.one 6 .pre (.one 7 .pre (.one 8 .pre (.one 10 .stable (.one 9 .keep (.one 11 .keep (.one 12 .stable (.one 13 .stable (.one 14 .stable (.one 15 .stable (.one 16 .stable .nil)))))))))))))))))) (.seq (.seq .reg (.seq .reg (.cond (.seq .reg (.seq .reg .leaf)) .leaf))) (.cut [] [78, 79, 80, 81, 82, 83, 84, 85, 86, 87, 88, 89, 90, 91, 92, 93, 94, 95] (.seq .reg (.cond (.draw .blk (.one 0 .stable (.one 1 .stable (.one 2 .stable (.one 3 .stable (.one 4 .stable (.one 5 .stable (.one 6 .stable (.one 7 .pre (.one 8 .pre (.one 9 .pre (.one 10 .keep (.one 11 .keep (.one 12 .keep (.one 13 .stable (.one 14 .stable (.one 15 .stable (.one 16 .last .nil)))))))))))))))))) .leaf)) (.cut [] [96, 97, 98, 99, 100, 101, 102, 103, 104, 105, 106, 107, 108, 109, 110, 111, 112, 113, 114, 115, 116, 117] (.seq (.draw .blk (.one 0 .pre (.one 1 .pre (.one 2 .pre (.one 3 .pre (.one 5 .stable (.one 6 .stable (.one 7 .stable (.one 8 .stable (.one 9 .stable (.one 10 .stable (.one 4 .keep (.one 11 .keep (.one 12 .stable .nil)))))))))))))) (.cond (.draw .blk (.one 0 .stable (.one 1 .pre (.one 2 .pre (.one 3 .pre (.one 4 .pre (.one 5 .keep (.one 6 .stable (.one 7 .stable (.one 8 .stable (.one 9 .last .nil))))))))))) .leaf)) (.seq .reg (.seq .reg (.seq .reg (.cut [(15, .p .slice)] [15, 128, 129, 130, 131, 132, 133, 134, 135, 136, 137, 138, 139, 140, 141] (.seq .reg (.cond (.seq .reg .reg) .leaf)) (.seq .reg (.seq .reg (.seq .reg (.seq .reg .leaf))))))))))))))))))
def F_receiver_Receive (r_0 r_1 r_2 r_3 r_4 r_5 r_6 r_7 r_8 r_9 r_10 r_11 : Int) (r_12 : Bool) (r_13_a : OA) (r_13_l r_13_c : Nat) (b_a : OA) (b_l b_c : Nat) (w : World) (R : Value → WP) : Prop :=
 (kAlloc w #[(Iv r_0), (Iv r_1), (Iv r_2), (Iv r_3), (Iv r_4), (Iv r_5), (Iv r_6), (Iv r_7), (Iv r_8), (Iv r_9), (Iv r_10), (Iv r_11), (.bool r_12), (.slice r_13_a r_13_l r_13_c)] Ty_api_Receiver fun b w1 =>
 (kAlloc w1 #[Iv (0 : Int), Iv (0 : Int), Iv (0 : Int), Iv (0 : Int), Iv (0 : Int), Iv (0 : Int), Iv (0 : Int), Iv (0 : Int), Iv (0 : Int), Iv (0 : Int), Iv (0 : Int), Iv (0 : Int), .bool false, .slice none 0 0] Ty_api_Receiver fun b1 w2 =>
 (∃ x_0 x_1 x_2 x_3 x_4 x_5 x_6 x_7 x_8 x_9 x_10 x_11 : Int, ∃ x_12 : Bool, ∃ x_13_a : OA, ∃ x_13_l x_13_c : Nat, cellsAt w2 ⟨b, 0, none⟩ 0 [(Iv x_0), (Iv x_1), (Iv x_2), (Iv x_3), (Iv x_4), (Iv x_5), (Iv x_6), (Iv x_7), (Iv x_8), (Iv x_9), (Iv x_10), (Iv x_11), (.bool x_12), (.slice x_13_a x_13_l x_13_c)] ∧
 (CP N_receiver_Valid #[(.agg #[Iv x_0, Iv x_1, Iv x_2, Iv x_3, Iv x_4, Iv x_5, Iv x_6, Iv x_7, Iv x_8, Iv x_9, Iv x_10, Iv x_11, .bool x_12, .slice x_13_a x_13_l x_13_c])] w2 fun e_ w3 =>
 ∃ r : Bool, e_ = .returned (.bool r) ∧
 (bsplit (!r)
 ((sxStore w3 ⟨b1, 0, none⟩ 0 [(Iv (0 : Int)), (Iv (0 : Int)), (Iv (0 : Int)), (Iv (0 : Int)), (Iv (0 : Int)), (Iv (0 : Int)), (Iv (0 : Int)), (Iv (0 : Int)), (Iv (0 : Int)), (Iv (0 : Int)), (Iv (0 : Int)), (Iv (0 : Int)), (.bool false), (.slice none 0 0)] fun w4 =>
 (∃ r_01 r_13 r_21 r_31 r_41 r_51 r_61 r_71 r_81 r_91 r_101 r_111 : Int, ∃ r_121 : Bool, ∃ r_13_a1 : OA, ∃ r_13_l1 r_13_c1 : Nat, cellsAt w4 ⟨b1, 0, none⟩ 0 [(Iv r_01), (Iv r_13), (Iv r_21), (Iv r_31), (Iv r_41), (Iv r_51), (Iv r_61), (Iv r_71), (Iv r_81), (Iv r_91), (Iv r_101), (Iv r_111), (.bool r_121), (.slice r_13_a1 r_13_l1 r_13_c1)] ∧
 R (.tuple #[(.agg #[Iv r_01, Iv r_13, Iv r_21, Iv r_31, Iv r_41, Iv r_51, Iv r_61, Iv r_71, Iv r_81, Iv r_91, Iv r_101, Iv r_111, .bool r_121, .slice r_13_a1 r_13_l1 r_13_c1]), (.slice none 0 0), (Iv (1 : Int))]) w4)))
 ((∃ x_01 x_13 x_21 x_31 x_41 x_51 x_61 x_71 x_81 x_91 x_101 x_111 : Int, ∃ x_121 : Bool, ∃ x_13_a1 : OA, ∃ x_13_l1 x_13_c1 : Nat, cellsAt w3 ⟨b, 0, none⟩ 0 [(Iv x_01), (Iv x_13), (Iv x_21), (Iv x_31), (Iv x_41), (Iv x_51), (Iv x_61), (Iv x_71), (Iv x_81), (Iv x_91), (Iv x_101), (Iv x_111), (.bool x_121), (.slice x_13_a1 x_13_l1 x_13_c1)] ∧
 (CP N_receiver_begin #[(.agg #[Iv x_01, Iv x_13, Iv x_21, Iv x_31, Iv x_41, Iv x_51, Iv x_61, Iv x_71, Iv x_81, Iv x_91, Iv x_101, Iv x_111, .bool x_121, .slice x_13_a1 x_13_l1 x_13_c1])] w3 fun e_1 w5 =>
 ∃ r1 : OA, e_1 = .returned (.pointer r1) ∧
 (kAlloc w5 #[.pointer none] Ty_P_receiver_side fun b2 w6 =>
 (kSet w6 ⟨b2, 0, none⟩ (.pointer r1) fun w7 =>
 (kLd w7 ⟨b, 0, none⟩ .i64 fun x =>
 (CP N_segment_Decode #[(Iv x), (.slice b_a b_l b_c)] w7 fun e_2 w8 =>
 ∃ r_02 r_14 r_22 r_32 : Int, ∃ r_4_a : OA, ∃ r_4_l r_4_c : Nat, ∃ r2 : Int, e_2 = .returned (.tuple #[(.agg #[Iv r_02, Iv r_14, Iv r_22, Iv r_32, .slice r_4_a r_4_l r_4_c]), (Iv r2)]) ∧
 (kAlloc w8 #[Iv (0 : Int), Iv (0 : Int), Iv (0 : Int), Iv (0 : Int), .slice none 0 0] Ty_api_Piece fun b3 w9 =>
 (sxStore w9 ⟨b3, 0, none⟩ 0 [(Iv r_02), (Iv r_14), (Iv r_22), (Iv r_32), (.slice r_4_a r_4_l r_4_c)] fun w10 =>
 (bsplit (!decide (r2 = (0 : Int)))
 ((∃ x1 : OA, w10.cell? ⟨b2, 0, none⟩ = some (.pointer x1) ∧
 (kNil x1 fun x2 =>
 (∃ x_02 x_14 x_22 x_32 x_42 x_52 x_62 x_72 x_82 x_92 x_102 x_112 : Int, ∃ x_122 : Bool, ∃ x_13_a2 : OA, ∃ x_13_l2 x_13_c2 : Nat, cellsAt w10 x2 0 [(Iv x_02), (Iv x_14), (Iv x_22), (Iv x_32), (Iv x_42), (Iv x_52), (Iv x_62), (Iv x_72), (Iv x_82), (Iv x_92), (Iv x_102), (Iv x_112), (.bool x_122), (.slice x_13_a2 x_13_l2 x_13_c2)] ∧
 (sxStore w10 ⟨b1, 0, none⟩ 0 [(Iv x_02), (Iv x_14), (Iv x_22), (Iv x_32), (Iv x_42), (Iv x_52), (Iv x_62), (Iv x_72), (Iv x_82), (Iv x_92), (Iv x_102), (Iv x_112), (.bool x_122), (.slice x_13_a2 x_13_l2 x_13_c2)] fun w11 =>
 (∃ r_03 r_15 r_23 r_33 r_42 r_52 r_62 r_72 r_82 r_92 r_102 r_112 : Int, ∃ r_122 : Bool, ∃ r_13_a2 : OA, ∃ r_13_l2 r_13_c2 : Nat, cellsAt w11 ⟨b1, 0, none⟩ 0 [(Iv r_03), (Iv r_15), (Iv r_23), (Iv r_33), (Iv r_42), (Iv r_52), (Iv r_62), (Iv r_72), (Iv r_82), (Iv r_92), (Iv r_102), (Iv r_112), (.bool r_122), (.slice r_13_a2 r_13_l2 r_13_c2)] ∧
 R (.tuple #[(.agg #[Iv r_03, Iv r_15, Iv r_23, Iv r_33, Iv r_42, Iv r_52, Iv r_62, Iv r_72, Iv r_82, Iv r_92, Iv r_102, Iv r_112, .bool r_122, .slice r_13_a2 r_13_l2 r_13_c2]), (.slice none 0 0), (Iv r2)]) w11))))))
 ((∃ J : Addr → WP,
 (∀ (_ : Env) (p : Addr) (w21 : World), J p w21 →
 (kDrew w21 fun w22 =>
 (∃ S1 : Nat → Prop,
 (S1 b2 ∧
 (∃ x6 : OA, w22.cell? ⟨b2, 0, none⟩ = some (.pointer x6) ∧
 (kNil x6 fun x7 =>
 (S1 (x7.add 13).block ∧
 (kLdS w22 (x7.add 13) fun x_a1 x_l1 x_c1 =>
 (∃ x8 : OA, w22.cell? ⟨b2, 0, none⟩ = some (.pointer x8) ∧
 (kLd w22 p .i64 fun x9 =>
 (CP N_receiver_side_place #[(.pointer x8), (Iv x9)] w22 fun e_5 w23 =>
 ∃ r5 : Int, e_5 = .returned (Iv r5) ∧
 (KeepsB S1 w22 w23 ∧ (CP N_slices_BinarySearchFunc_Sapi_Partial_api_Partial_int #[(.slice x_a1 x_l1 x_c1), (Iv r5), (.func (.func N_receiver_Receive_1) #[] #[(.pointer (some ⟨b2, 0, none⟩))])] w23 fun e_6 w24 =>
 ∃ r6 : Int, ∃ r7 : Bool, e_6 = .returned (.tuple #[(Iv r6), (.bool r7)]) ∧
 (KeepsB S1 w22 w24 ∧ (∃ x10 : OA, w24.cell? ⟨b2, 0, none⟩ = some (.pointer x10) ∧
 (∃ x_04 x_16 x_24 x_34 : Int, ∃ x_4_a1 : OA, ∃ x_4_l1 x_4_c1 : Nat, ∃ x_53 : Int, ∃ x_63 : Bool, cellsAt w24 p 0 [(Iv x_04), (Iv x_16), (Iv x_24), (Iv x_34), (.slice x_4_a1 x_4_l1 x_4_c1), (Iv x_53), (.bool x_63)] ∧
 (CP N_receiver_side_refused #[(.pointer x10), (.agg #[Iv x_04, Iv x_16, Iv x_24, Iv x_34, .slice x_4_a1 x_4_l1 x_4_c1, Iv x_53, .bool x_63]), (Iv r6), (.bool r7)] w24 fun e_7 w25 =>
 ∃ r8 : Int, e_7 = .returned (Iv r8) ∧
 (bsplit (!decide (r8 = (0 : Int)))
 ((∃ x11 : OA, w25.cell? ⟨b2, 0, none⟩ = some (.pointer x11) ∧
 (∃ x_05 x_17 x_25 x_35 : Int, ∃ x_4_a2 : OA, ∃ x_4_l2 x_4_c2 : Nat, cellsAt w25 ⟨b3, 0, none⟩ 0 [(Iv x_05), (Iv x_17), (Iv x_25), (Iv x_35), (.slice x_4_a2 x_4_l2 x_4_c2)] ∧
 (CP N_receiver_side_poll #[(.pointer x11), (.agg #[Iv x_05, Iv x_17, Iv x_25, Iv x_35, .slice x_4_a2 x_4_l2 x_4_c2])] w25 fun e_8 w26 =>
 e_8 = .returned (.tuple #[]) ∧
 (∃ x12 : OA, w26.cell? ⟨b2, 0, none⟩ = some (.pointer x12) ∧
 (kNil x12 fun x13 =>
 (∃ x_06 x_18 x_26 x_36 x_43 x_54 x_64 x_73 x_83 x_93 x_103 x_113 : Int, ∃ x_123 : Bool, ∃ x_13_a3 : OA, ∃ x_13_l3 x_13_c3 : Nat, cellsAt w26 x13 0 [(Iv x_06), (Iv x_18), (Iv x_26), (Iv x_36), (Iv x_43), (Iv x_54), (Iv x_64), (Iv x_73), (Iv x_83), (Iv x_93), (Iv x_103), (Iv x_113), (.bool x_123), (.slice x_13_a3 x_13_l3 x_13_c3)] ∧
 (sxStore w26 ⟨b1, 0, none⟩ 0 [(Iv x_06), (Iv x_18), (Iv x_26), (Iv x_36), (Iv x_43), (Iv x_54), (Iv x_64), (Iv x_73), (Iv x_83), (Iv x_93), (Iv x_103), (Iv x_113), (.bool x_123), (.slice x_13_a3 x_13_l3 x_13_c3)] fun w27 =>
 (∃ r_04 r_16 r_24 r_34 r_43 r_53 r_63 r_73 r_83 r_93 r_103 r_113 : Int, ∃ r_123 : Bool, ∃ r_13_a3 : OA, ∃ r_13_l3 r_13_c3 : Nat, cellsAt w27 ⟨b1, 0, none⟩ 0 [(Iv r_04), (Iv r_16), (Iv r_24), (Iv r_34), (Iv r_43), (Iv r_53), (Iv r_63), (Iv r_73), (Iv r_83), (Iv r_93), (Iv r_103), (Iv r_113), (.bool r_123), (.slice r_13_a3 r_13_l3 r_13_c3)] ∧
 R (.tuple #[(.agg #[Iv r_04, Iv r_16, Iv r_24, Iv r_34, Iv r_43, Iv r_53, Iv r_63, Iv r_73, Iv r_83, Iv r_93, Iv r_103, Iv r_113, .bool r_123, .slice r_13_a3 r_13_l3 r_13_c3]), (.slice none 0 0), (Iv r8)]) w27)))))))))
 ((∃ J1 : WP,
 (∀ (_ : Env)  (w32 : World), J1 w32 →
 (∃ J2 : WP,
 (∀ (_ : Env)  (w39 : World), J2 w39 →
 (∃ x29 : OA, w39.cell? ⟨b2, 0, none⟩ = some (.pointer x29) ∧
 (kNil x29 fun x30 =>
 (kLdS w39 (x30.add 13) fun x_a3 x_l3 _ =>
 (kIx x_a3 x_l3 r6 fun b8 =>
 (∃ x_07 x_19 x_27 x_37 : Int, ∃ x_4_a3 : OA, ∃ x_4_l3 x_4_c3 : Nat, ∃ x_55 : Int, ∃ x_65 : Bool, cellsAt w39 p 0 [(Iv x_07), (Iv x_19), (Iv x_27), (Iv x_37), (.slice x_4_a3 x_4_l3 x_4_c3), (Iv x_55), (.bool x_65)] ∧
 (CP N_receiver_piece_put #[(.agg #[Iv x_07, Iv x_19, Iv x_27, Iv x_37, .slice x_4_a3 x_4_l3 x_4_c3, Iv x_55, .bool x_65]), (.pointer (some (b8.add (r6.toNat * 5))))] w39 fun e_13 w40 =>
 e_13 = .returned (.tuple #[]) ∧
 (∃ J3 : OA → Nat → Nat → WP,
 (∀ (_ : Env) (out_a : OA) (out_l : Nat) (out_c : Nat) (w43 : World), J3 out_a out_l out_c w43 →
 (∃ x32 : OA, w43.cell? ⟨b2, 0, none⟩ = some (.pointer x32) ∧
 (CP N_receiver_side_advance #[(.pointer x32)] w43 fun e_15 w44 =>
 e_15 = .returned (.tuple #[]) ∧
 (∃ x33 : OA, w44.cell? ⟨b2, 0, none⟩ = some (.pointer x33) ∧
 (CP N_receiver_side_start #[(.pointer x33)] w44 fun e_16 w45 =>
 e_16 = .returned (.tuple #[]) ∧
 (∃ x34 : OA, w45.cell? ⟨b2, 0, none⟩ = some (.pointer x34) ∧
 (∃ x_09 x_114 x_29 x_38 : Int, ∃ x_4_a5 : OA, ∃ x_4_l5 x_4_c5 : Nat, cellsAt w45 ⟨b3, 0, none⟩ 0 [(Iv x_09), (Iv x_114), (Iv x_29), (Iv x_38), (.slice x_4_a5 x_4_l5 x_4_c5)] ∧
 (CP N_receiver_side_poll #[(.pointer x34), (.agg #[Iv x_09, Iv x_114, Iv x_29, Iv x_38, .slice x_4_a5 x_4_l5 x_4_c5])] w45 fun e_17 w46 =>
 e_17 = .returned (.tuple #[]) ∧
 (∃ x35 : OA, w46.cell? ⟨b2, 0, none⟩ = some (.pointer x35) ∧
 (kNil x35 fun x36 =>
 (∃ x_010 x_115 x_210 x_39 x_44 x_56 x_66 x_74 x_84 x_94 x_104 x_116 : Int, ∃ x_124 : Bool, ∃ x_13_a4 : OA, ∃ x_13_l4 x_13_c4 : Nat, cellsAt w46 x36 0 [(Iv x_010), (Iv x_115), (Iv x_210), (Iv x_39), (Iv x_44), (Iv x_56), (Iv x_66), (Iv x_74), (Iv x_84), (Iv x_94), (Iv x_104), (Iv x_116), (.bool x_124), (.slice x_13_a4 x_13_l4 x_13_c4)] ∧
 (sxStore w46 ⟨b1, 0, none⟩ 0 [(Iv x_010), (Iv x_115), (Iv x_210), (Iv x_39), (Iv x_44), (Iv x_56), (Iv x_66), (Iv x_74), (Iv x_84), (Iv x_94), (Iv x_104), (Iv x_116), (.bool x_124), (.slice x_13_a4 x_13_l4 x_13_c4)] fun w47 =>
 (∃ r_05 r_17 r_25 r_35 r_44 r_54 r_64 r_74 r_84 r_94 r_104 r_114 : Int, ∃ r_124 : Bool, ∃ r_13_a4 : OA, ∃ r_13_l4 r_13_c4 : Nat, cellsAt w47 ⟨b1, 0, none⟩ 0 [(Iv r_05), (Iv r_17), (Iv r_25), (Iv r_35), (Iv r_44), (Iv r_54), (Iv r_64), (Iv r_74), (Iv r_84), (Iv r_94), (Iv r_104), (Iv r_114), (.bool r_124), (.slice r_13_a4 r_13_l4 r_13_c4)] ∧
 R (.tuple #[(.agg #[Iv r_05, Iv r_17, Iv r_25, Iv r_35, Iv r_44, Iv r_54, Iv r_64, Iv r_74, Iv r_84, Iv r_94, Iv r_104, Iv r_114, .bool r_124, .slice r_13_a4 r_13_l4 r_13_c4]), (.slice out_a out_l out_c), (Iv (0 : Int))]) w47))))))))))))) ∧
 (∃ x_08 : Int, ∃ x_110 : Bool, ∃ x_28 : Int, ∃ x_3_a : OA, ∃ x_3_l x_3_c : Nat, ∃ x_4_a4 : OA, ∃ x_4_l4 x_4_c4 : Nat, cellsAt w40 (b8.add (r6.toNat * 5)) 0 [(Iv x_08), (.bool x_110), (Iv x_28), (.slice x_3_a x_3_l x_3_c), (.slice x_4_a4 x_4_l4 x_4_c4)] ∧
 (CP N_receiver_complete #[(.agg #[Iv x_08, .bool x_110, Iv x_28, .slice x_3_a x_3_l x_3_c, .slice x_4_a4 x_4_l4 x_4_c4])] w40 fun e_14 w41 =>
 ∃ r12 : Bool, e_14 = .returned (.bool r12) ∧
 (bsplit r12
 ((kLdS w41 ((b8.add (r6.toNat * 5)).add 3) fun x_a4 x_l4 x_c4 =>
 (kLd w41 p .i64 fun x31 =>
 (sxStore w41 (b8.add (r6.toNat * 5)) 0 [(Iv x31), (.bool true), (Iv (0 : Int)), (.slice none 0 0), (.slice none 0 0)] fun w42 =>
 J3 x_a4 x_l4 x_c4 w42))))
 (J3 none 0 0 w41)))))))))))) ∧
 (kDrew w32 fun w33 =>
 (∃ S3 : Nat → Prop,
 (∃ x19 : OA, w33.cell? ⟨b2, 0, none⟩ = some (.pointer x19) ∧
 (kLd w33 p .i64 fun x20 =>
 (S3 b2 ∧
 (∃ x21 : OA, w33.cell? ⟨b2, 0, none⟩ = some (.pointer x21) ∧
 (S3 b2 ∧
 (∃ x22 : OA, w33.cell? ⟨b2, 0, none⟩ = some (.pointer x22) ∧
 (kNil x22 fun x23 =>
 (S3 (x23.add 7).block ∧
 (kLd w33 (x23.add 7) .i64 fun x24 =>
 (CP N_receiver_side_place #[(.pointer x19), (Iv x20)] w33 fun e_10 w34 =>
 ∃ r9 : Int, e_10 = .returned (Iv r9) ∧
 (KeepsB S3 w33 w34 ∧ (CP N_receiver_side_place #[(.pointer x21), (Iv x24)] w34 fun e_11 w35 =>
 ∃ r10 : Int, e_11 = .returned (Iv r10) ∧
 (KeepsB S3 w33 w35 ∧ (bsplit (decide (r9 ≥ r10))
 ((kDrew w35 fun w36 =>
 (∃ S4 : Nat → Prop,
 (S4 b2 ∧
 (∃ x25 : OA, w36.cell? ⟨b2, 0, none⟩ = some (.pointer x25) ∧
 (∃ x26 : OA, w36.cell? ⟨b2, 0, none⟩ = some (.pointer x26) ∧
 (kLd w36 p .i64 fun x27 =>
 (CP N_receiver_side_behind #[(.pointer x26), (Iv x27)] w36 fun e_12 w37 =>
 ∃ r11 : Int, e_12 = .returned (Iv r11) ∧
 (KeepsB S4 w36 w37 ∧ (kNil x25 fun x28 =>
 (kSet w37 (x28.add 7) (Iv r11) fun w38 =>
 J2 w38)))))))))))
 (J2 w35))))))))))))))))))) ∧
 (bsplit (!r7)
 ((kDrew w25 fun w28 =>
 (∃ S2 : Nat → Prop,
 (S2 b2 ∧
 (∃ x14 : OA, w28.cell? ⟨b2, 0, none⟩ = some (.pointer x14) ∧
 (S2 b2 ∧
 (∃ x15 : OA, w28.cell? ⟨b2, 0, none⟩ = some (.pointer x15) ∧
 (kNil x15 fun x16 =>
 (S2 (x16.add 13).block ∧
 (kLdS w28 (x16.add 13) fun x_a2 x_l2 x_c2 =>
 (kLd w28 p .i64 fun x17 =>
 (KeepsB S2 w28 w28 ∧ (kAlloc w28 #[(Iv x17), (.bool false), (Iv (-1 : Int)), (.slice none 0 0), (.slice none 0 0)] Ty_api_Partial fun b7 w29 =>
 (KeepsB S2 w28 w29 ∧ (CP N_slices_Insert_Sapi_Partial_api_Partial #[(.slice x_a2 x_l2 x_c2), (Iv r6), (.slice (some ⟨b7, 0, none⟩) 1 1)] w29 fun e_9 w30 =>
 ∃ r_a : OA, ∃ r_l r_c : Nat, e_9 = .returned (.slice r_a r_l r_c) ∧
 (KeepsB S2 w28 w30 ∧ (kNil x14 fun x18 =>
 (kSet w30 (x18.add 13) (.slice r_a r_l r_c) fun w31 =>
 J1 w31))))))))))))))))))
 (J1 w25)))))))))))))))))))))) ∧
 (kDrew w10 fun w12 =>
 (∃ S : Nat → Prop,
 (S b3 ∧
 (∃ x_03 x_15 x_23 x_33 : Int, ∃ x_4_a : OA, ∃ x_4_l x_4_c : Nat, cellsAt w12 ⟨b3, 0, none⟩ 0 [(Iv x_03), (Iv x_15), (Iv x_23), (Iv x_33), (.slice x_4_a x_4_l x_4_c)] ∧
 (S b3 ∧
 (kLd w12 ⟨b3, 3, none⟩ .i64 fun x3 =>
 (S b3 ∧
 (kLdS w12 ⟨b3, 4, none⟩ fun _ x_l _ =>
 (kW .i64 (x3 + (x_l : Int)) fun x4 =>
 (S b3 ∧
 (kLd w12 ⟨b3, 1, none⟩ .i64 fun x5 =>
 ((CP N_segment_Ends #[(Iv x5)] w12 fun e_4 w16 =>
 ∃ r4 : Bool, e_4 = .returned (.bool r4) ∧
 (KeepsB S w12 w16 ∧ ((KeepsB S w12 w16 ∧ (kAlloc w16 #[Iv (0 : Int), Iv (0 : Int), Iv (0 : Int), Iv (0 : Int), .slice none 0 0, Iv (0 : Int), .bool false] Ty_receiver_piece fun b6 w19 =>
 (KeepsB S w12 w19 ∧ (sxStore w19 ⟨b6, 0, none⟩ 0 [(Iv x_03), (Iv x_15), (Iv x_23), (Iv x_33), (.slice x_4_a x_4_l x_4_c), (Iv x4), (.bool r4)] fun w20 =>
 J ⟨b6, 0, none⟩ w20)))) ∧
 ((kAlloc w16 #[Iv (0 : Int), Iv (0 : Int), Iv (0 : Int), Iv (0 : Int), .slice none 0 0, Iv (0 : Int), .bool false] Ty_receiver_piece fun b5 w17 =>
 (KeepsB S w12 w17 ∧ (KeepsB S w12 w17 ∧ (sxStore w17 ⟨b5, 0, none⟩ 0 [(Iv x_03), (Iv x_15), (Iv x_23), (Iv x_33), (.slice x_4_a x_4_l x_4_c), (Iv x4), (.bool r4)] fun w18 =>
 J ⟨b5, 0, none⟩ w18)))) ∧
 True)))) ∧
 ((kAlloc w12 #[Iv (0 : Int), Iv (0 : Int), Iv (0 : Int), Iv (0 : Int), .slice none 0 0, Iv (0 : Int), .bool false] Ty_receiver_piece fun b4 w13 =>
 (KeepsB S w12 w13 ∧ (CP N_segment_Ends #[(Iv x5)] w13 fun e_3 w14 =>
 ∃ r3 : Bool, e_3 = .returned (.bool r3) ∧
 (KeepsB S w12 w14 ∧ (KeepsB S w12 w14 ∧ (sxStore w14 ⟨b4, 0, none⟩ 0 [(Iv x_03), (Iv x_15), (Iv x_23), (Iv x_33), (.slice x_4_a x_4_l x_4_c), (Iv x4), (.bool r3)] fun w15 =>
 J ⟨b4, 0, none⟩ w15)))))) ∧
 True))))))))))))))))))))))))))))))
theorem F_receiver_Receive_eq (r_0 r_1 r_2 r_3 r_4 r_5 r_6 r_7 r_8 r_9 r_10 r_11 : Int) (r_12 : Bool) (r_13_a : Option Addr) (r_13_l r_13_c : Nat) (b_a : Option Addr) (b_l b_c : Nat) (w : World) (R : Value → World → Prop) : sxFn Tryz.prog TT h_receiver_Receive Tryz.f20 #[(.agg #[.int .i64 r_0, .int .i64 r_1, .int .i64 r_2, .int .i64 r_3, .int .i64 r_4, .int .i64 r_5, .int .i64 r_6, .int .i64 r_7, .int .i64 r_8, .int .i64 r_9, .int .i64 r_10, .int .i64 r_11, .bool r_12, .slice r_13_a r_13_l r_13_c]), (.slice b_a b_l b_c)] w R = F_receiver_Receive r_0 r_1 r_2 r_3 r_4 r_5 r_6 r_7 r_8 r_9 r_10 r_11 r_12 r_13_a r_13_l r_13_c b_a b_l b_c w R := by kernel_rfl
theorem F_receiver_Receive_ok {R : Ending → World → Prop} (r_0 r_1 r_2 r_3 r_4 r_5 r_6 r_7 r_8 r_9 r_10 r_11 : Int) (r_12 : Bool) (r_13_a : Option Addr) (r_13_l r_13_c : Nat) (b_a : Option Addr) (b_l b_c : Nat) (w : World) (h : F_receiver_Receive r_0 r_1 r_2 r_3 r_4 r_5 r_6 r_7 r_8 r_9 r_10 r_11 r_12 r_13_a r_13_l r_13_c b_a b_l b_c w fun v w' => R (.returned v) w') : Calls Tryz.prog N_receiver_Receive #[(.agg #[.int .i64 r_0, .int .i64 r_1, .int .i64 r_2, .int .i64 r_3, .int .i64 r_4, .int .i64 r_5, .int .i64 r_6, .int .i64 r_7, .int .i64 r_8, .int .i64 r_9, .int .i64 r_10, .int .i64 r_11, .bool r_12, .slice r_13_a r_13_l r_13_c]), (.slice b_a b_l b_c)] w R :=
 calls_of (f := 20) follows_ok Tryz.func20 (Eq.mpr (F_receiver_Receive_eq r_0 r_1 r_2 r_3 r_4 r_5 r_6 r_7 r_8 r_9 r_10 r_11 r_12 r_13_a r_13_l r_13_c b_a b_l b_c w _) h)

def h_receiver_Report : H := (.seq .reg (.seq .reg (.cut [] [5, 6, 16, 17, 18, 19, 20, 21, 22, 23, 24, 25, 26, 27, 28, 29, 30, 31, 32, 33, 34, 35, 36, 37, 38] (.block (.seq .reg (.cond (.seq .reg .leaf) (.cut [(21, .p .bool)] [21, 22, 23, 24, 25, 26, 27] .reg (.cond (.seq .reg .leaf) (.seq .reg (.cond (.seq .reg .leaf) .leaf))))))) (.seq (.seq .reg (.seq .reg (.cond (.seq .reg .leaf) .leaf))) (.seq .reg (.seq .reg (.seq (.draw .blk (.one 0 .pre (.one 1 .stable (.one 2 .stable (.one 3 .stable (.one 4 .stable (.one 5 .pre (.one 6 .pre (.one 7 .pre (.one 8 .keep (.one 9 .stable (.one 10 .stable (.one 11 .stable (.one 12 .last .nil)))))))))))))) (.seq .reg .leaf))))))))
def F_receiver_Report (r_0 r_1 r_2 r_3 r_4 r_5 r_6 r_7 r_8 r_9 r_10 r_11 : Int) (r_12 : Bool) (r_13_a : OA) (r_13_l r_13_c : Nat) (size : Int) (w : World) (R : Value → WP) : Prop :=
 (kAlloc w #[(Iv r_0), (Iv r_1), (Iv r_2), (Iv r_3), (Iv r_4), (Iv r_5), (Iv r_6), (Iv r_7), (Iv r_8), (Iv r_9), (Iv r_10), (Iv r_11), (.bool r_12), (.slice r_13_a r_13_l r_13_c)] Ty_api_Receiver fun b w1 =>
 (kAlloc w1 #[Iv (0 : Int), Iv (0 : Int), Iv (0 : Int), Iv (0 : Int), Iv (0 : Int), Iv (0 : Int), Iv (0 : Int), Iv (0 : Int), Iv (0 : Int), Iv (0 : Int), Iv (0 : Int), Iv (0 : Int), .bool false, .slice none 0 0] Ty_api_Receiver fun b1 w2 =>
 (∃ x_0 x_1 x_2 x_3 x_4 x_5 x_6 x_7 x_8 x_9 x_10 x_11 : Int, ∃ x_12 : Bool, ∃ x_13_a : OA, ∃ x_13_l x_13_c : Nat, cellsAt w2 ⟨b, 0, none⟩ 0 [(Iv x_0), (Iv x_1), (Iv x_2), (Iv x_3), (Iv x_4), (Iv x_5), (Iv x_6), (Iv x_7), (Iv x_8), (Iv x_9), (Iv x_10), (Iv x_11), (.bool x_12), (.slice x_13_a x_13_l x_13_c)] ∧
 (CP N_receiver_Status #[(.agg #[Iv x_0, Iv x_1, Iv x_2, Iv x_3, Iv x_4, Iv x_5, Iv x_6, Iv x_7, Iv x_8, Iv x_9, Iv x_10, Iv x_11, .bool x_12, .slice x_13_a x_13_l x_13_c])] w2 fun e_ w3 =>
 ∃ r_01 : Int, ∃ r_1_a : OA, ∃ r_1_l r_1_c : Nat, ∃ r : Int, e_ = .returned (.tuple #[(.agg #[Iv r_01, .slice r_1_a r_1_l r_1_c]), (Iv r)]) ∧
 (kAlloc w3 #[Iv (0 : Int), .slice none 0 0] Ty_api_Status fun b2 w4 =>
 (sxStore w4 ⟨b2, 0, none⟩ 0 [(Iv r_01), (.slice r_1_a r_1_l r_1_c)] fun w5 =>
 (∃ J : WP,
 (∀ (_ : Env)  (w11 : World), J w11 →
 (kLd w11 ⟨b, 0, none⟩ .i64 fun x6 =>
 (∃ x_01 : Int, ∃ x_1_a : OA, ∃ x_1_l x_1_c : Nat, cellsAt w11 ⟨b2, 0, none⟩ 0 [(Iv x_01), (.slice x_1_a x_1_l x_1_c)] ∧
 (CP N_status_Fit #[(Iv x6), (.agg #[Iv x_01, .slice x_1_a x_1_l x_1_c]), (Iv size)] w11 fun e_1 w12 =>
 ∃ r_06 : Int, ∃ r_1_a1 : OA, ∃ r_1_l1 r_1_c1 : Nat, ∃ r1 : Int, e_1 = .returned (.tuple #[(.agg #[Iv r_06, .slice r_1_a1 r_1_l1 r_1_c1]), (Iv r1)]) ∧
 (sxStore w12 ⟨b2, 0, none⟩ 0 [(Iv r_06), (.slice r_1_a1 r_1_l1 r_1_c1)] fun w13 =>
 (bsplit (!decide (r1 = (0 : Int)))
 ((sxStore w13 ⟨b1, 0, none⟩ 0 [(Iv (0 : Int)), (Iv (0 : Int)), (Iv (0 : Int)), (Iv (0 : Int)), (Iv (0 : Int)), (Iv (0 : Int)), (Iv (0 : Int)), (Iv (0 : Int)), (Iv (0 : Int)), (Iv (0 : Int)), (Iv (0 : Int)), (Iv (0 : Int)), (.bool false), (.slice none 0 0)] fun w14 =>
 (∃ r_07 r_17 r_25 r_35 r_45 r_55 r_65 r_75 r_85 r_95 r_105 r_115 : Int, ∃ r_125 : Bool, ∃ r_13_a5 : OA, ∃ r_13_l5 r_13_c5 : Nat, cellsAt w14 ⟨b1, 0, none⟩ 0 [(Iv r_07), (Iv r_17), (Iv r_25), (Iv r_35), (Iv r_45), (Iv r_55), (Iv r_65), (Iv r_75), (Iv r_85), (Iv r_95), (Iv r_105), (Iv r_115), (.bool r_125), (.slice r_13_a5 r_13_l5 r_13_c5)] ∧
 R (.tuple #[(.agg #[Iv r_07, Iv r_17, Iv r_25, Iv r_35, Iv r_45, Iv r_55, Iv r_65, Iv r_75, Iv r_85, Iv r_95, Iv r_105, Iv r_115, .bool r_125, .slice r_13_a5 r_13_l5 r_13_c5]), (.slice none 0 0), (Iv r1)]) w14)))
 ((kLd w13 ⟨b, 0, none⟩ .i64 fun x7 =>
 (∃ x_02 : Int, ∃ x_1_a1 : OA, ∃ x_1_l1 x_1_c1 : Nat, cellsAt w13 ⟨b2, 0, none⟩ 0 [(Iv x_02), (.slice x_1_a1 x_1_l1 x_1_c1)] ∧
 (CP N_status_Encode #[(Iv x7), (.agg #[Iv x_02, .slice x_1_a1 x_1_l1 x_1_c1])] w13 fun e_2 w15 =>
 ∃ r_a : OA, ∃ r_l r_c : Nat, ∃ r2 : Int, e_2 = .returned (.tuple #[(.slice r_a r_l r_c), (Iv r2)]) ∧
 (∃ x_03 x_13 x_21 x_31 x_41 x_51 x_61 x_71 x_81 x_91 x_101 x_111 : Int, ∃ x_121 : Bool, ∃ x_13_a1 : OA, ∃ x_13_l1 x_13_c1 : Nat, cellsAt w15 ⟨b, 0, none⟩ 0 [(Iv x_03), (Iv x_13), (Iv x_21), (Iv x_31), (Iv x_41), (Iv x_51), (Iv x_61), (Iv x_71), (Iv x_81), (Iv x_91), (Iv x_101), (Iv x_111), (.bool x_121), (.slice x_13_a1 x_13_l1 x_13_c1)] ∧
 (CP N_receiver_begin #[(.agg #[Iv x_03, Iv x_13, Iv x_21, Iv x_31, Iv x_41, Iv x_51, Iv x_61, Iv x_71, Iv x_81, Iv x_91, Iv x_101, Iv x_111, .bool x_121, .slice x_13_a1 x_13_l1 x_13_c1])] w15 fun e_3 w16 =>
 ∃ r3 : OA, e_3 = .returned (.pointer r3) ∧
 (kDrew w16 fun w17 =>
 (∃ S : Nat → Prop,
 (S b ∧
 (kLd w17 ⟨b, 4, none⟩ .i64 fun x8 =>
 (kNil r3 fun x9 =>
 (kSet w17 (x9.add 12) (.bool false) fun w18 =>
 (KeepsB S w17 w18 ∧ (kNil r3 fun x10 =>
 (kSet w18 (x10.add 11) (Iv x8) fun w19 =>
 (kNil r3 fun x11 =>
 (∃ x_04 x_14 x_22 x_32 x_42 x_52 x_62 x_72 x_82 x_92 x_102 x_112 : Int, ∃ x_122 : Bool, ∃ x_13_a2 : OA, ∃ x_13_l2 x_13_c2 : Nat, cellsAt w19 x11 0 [(Iv x_04), (Iv x_14), (Iv x_22), (Iv x_32), (Iv x_42), (Iv x_52), (Iv x_62), (Iv x_72), (Iv x_82), (Iv x_92), (Iv x_102), (Iv x_112), (.bool x_122), (.slice x_13_a2 x_13_l2 x_13_c2)] ∧
 (sxStore w19 ⟨b1, 0, none⟩ 0 [(Iv x_04), (Iv x_14), (Iv x_22), (Iv x_32), (Iv x_42), (Iv x_52), (Iv x_62), (Iv x_72), (Iv x_82), (Iv x_92), (Iv x_102), (Iv x_112), (.bool x_122), (.slice x_13_a2 x_13_l2 x_13_c2)] fun w20 =>
 (∃ r_08 r_18 r_26 r_36 r_46 r_56 r_66 r_76 r_86 r_96 r_106 r_116 : Int, ∃ r_126 : Bool, ∃ r_13_a6 : OA, ∃ r_13_l6 r_13_c6 : Nat, cellsAt w20 ⟨b1, 0, none⟩ 0 [(Iv r_08), (Iv r_18), (Iv r_26), (Iv r_36), (Iv r_46), (Iv r_56), (Iv r_66), (Iv r_76), (Iv r_86), (Iv r_96), (Iv r_106), (Iv r_116), (.bool r_126), (.slice r_13_a6 r_13_l6 r_13_c6)] ∧
 R (.tuple #[(.agg #[Iv r_08, Iv r_18, Iv r_26, Iv r_36, Iv r_46, Iv r_56, Iv r_66, Iv r_76, Iv r_86, Iv r_96, Iv r_106, Iv r_116, .bool r_126, .slice r_13_a6 r_13_l6 r_13_c6]), (.slice r_a r_l r_c), (Iv r2)]) w20))))))))))))))))))))))))) ∧
 (kLet (!decide (r = (0 : Int))) fun x =>
 (bsplit x
 ((sxStore w5 ⟨b1, 0, none⟩ 0 [(Iv (0 : Int)), (Iv (0 : Int)), (Iv (0 : Int)), (Iv (0 : Int)), (Iv (0 : Int)), (Iv (0 : Int)), (Iv (0 : Int)), (Iv (0 : Int)), (Iv (0 : Int)), (Iv (0 : Int)), (Iv (0 : Int)), (Iv (0 : Int)), (.bool false), (.slice none 0 0)] fun w6 =>
 (∃ r_02 r_13 r_21 r_31 r_41 r_51 r_61 r_71 r_81 r_91 r_101 r_111 : Int, ∃ r_121 : Bool, ∃ r_13_a1 : OA, ∃ r_13_l1 r_13_c1 : Nat, cellsAt w6 ⟨b1, 0, none⟩ 0 [(Iv r_02), (Iv r_13), (Iv r_21), (Iv r_31), (Iv r_41), (Iv r_51), (Iv r_61), (Iv r_71), (Iv r_81), (Iv r_91), (Iv r_101), (Iv r_111), (.bool r_121), (.slice r_13_a1 r_13_l1 r_13_c1)] ∧
 R (.tuple #[(.agg #[Iv r_02, Iv r_13, Iv r_21, Iv r_31, Iv r_41, Iv r_51, Iv r_61, Iv r_71, Iv r_81, Iv r_91, Iv r_101, Iv r_111, .bool r_121, .slice r_13_a1 r_13_l1 r_13_c1]), (.slice none 0 0), (Iv r)]) w6)))
 ((∃ J1 : Bool → WP,
 (∀ (_ : Env) (x2 : Bool) (w7 : World), J1 x2 w7 →
 (bsplit x2
 ((sxStore w7 ⟨b1, 0, none⟩ 0 [(Iv (0 : Int)), (Iv (0 : Int)), (Iv (0 : Int)), (Iv (0 : Int)), (Iv (0 : Int)), (Iv (0 : Int)), (Iv (0 : Int)), (Iv (0 : Int)), (Iv (0 : Int)), (Iv (0 : Int)), (Iv (0 : Int)), (Iv (0 : Int)), (.bool false), (.slice none 0 0)] fun w8 =>
 (∃ r_03 r_14 r_22 r_32 r_42 r_52 r_62 r_72 r_82 r_92 r_102 r_112 : Int, ∃ r_122 : Bool, ∃ r_13_a2 : OA, ∃ r_13_l2 r_13_c2 : Nat, cellsAt w8 ⟨b1, 0, none⟩ 0 [(Iv r_03), (Iv r_14), (Iv r_22), (Iv r_32), (Iv r_42), (Iv r_52), (Iv r_62), (Iv r_72), (Iv r_82), (Iv r_92), (Iv r_102), (Iv r_112), (.bool r_122), (.slice r_13_a2 r_13_l2 r_13_c2)] ∧
 R (.tuple #[(.agg #[Iv r_03, Iv r_14, Iv r_22, Iv r_32, Iv r_42, Iv r_52, Iv r_62, Iv r_72, Iv r_82, Iv r_92, Iv r_102, Iv r_112, .bool r_122, .slice r_13_a2 r_13_l2 r_13_c2]), (.slice none 0 0), (Iv (3 : Int))]) w8)))
 ((kLdB w7 ⟨b, 12, none⟩ fun x3 =>
 (bsplit (!x3)
 ((sxStore w7 ⟨b1, 0, none⟩ 0 [(Iv (0 : Int)), (Iv (0 : Int)), (Iv (0 : Int)), (Iv (0 : Int)), (Iv (0 : Int)), (Iv (0 : Int)), (Iv (0 : Int)), (Iv (0 : Int)), (Iv (0 : Int)), (Iv (0 : Int)), (Iv (0 : Int)), (Iv (0 : Int)), (.bool false), (.slice none 0 0)] fun w9 =>
 (∃ r_04 r_15 r_23 r_33 r_43 r_53 r_63 r_73 r_83 r_93 r_103 r_113 : Int, ∃ r_123 : Bool, ∃ r_13_a3 : OA, ∃ r_13_l3 r_13_c3 : Nat, cellsAt w9 ⟨b1, 0, none⟩ 0 [(Iv r_04), (Iv r_15), (Iv r_23), (Iv r_33), (Iv r_43), (Iv r_53), (Iv r_63), (Iv r_73), (Iv r_83), (Iv r_93), (Iv r_103), (Iv r_113), (.bool r_123), (.slice r_13_a3 r_13_l3 r_13_c3)] ∧
 R (.tuple #[(.agg #[Iv r_04, Iv r_15, Iv r_23, Iv r_33, Iv r_43, Iv r_53, Iv r_63, Iv r_73, Iv r_83, Iv r_93, Iv r_103, Iv r_113, .bool r_123, .slice r_13_a3 r_13_l3 r_13_c3]), (.slice none 0 0), (Iv (14 : Int))]) w9)))
 ((kLd w7 ⟨b, 11, none⟩ .i64 fun x4 =>
 (kLet (decide (x4 > (0 : Int))) fun x5 =>
 (bsplit x5
 ((sxStore w7 ⟨b1, 0, none⟩ 0 [(Iv (0 : Int)), (Iv (0 : Int)), (Iv (0 : Int)), (Iv (0 : Int)), (Iv (0 : Int)), (Iv (0 : Int)), (Iv (0 : Int)), (Iv (0 : Int)), (Iv (0 : Int)), (Iv (0 : Int)), (Iv (0 : Int)), (Iv (0 : Int)), (.bool false), (.slice none 0 0)] fun w10 =>
 (∃ r_05 r_16 r_24 r_34 r_44 r_54 r_64 r_74 r_84 r_94 r_104 r_114 : Int, ∃ r_124 : Bool, ∃ r_13_a4 : OA, ∃ r_13_l4 r_13_c4 : Nat, cellsAt w10 ⟨b1, 0, none⟩ 0 [(Iv r_05), (Iv r_16), (Iv r_24), (Iv r_34), (Iv r_44), (Iv r_54), (Iv r_64), (Iv r_74), (Iv r_84), (Iv r_94), (Iv r_104), (Iv r_114), (.bool r_124), (.slice r_13_a4 r_13_l4 r_13_c4)] ∧
 R (.tuple #[(.agg #[Iv r_05, Iv r_16, Iv r_24, Iv r_34, Iv r_44, Iv r_54, Iv r_64, Iv r_74, Iv r_84, Iv r_94, Iv r_104, Iv r_114, .bool r_124, .slice r_13_a4 r_13_l4 r_13_c4]), (.slice none 0 0), (Iv (14 : Int))]) w10)))
 (J w7)))))))))) ∧
 (bsplit (decide (size < (0 : Int)))
 (J1 true w5)
 ((kLet (decide (size > (4096 : Int))) fun x1 =>
 J1 x1 w5))))))))))))))
theorem F_receiver_Report_eq (r_0 r_1 r_2 r_3 r_4 r_5 r_6 r_7 r_8 r_9 r_10 r_11 : Int) (r_12 : Bool) (r_13_a : Option Addr) (r_13_l r_13_c : Nat) (size : Int) (w : World) (R : Value → World → Prop) : sxFn Tryz.prog TT h_receiver_Report Tryz.f21 #[(.agg #[.int .i64 r_0, .int .i64 r_1, .int .i64 r_2, .int .i64 r_3, .int .i64 r_4, .int .i64 r_5, .int .i64 r_6, .int .i64 r_7, .int .i64 r_8, .int .i64 r_9, .int .i64 r_10, .int .i64 r_11, .bool r_12, .slice r_13_a r_13_l r_13_c]), (.int .i64 size)] w R = F_receiver_Report r_0 r_1 r_2 r_3 r_4 r_5 r_6 r_7 r_8 r_9 r_10 r_11 r_12 r_13_a r_13_l r_13_c size w R := by kernel_rfl
theorem F_receiver_Report_ok {R : Ending → World → Prop} (r_0 r_1 r_2 r_3 r_4 r_5 r_6 r_7 r_8 r_9 r_10 r_11 : Int) (r_12 : Bool) (r_13_a : Option Addr) (r_13_l r_13_c : Nat) (size : Int) (w : World) (h : F_receiver_Report r_0 r_1 r_2 r_3 r_4 r_5 r_6 r_7 r_8 r_9 r_10 r_11 r_12 r_13_a r_13_l r_13_c size w fun v w' => R (.returned v) w') : Calls Tryz.prog N_receiver_Report #[(.agg #[.int .i64 r_0, .int .i64 r_1, .int .i64 r_2, .int .i64 r_3, .int .i64 r_4, .int .i64 r_5, .int .i64 r_6, .int .i64 r_7, .int .i64 r_8, .int .i64 r_9, .int .i64 r_10, .int .i64 r_11, .bool r_12, .slice r_13_a r_13_l r_13_c]), (.int .i64 size)] w R :=
 calls_of (f := 21) follows_ok Tryz.func21 (Eq.mpr (F_receiver_Report_eq r_0 r_1 r_2 r_3 r_4 r_5 r_6 r_7 r_8 r_9 r_10 r_11 r_12 r_13_a r_13_l r_13_c size w _) h)

def h_ref19_Decode : H := (.seq .reg (.seq (.seq .reg (.cond (.seq .reg .leaf) .leaf)) (.seq (.seq .reg (.cond (.seq .reg .leaf) .leaf)) (.seq .reg (.seq .reg (.seq (.seq .reg (.block (.loop [(7, .p (.int .i64)), (8, .p (.int .i64))] [5, 7, 8, 9, 10, 28, 29, 30, 31, 32, 33, 34, 35, 36, 37, 38, 39, 40, 41, 42, 43, 44, 45, 46, 47, 48, 49, 50, 51, 52, 53, 54, 55, 56, 57, 58, 59, 60, 61, 62, 63, 64, 65, 66, 67, 68, 69, 70, 71] (.seq (.seq .reg (.cond .leaf .leaf)) (.seq (.block (.seq (.seq .reg (.cond (.seq .reg .leaf) .leaf)) (.seq .reg (.seq .reg (.seq .reg (.seq (.seq .reg (.cond (.seq (.seq .reg (.cond (.seq .reg .leaf) .leaf)) (.seq .reg .reg)) .leaf)) .reg)))))) .reg))))) (.seq .reg (.seq (.seq .reg (.cond (.seq .reg .leaf) .leaf)) (.seq .reg .leaf)))))))))
def F_ref19_Decode (bits : Int) (b_a : OA) (b_l b_c : Nat) (w : World) (R : Value → WP) : Prop :=
 (kAlloc w #[Iv (0 : Int), .slice none 0 0] Ty_api_Status fun b w1 =>
 (CP N_ref15_Bits #[(Iv bits)] w1 fun e_ w2 =>
 ∃ r : Bool, e_ = .returned (.bool r) ∧
 (bsplit (!r)
 ((sxStore w2 ⟨b, 0, none⟩ 0 [(Iv (0 : Int)), (.slice none 0 0)] fun w3 =>
 (∃ r_0 : Int, ∃ r_1_a : OA, ∃ r_1_l r_1_c : Nat, cellsAt w3 ⟨b, 0, none⟩ 0 [(Iv r_0), (.slice r_1_a r_1_l r_1_c)] ∧
 R (.tuple #[(.agg #[Iv r_0, .slice r_1_a r_1_l r_1_c]), (Iv (3 : Int))]) w3)))
 ((bsplit (decide ((b_l : Int) < (3 : Int)))
 ((sxStore w2 ⟨b, 0, none⟩ 0 [(Iv (0 : Int)), (.slice none 0 0)] fun w4 =>
 (∃ r_01 : Int, ∃ r_1_a1 : OA, ∃ r_1_l1 r_1_c1 : Nat, cellsAt w4 ⟨b, 0, none⟩ 0 [(Iv r_01), (.slice r_1_a1 r_1_l1 r_1_c1)] ∧
 R (.tuple #[(.agg #[Iv r_01, .slice r_1_a1 r_1_l1 r_1_c1]), (Iv (5 : Int))]) w4)))
 ((CP N_ref01_Get #[(.slice b_a b_l b_c), (Iv (0 : Int)), (Iv (2 : Int))] w2 fun e_1 w5 =>
 ∃ r1 : Int, e_1 = .returned (Iv r1) ∧
 (kAlloc w5 #[Iv (0 : Int), .slice none 0 0] Ty_api_Status fun b1 w6 =>
 (sxStore w6 ⟨b1, 0, none⟩ 0 [(Iv r1), (.slice none 0 0)] fun w7 =>
 (kIx b_a b_l (2 : Int) fun b2 =>
 (kLd w7 (b2.add ((2 : Int).toNat * 1)) .u8 fun x =>
 (kW .i64 (x) fun x1 =>
 (∃ I : Int → Int → Nat × (WP), (I (3 : Int) x1).2 w7 ∧
 (∀ (_ : Env) (at1 : Int) (n : Int) (w8 : World), (I at1 n).2 w8 →
 (bsplit (decide (n > (0 : Int)))
 ((kW .i64 (at1 + (2 : Int)) fun x2 =>
 (bsplit (decide ((b_l : Int) < x2))
 ((sxStore w8 ⟨b, 0, none⟩ 0 [(Iv (0 : Int)), (.slice none 0 0)] fun w9 =>
 (∃ r_02 : Int, ∃ r_1_a2 : OA, ∃ r_1_l2 r_1_c2 : Nat, cellsAt w9 ⟨b, 0, none⟩ 0 [(Iv r_02), (.slice r_1_a2 r_1_l2 r_1_c2)] ∧
 R (.tuple #[(.agg #[Iv r_02, .slice r_1_a2 r_1_l2 r_1_c2]), (Iv (5 : Int))]) w9)))
 ((CP N_ref01_Get #[(.slice b_a b_l b_c), (Iv at1), (Iv (2 : Int))] w8 fun e_2 w10 =>
 ∃ r2 : Int, e_2 = .returned (Iv r2) ∧
 (kLet (Int.fdiv r2 (2 ^ 4)) fun x3 =>
 (kAlloc w10 #[Iv (0 : Int), Iv (0 : Int), Iv (0 : Int)] Ty_api_Range fun b3 w11 =>
 (sxStore w11 ⟨b3, 0, none⟩ 0 [(Iv x3), (Iv (0 : Int)), (Iv (0 : Int))] fun w12 =>
 (kW .i64 (at1 + (2 : Int)) fun x4 =>
 (kLet (bAnd .i64 r2 (15 : Int)) fun x5 =>
 (bsplit (decide (x5 = (1 : Int)))
 ((kW .i64 (x4 + (4 : Int)) fun x6 =>
 (bsplit (decide ((b_l : Int) < x6))
 ((sxStore w12 ⟨b, 0, none⟩ 0 [(Iv (0 : Int)), (.slice none 0 0)] fun w13 =>
 (∃ r_03 : Int, ∃ r_1_a3 : OA, ∃ r_1_l3 r_1_c3 : Nat, cellsAt w13 ⟨b, 0, none⟩ 0 [(Iv r_03), (.slice r_1_a3 r_1_l3 r_1_c3)] ∧
 R (.tuple #[(.agg #[Iv r_03, .slice r_1_a3 r_1_l3 r_1_c3]), (Iv (5 : Int))]) w13)))
 ((CP N_ref01_Get #[(.slice b_a b_l b_c), (Iv x4), (Iv (2 : Int))] w12 fun e_3 w14 =>
 ∃ r3 : Int, e_3 = .returned (Iv r3) ∧
 (kW .i64 (x4 + (2 : Int)) fun x7 =>
 (CP N_ref01_Get #[(.slice b_a b_l b_c), (Iv x7), (Iv (2 : Int))] w14 fun e_4 w15 =>
 ∃ r4 : Int, e_4 = .returned (Iv r4) ∧
 (kSet w15 ⟨b3, 1, none⟩ (Iv r3) fun w16 =>
 (kSet w16 ⟨b3, 2, none⟩ (Iv r4) fun w17 =>
 (kW .i64 (x4 + (4 : Int)) fun x8 =>
 (kLdS w17 ⟨b1, 1, none⟩ fun x_a x_l x_c =>
 (∃ x_0 x_1 x_2 : Int, cellsAt w17 ⟨b3, 0, none⟩ 0 [(Iv x_0), (Iv x_1), (Iv x_2)] ∧
 (kAlloc w17 #[(Iv x_0), (Iv x_1), (Iv x_2)] Ty_api_Range fun b4 w18 =>
 (AppP Tryz.prog #[Ty_S_api_Range, Ty_S_api_Range] Ty_S_api_Range #[(.slice x_a x_l x_c), (.slice (some ⟨b4, 0, none⟩) 1 1)] w18 fun x_a1 x_l1 x_c1 w19 =>
 (kSet w19 ⟨b1, 1, none⟩ (.slice x_a1 x_l1 x_c1) fun w20 =>
 (kW .i64 (n - (1 : Int)) fun x9 =>
 ((I x8 x9).2 w20 ∧ (I x8 x9).1 < (I at1 n).1)))))))))))))))))
 ((kLdS w12 ⟨b1, 1, none⟩ fun x_a2 x_l2 x_c2 =>
 (∃ x_01 x_11 x_21 : Int, cellsAt w12 ⟨b3, 0, none⟩ 0 [(Iv x_01), (Iv x_11), (Iv x_21)] ∧
 (kAlloc w12 #[(Iv x_01), (Iv x_11), (Iv x_21)] Ty_api_Range fun b5 w21 =>
 (AppP Tryz.prog #[Ty_S_api_Range, Ty_S_api_Range] Ty_S_api_Range #[(.slice x_a2 x_l2 x_c2), (.slice (some ⟨b5, 0, none⟩) 1 1)] w21 fun x_a3 x_l3 x_c3 w22 =>
 (kSet w22 ⟨b1, 1, none⟩ (.slice x_a3 x_l3 x_c3) fun w23 =>
 (kW .i64 (n - (1 : Int)) fun x10 =>
 ((I x4 x10).2 w23 ∧ (I x4 x10).1 < (I at1 n).1)))))))))))))))))))
 ((∃ x_02 : Int, ∃ x_1_a : OA, ∃ x_1_l x_1_c : Nat, cellsAt w8 ⟨b1, 0, none⟩ 0 [(Iv x_02), (.slice x_1_a x_1_l x_1_c)] ∧
 (CP N_ref19_Encode #[(Iv bits), (.agg #[Iv x_02, .slice x_1_a x_1_l x_1_c])] w8 fun e_5 w24 =>
 ∃ r_a : OA, ∃ r_l r_c : Nat, ∃ r5 : Int, e_5 = .returned (.tuple #[(.slice r_a r_l r_c), (Iv r5)]) ∧
 (bsplit (!decide (r5 = (0 : Int)))
 ((sxStore w24 ⟨b, 0, none⟩ 0 [(Iv (0 : Int)), (.slice none 0 0)] fun w25 =>
 (∃ r_04 : Int, ∃ r_1_a4 : OA, ∃ r_1_l4 r_1_c4 : Nat, cellsAt w25 ⟨b, 0, none⟩ 0 [(Iv r_04), (.slice r_1_a4 r_1_l4 r_1_c4)] ∧
 R (.tuple #[(.agg #[Iv r_04, .slice r_1_a4 r_1_l4 r_1_c4]), (Iv (4 : Int))]) w25)))
 ((CP N_ref01_Same #[(.slice b_a b_l b_c), (.slice r_a r_l r_c)] w24 fun e_6 w27 =>
 ∃ r6 : Bool, e_6 = .returned (.bool r6) ∧
 (bsplit (!r6)
 ((sxStore w27 ⟨b, 0, none⟩ 0 [(Iv (0 : Int)), (.slice none 0 0)] fun w28 =>
 (∃ r_06 : Int, ∃ r_1_a6 : OA, ∃ r_1_l6 r_1_c6 : Nat, cellsAt w28 ⟨b, 0, none⟩ 0 [(Iv r_06), (.slice r_1_a6 r_1_l6 r_1_c6)] ∧
 R (.tuple #[(.agg #[Iv r_06, .slice r_1_a6 r_1_l6 r_1_c6]), (Iv (4 : Int))]) w28)))
 ((∃ x_04 : Int, ∃ x_1_a2 : OA, ∃ x_1_l2 x_1_c2 : Nat, cellsAt w27 ⟨b1, 0, none⟩ 0 [(Iv x_04), (.slice x_1_a2 x_1_l2 x_1_c2)] ∧
 (sxStore w27 ⟨b, 0, none⟩ 0 [(Iv x_04), (.slice x_1_a2 x_1_l2 x_1_c2)] fun w29 =>
 (∃ r_07 : Int, ∃ r_1_a7 : OA, ∃ r_1_l7 r_1_c7 : Nat, cellsAt w29 ⟨b, 0, none⟩ 0 [(Iv r_07), (.slice r_1_a7 r_1_l7 r_1_c7)] ∧
 R (.tuple #[(.agg #[Iv r_07, .slice r_1_a7 r_1_l7 r_1_c7]), (Iv (0 : Int))]) w29))))))))))))))))))))))))))
theorem F_ref19_Decode_eq (bits : Int) (b_a : Option Addr) (b_l b_c : Nat) (w : World) (R : Value → World → Prop) : sxFn Tryz.prog TT h_ref19_Decode Tryz.f22 #[(.int .i64 bits), (.slice b_a b_l b_c)] w R = F_ref19_Decode bits b_a b_l b_c w R := by kernel_rfl
theorem F_ref19_Decode_ok {R : Ending → World → Prop} (bits : Int) (b_a : Option Addr) (b_l b_c : Nat) (w : World) (h : F_ref19_Decode bits b_a b_l b_c w fun v w' => R (.returned v) w') : Calls Tryz.prog N_ref19_Decode #[(.int .i64 bits), (.slice b_a b_l b_c)] w R :=
 calls_of (f := 22) follows_ok Tryz.func22 (Eq.mpr (F_ref19_Decode_eq bits b_a b_l b_c w _) h)

def h_ref21_Status : H := (.seq .reg (.seq (.seq .reg (.cond (.seq .reg .leaf) .leaf)) (.seq .reg (.seq .reg (.seq (.seq .reg (.block (.loop [(5, .p (.int .i64)), (6, .p (.int .i64))] [5, 6, 7, 8, 9, 10, 18, 19, 20, 21, 22, 23, 24, 25, 26, 27, 28, 29, 30, 31, 32, 33, 34, 35, 36, 37, 38, 39, 40, 41, 42, 43, 44, 45, 46, 47, 48, 49, 50, 51, 52, 53, 54, 55, 56, 57, 58, 59, 60, 61, 62, 63, 64, 65, 66, 67, 68, 69, 70, 71, 72, 73, 74, 75, 76, 77, 78, 79, 80, 81, 82, 83, 84, 85, 86] (.seq (.seq .reg (.cond .leaf .leaf)) (.seq (.block (.seq .reg (.seq .reg (.cut [(5, .p (.int .i64)), (8, .p .slice)] [5, 8, 9, 10, 37, 38, 39, 40, 41, 42, 43, 44, 45, 46, 47, 48, 49, 50, 51, 52, 53, 54, 55, 56, 57, 58, 59, 60, 61, 62, 63, 64, 65, 66, 67, 68, 69, 70, 71, 72] (.cut [(51, .p .bool)] [37, 38, 39, 40, 41, 42, 43, 44, 45, 46, 47, 48, 49, 50, 51] .reg (.cond (.seq .reg (.seq .reg (.seq (.seq .reg (.cond .leaf .leaf)) (.seq .reg (.seq (.seq .reg (.cond .reg .leaf)) .reg))))) .leaf)) (.seq (.seq .reg (.cond (.seq .reg .leaf) .leaf)) .reg))))) .reg))))) (.seq .reg .leaf))))))
def F_ref21_Status (r_0 r_1 r_2 r_3 r_4 r_5 r_6 r_7 r_8 r_9 r_10 r_11 : Int) (r_12 : Bool) (r_13_a : OA) (r_13_l r_13_c : Nat) (w : World) (R : Value → WP) : Prop :=
 (kAlloc w #[(Iv r_0), (Iv r_1), (Iv r_2), (Iv r_3), (Iv r_4), (Iv r_5), (Iv r_6), (Iv r_7), (Iv r_8), (Iv r_9), (Iv r_10), (Iv r_11), (.bool r_12), (.slice r_13_a r_13_l r_13_c)] Ty_api_Receiver fun b w1 =>
 (kAlloc w1 #[Iv (0 : Int), .slice none 0 0] Ty_api_Status fun b1 w2 =>
 (∃ x_0 x_1 x_2 x_3 x_4 x_5 x_6 x_7 x_8 x_9 x_10 x_11 : Int, ∃ x_12 : Bool, ∃ x_13_a : OA, ∃ x_13_l x_13_c : Nat, cellsAt w2 ⟨b, 0, none⟩ 0 [(Iv x_0), (Iv x_1), (Iv x_2), (Iv x_3), (Iv x_4), (Iv x_5), (Iv x_6), (Iv x_7), (Iv x_8), (Iv x_9), (Iv x_10), (Iv x_11), (.bool x_12), (.slice x_13_a x_13_l x_13_c)] ∧
 (CP N_ref21_Valid #[(.agg #[Iv x_0, Iv x_1, Iv x_2, Iv x_3, Iv x_4, Iv x_5, Iv x_6, Iv x_7, Iv x_8, Iv x_9, Iv x_10, Iv x_11, .bool x_12, .slice x_13_a x_13_l x_13_c])] w2 fun e_ w3 =>
 ∃ r : Bool, e_ = .returned (.bool r) ∧
 (bsplit (!r)
 ((sxStore w3 ⟨b1, 0, none⟩ 0 [(Iv (0 : Int)), (.slice none 0 0)] fun w4 =>
 (∃ r_01 : Int, ∃ r_1_a : OA, ∃ r_1_l r_1_c : Nat, cellsAt w4 ⟨b1, 0, none⟩ 0 [(Iv r_01), (.slice r_1_a r_1_l r_1_c)] ∧
 R (.tuple #[(.agg #[Iv r_01, .slice r_1_a r_1_l r_1_c]), (Iv (1 : Int))]) w4)))
 ((kLd w3 ⟨b, 8, none⟩ .i64 fun x =>
 (kAlloc w3 #[Iv (0 : Int), .slice none 0 0] Ty_api_Status fun b2 w5 =>
 (sxStore w5 ⟨b2, 0, none⟩ 0 [(Iv x), (.slice none 0 0)] fun w6 =>
 (∃ I : Int → Int → Nat × (WP), (I (0 : Int) (0 : Int)).2 w6 ∧
 (∀ (_ : Env) (k : Int) (i : Int) (w7 : World), (I k i).2 w7 →
 (∃ x_01 x_13 x_21 x_31 x_41 x_51 x_61 x_71 x_81 x_91 x_101 x_111 : Int, ∃ x_121 : Bool, ∃ x_13_a1 : OA, ∃ x_13_l1 x_13_c1 : Nat, cellsAt w7 ⟨b, 0, none⟩ 0 [(Iv x_01), (Iv x_13), (Iv x_21), (Iv x_31), (Iv x_41), (Iv x_51), (Iv x_61), (Iv x_71), (Iv x_81), (Iv x_91), (Iv x_101), (Iv x_111), (.bool x_121), (.slice x_13_a1 x_13_l1 x_13_c1)] ∧
 (kLd w7 ⟨b, 8, none⟩ .i64 fun x1 =>
 (CP N_ref21_place #[(.agg #[Iv x_01, Iv x_13, Iv x_21, Iv x_31, Iv x_41, Iv x_51, Iv x_61, Iv x_71, Iv x_81, Iv x_91, Iv x_101, Iv x_111, .bool x_121, .slice x_13_a1 x_13_l1 x_13_c1]), (Iv x1)] w7 fun e_1 w8 =>
 ∃ r1 : Int, e_1 = .returned (Iv r1) ∧
 (bsplit (decide (i < r1))
 ((kLd w8 ⟨b, 0, none⟩ .i64 fun x2 =>
 (kLd w8 ⟨b, 6, none⟩ .i64 fun x3 =>
 (kW .i64 (x3 + i) fun x4 =>
 (CP N_ref02_Low #[(Iv x2), (Iv x4)] w8 fun e_2 w9 =>
 ∃ r2 : Int, e_2 = .returned (Iv r2) ∧
 (kAlloc w9 #[(Iv r2), (Iv (0 : Int)), (Iv (0 : Int))] Ty_api_Range fun b3 w10 =>
 (∃ J : Int → OA → Nat → Nat → WP,
 (∀ (_ : Env) (k1 : Int) (more_a : OA) (more_l : Nat) (more_c : Nat) (w16 : World), J k1 more_a more_l more_c w16 →
 (kLdS w16 ⟨b2, 1, none⟩ fun _ x_l5 _ =>
 (kW .i64 ((x_l5 : Int) + (more_l : Int)) fun x11 =>
 (bsplit (decide (x11 > (64 : Int)))
 ((kSet w16 ⟨b2, 0, none⟩ (Iv r2) fun w17 =>
 (∃ x_03 : Int, ∃ x_1_a : OA, ∃ x_1_l x_1_c : Nat, cellsAt w17 ⟨b2, 0, none⟩ 0 [(Iv x_03), (.slice x_1_a x_1_l x_1_c)] ∧
 (sxStore w17 ⟨b1, 0, none⟩ 0 [(Iv x_03), (.slice x_1_a x_1_l x_1_c)] fun w18 =>
 (∃ r_02 : Int, ∃ r_1_a1 : OA, ∃ r_1_l1 r_1_c1 : Nat, cellsAt w18 ⟨b1, 0, none⟩ 0 [(Iv r_02), (.slice r_1_a1 r_1_l1 r_1_c1)] ∧
 R (.tuple #[(.agg #[Iv r_02, .slice r_1_a1 r_1_l1 r_1_c1]), (Iv (0 : Int))]) w18)))))
 ((kLdS w16 ⟨b2, 1, none⟩ fun x_a6 x_l6 x_c6 =>
 (AppP Tryz.prog #[Ty_S_api_Range, Ty_S_api_Range] Ty_S_api_Range #[(.slice x_a6 x_l6 x_c6), (.slice more_a more_l more_c)] w16 fun x_a7 x_l7 x_c7 w19 =>
 (kSet w19 ⟨b2, 1, none⟩ (.slice x_a7 x_l7 x_c7) fun w20 =>
 (kW .i64 (i + (1 : Int)) fun x12 =>
 ((I k1 x12).2 w20 ∧ (I k1 x12).1 < (I k i).1)))))))))) ∧
 (∃ J1 : Bool → WP,
 (∀ (_ : Env) (x6 : Bool) (w11 : World), J1 x6 w11 →
 (bsplit x6
 ((kLdS w11 ⟨b, 13, none⟩ fun x_a2 x_l2 _ =>
 (kIx x_a2 x_l2 k fun b5 =>
 (∃ x_02 : Int, ∃ x_14 : Bool, ∃ x_22 : Int, ∃ x_3_a : OA, ∃ x_3_l x_3_c : Nat, ∃ x_4_a : OA, ∃ x_4_l x_4_c : Nat, cellsAt w11 (b5.add (k.toNat * 5)) 0 [(Iv x_02), (.bool x_14), (Iv x_22), (.slice x_3_a x_3_l x_3_c), (.slice x_4_a x_4_l x_4_c)] ∧
 (kAlloc w11 #[Iv (0 : Int), .bool false, Iv (0 : Int), .slice none 0 0, .slice none 0 0] Ty_api_Partial fun b6 w12 =>
 (sxStore w12 ⟨b6, 0, none⟩ 0 [(Iv x_02), (.bool x_14), (Iv x_22), (.slice x_3_a x_3_l x_3_c), (.slice x_4_a x_4_l x_4_c)] fun w13 =>
 (kW .i64 (k + (1 : Int)) fun x7 =>
 (kLdB w13 ⟨b6, 1, none⟩ fun x8 =>
 (bsplit x8
 ((kW .i64 (i + (1 : Int)) fun x9 =>
 ((I x7 x9).2 w13 ∧ (I x7 x9).1 < (I k i).1)))
 ((kLd w13 ⟨b6, 2, none⟩ .i64 fun x10 =>
 (bsplit (decide (x10 = (-1 : Int)))
 ((kLdS w13 ⟨b6, 4, none⟩ fun x_a3 x_l3 x_c3 =>
 (CP N_ref18_Gaps #[(.slice x_a3 x_l3 x_c3), (Iv r2), (Iv (65535 : Int))] w13 fun e_3 w14 =>
 ∃ r_a : OA, ∃ r_l r_c : Nat, ∃ r3 : Int, e_3 = .returned (.tuple #[(.slice r_a r_l r_c), (Iv r3)]) ∧
 J x7 r_a r_l r_c w14)))
 ((kLdS w13 ⟨b6, 4, none⟩ fun x_a4 x_l4 x_c4 =>
 (CP N_ref18_Gaps #[(.slice x_a4 x_l4 x_c4), (Iv r2), (Iv x10)] w13 fun e_4 w15 =>
 ∃ r_a1 : OA, ∃ r_l1 r_c1 : Nat, ∃ r4 : Int, e_4 = .returned (.tuple #[(.slice r_a1 r_l1 r_c1), (Iv r4)]) ∧
 J x7 r_a1 r_l1 r_c1 w15)))))))))))))))
 (J k (some ⟨b3, 0, none⟩) 1 1 w11))) ∧
 (kLdS w10 ⟨b, 13, none⟩ fun _ x_l _ =>
 (bsplit (decide (k < (x_l : Int)))
 ((kLdS w10 ⟨b, 13, none⟩ fun x_a1 x_l1 _ =>
 (kIx x_a1 x_l1 k fun b4 =>
 (kLd w10 (b4.add (k.toNat * 5)) .i64 fun x5 =>
 J1 (decide (x5 = r2)) w10))))
 (J1 false w10)))))))))))
 ((∃ x_04 : Int, ∃ x_1_a1 : OA, ∃ x_1_l1 x_1_c1 : Nat, cellsAt w8 ⟨b2, 0, none⟩ 0 [(Iv x_04), (.slice x_1_a1 x_1_l1 x_1_c1)] ∧
 (sxStore w8 ⟨b1, 0, none⟩ 0 [(Iv x_04), (.slice x_1_a1 x_1_l1 x_1_c1)] fun w21 =>
 (∃ r_03 : Int, ∃ r_1_a2 : OA, ∃ r_1_l2 r_1_c2 : Nat, cellsAt w21 ⟨b1, 0, none⟩ 0 [(Iv r_03), (.slice r_1_a2 r_1_l2 r_1_c2)] ∧
 R (.tuple #[(.agg #[Iv r_03, .slice r_1_a2 r_1_l2 r_1_c2]), (Iv (0 : Int))]) w21)))))))))))))))))))
theorem F_ref21_Status_eq (r_0 r_1 r_2 r_3 r_4 r_5 r_6 r_7 r_8 r_9 r_10 r_11 : Int) (r_12 : Bool) (r_13_a : Option Addr) (r_13_l r_13_c : Nat) (w : World) (R : Value → World → Prop) : sxFn Tryz.prog TT h_ref21_Status Tryz.f23 #[(.agg #[.int .i64 r_0, .int .i64 r_1, .int .i64 r_2, .int .i64 r_3, .int .i64 r_4, .int .i64 r_5, .int .i64 r_6, .int .i64 r_7, .int .i64 r_8, .int .i64 r_9, .int .i64 r_10, .int .i64 r_11, .bool r_12, .slice r_13_a r_13_l r_13_c])] w R = F_ref21_Status r_0 r_1 r_2 r_3 r_4 r_5 r_6 r_7 r_8 r_9 r_10 r_11 r_12 r_13_a r_13_l r_13_c w R := by kernel_rfl
theorem F_ref21_Status_ok {R : Ending → World → Prop} (r_0 r_1 r_2 r_3 r_4 r_5 r_6 r_7 r_8 r_9 r_10 r_11 : Int) (r_12 : Bool) (r_13_a : Option Addr) (r_13_l r_13_c : Nat) (w : World) (h : F_ref21_Status r_0 r_1 r_2 r_3 r_4 r_5 r_6 r_7 r_8 r_9 r_10 r_11 r_12 r_13_a r_13_l r_13_c w fun v w' => R (.returned v) w') : Calls Tryz.prog N_ref21_Status #[(.agg #[.int .i64 r_0, .int .i64 r_1, .int .i64 r_2, .int .i64 r_3, .int .i64 r_4, .int .i64 r_5, .int .i64 r_6, .int .i64 r_7, .int .i64 r_8, .int .i64 r_9, .int .i64 r_10, .int .i64 r_11, .bool r_12, .slice r_13_a r_13_l r_13_c])] w R :=
 calls_of (f := 23) follows_ok Tryz.func23 (Eq.mpr (F_ref21_Status_eq r_0 r_1 r_2 r_3 r_4 r_5 r_6 r_7 r_8 r_9 r_10 r_11 r_12 r_13_a r_13_l r_13_c w _) h)

def h_ref19_Same : H := (.seq .reg (.seq .reg .leaf))
def F_ref19_Same (a_0 : Int) (a_1_a : OA) (a_1_l a_1_c : Nat) (b_0 : Int) (b_1_a : OA) (b_1_l b_1_c : Nat) (w : World) (R : Value → WP) : Prop :=
 (kAlloc w #[(Iv a_0), (.slice a_1_a a_1_l a_1_c)] Ty_api_Status fun b w1 =>
 (kAlloc w1 #[(Iv b_0), (.slice b_1_a b_1_l b_1_c)] Ty_api_Status fun b1 w2 =>
 (kLd w2 ⟨b, 0, none⟩ .i64 fun x =>
 (kLd w2 ⟨b1, 0, none⟩ .i64 fun x1 =>
 (bsplit (decide (x = x1))
 ((kLdS w2 ⟨b, 1, none⟩ fun x_a x_l x_c =>
 (kLdS w2 ⟨b1, 1, none⟩ fun x_a1 x_l1 x_c1 =>
 (CP N_ref18_SameRanges #[(.slice x_a x_l x_c), (.slice x_a1 x_l1 x_c1)] w2 fun e_ w3 =>
 ∃ r : Bool, e_ = .returned (.bool r) ∧
 R (.bool r) w3))))
 (R (.bool false) w2))))))
theorem F_ref19_Same_eq (a_0 : Int) (a_1_a : Option Addr) (a_1_l a_1_c : Nat) (b_0 : Int) (b_1_a : Option Addr) (b_1_l b_1_c : Nat) (w : World) (R : Value → World → Prop) : sxFn Tryz.prog TT h_ref19_Same Tryz.f24 #[(.agg #[.int .i64 a_0, .slice a_1_a a_1_l a_1_c]), (.agg #[.int .i64 b_0, .slice b_1_a b_1_l b_1_c])] w R = F_ref19_Same a_0 a_1_a a_1_l a_1_c b_0 b_1_a b_1_l b_1_c w R := by kernel_rfl
theorem F_ref19_Same_ok {R : Ending → World → Prop} (a_0 : Int) (a_1_a : Option Addr) (a_1_l a_1_c : Nat) (b_0 : Int) (b_1_a : Option Addr) (b_1_l b_1_c : Nat) (w : World) (h : F_ref19_Same a_0 a_1_a a_1_l a_1_c b_0 b_1_a b_1_l b_1_c w fun v w' => R (.returned v) w') : Calls Tryz.prog N_ref19_Same #[(.agg #[.int .i64 a_0, .slice a_1_a a_1_l a_1_c]), (.agg #[.int .i64 b_0, .slice b_1_a b_1_l b_1_c])] w R :=
 calls_of (f := 24) follows_ok Tryz.func24 (Eq.mpr (F_ref19_Same_eq a_0 a_1_a a_1_l a_1_c b_0 b_1_a b_1_l b_1_c w _) h)

def h_receiver_Tick : H := (.seq .reg (.seq (.seq .reg (.cond (.seq .reg .leaf) .leaf)) (.seq .reg (.seq .reg (.seq (.seq .reg (.cond (.seq .reg .leaf) .leaf)) (.cut [] [32, 33, 34, 35, 36, 37, 38, 39, 40, 41, 42, 43, 44, 45, 46, 47, 48, 49, 50, 51, 52, 53, 54, 55, 56, 57, 58, 59, 60, 61, 62, 63, 64, 65, 66, 67, 68, 69, 70, 71, 72, 73, 74, 75, 76, 77, 78, 79, 80] (.seq .reg (.seq .reg (.cond (.seq (.seq (.draw .blk (.one 0 .pre (.one 1 .pre (.one 2 .pre (.one 3 .pre (.one 4 .pre (.one 5 .pre (.one 7 .stable (.one 8 .stable (.one 9 .stable (.one 10 .stable (.one 11 .stable (.one 12 .stable (.one 6 .keep (.one 13 .keep (.one 14 .stable .nil)))))))))))))))) (.cond .reg .leaf)) (.seq .reg .reg)) .leaf))) (.seq .reg .leaf)))))))
def F_receiver_Tick (r_0 r_1 r_2 r_3 r_4 r_5 r_6 r_7 r_8 r_9 r_10 r_11 : Int) (r_12 : Bool) (r_13_a : OA) (r_13_l r_13_c : Nat) (w : World) (R : Value → WP) : Prop :=
 (kAlloc w #[(Iv r_0), (Iv r_1), (Iv r_2), (Iv r_3), (Iv r_4), (Iv r_5), (Iv r_6), (Iv r_7), (Iv r_8), (Iv r_9), (Iv r_10), (Iv r_11), (.bool r_12), (.slice r_13_a r_13_l r_13_c)] Ty_api_Receiver fun b w1 =>
 (kAlloc w1 #[Iv (0 : Int), Iv (0 : Int), Iv (0 : Int), Iv (0 : Int), Iv (0 : Int), Iv (0 : Int), Iv (0 : Int), Iv (0 : Int), Iv (0 : Int), Iv (0 : Int), Iv (0 : Int), Iv (0 : Int), .bool false, .slice none 0 0] Ty_api_Receiver fun b1 w2 =>
 (∃ x_0 x_1 x_2 x_3 x_4 x_5 x_6 x_7 x_8 x_9 x_10 x_11 : Int, ∃ x_12 : Bool, ∃ x_13_a : OA, ∃ x_13_l x_13_c : Nat, cellsAt w2 ⟨b, 0, none⟩ 0 [(Iv x_0), (Iv x_1), (Iv x_2), (Iv x_3), (Iv x_4), (Iv x_5), (Iv x_6), (Iv x_7), (Iv x_8), (Iv x_9), (Iv x_10), (Iv x_11), (.bool x_12), (.slice x_13_a x_13_l x_13_c)] ∧
 (CP N_receiver_Valid #[(.agg #[Iv x_0, Iv x_1, Iv x_2, Iv x_3, Iv x_4, Iv x_5, Iv x_6, Iv x_7, Iv x_8, Iv x_9, Iv x_10, Iv x_11, .bool x_12, .slice x_13_a x_13_l x_13_c])] w2 fun e_ w3 =>
 ∃ r : Bool, e_ = .returned (.bool r) ∧
 (bsplit (!r)
 ((sxStore w3 ⟨b1, 0, none⟩ 0 [(Iv (0 : Int)), (Iv (0 : Int)), (Iv (0 : Int)), (Iv (0 : Int)), (Iv (0 : Int)), (Iv (0 : Int)), (Iv (0 : Int)), (Iv (0 : Int)), (Iv (0 : Int)), (Iv (0 : Int)), (Iv (0 : Int)), (Iv (0 : Int)), (.bool false), (.slice none 0 0)] fun w4 =>
 (∃ r_01 r_13 r_21 r_31 r_41 r_51 r_61 r_71 r_81 r_91 r_101 r_111 : Int, ∃ r_121 : Bool, ∃ r_13_a1 : OA, ∃ r_13_l1 r_13_c1 : Nat, cellsAt w4 ⟨b1, 0, none⟩ 0 [(Iv r_01), (Iv r_13), (Iv r_21), (Iv r_31), (Iv r_41), (Iv r_51), (Iv r_61), (Iv r_71), (Iv r_81), (Iv r_91), (Iv r_101), (Iv r_111), (.bool r_121), (.slice r_13_a1 r_13_l1 r_13_c1)] ∧
 R (.tuple #[(.agg #[Iv r_01, Iv r_13, Iv r_21, Iv r_31, Iv r_41, Iv r_51, Iv r_61, Iv r_71, Iv r_81, Iv r_91, Iv r_101, Iv r_111, .bool r_121, .slice r_13_a1 r_13_l1 r_13_c1]), (Iv (1 : Int))]) w4)))
 ((∃ x_01 x_13 x_21 x_31 x_41 x_51 x_61 x_71 x_81 x_91 x_101 x_111 : Int, ∃ x_121 : Bool, ∃ x_13_a1 : OA, ∃ x_13_l1 x_13_c1 : Nat, cellsAt w3 ⟨b, 0, none⟩ 0 [(Iv x_01), (Iv x_13), (Iv x_21), (Iv x_31), (Iv x_41), (Iv x_51), (Iv x_61), (Iv x_71), (Iv x_81), (Iv x_91), (Iv x_101), (Iv x_111), (.bool x_121), (.slice x_13_a1 x_13_l1 x_13_c1)] ∧
 (CP N_receiver_begin #[(.agg #[Iv x_01, Iv x_13, Iv x_21, Iv x_31, Iv x_41, Iv x_51, Iv x_61, Iv x_71, Iv x_81, Iv x_91, Iv x_101, Iv x_111, .bool x_121, .slice x_13_a1 x_13_l1 x_13_c1])] w3 fun e_1 w5 =>
 ∃ r1 : OA, e_1 = .returned (.pointer r1) ∧
 (kNil r1 fun x =>
 (kLd w5 (x.add 11) .i64 fun x1 =>
 (kW .i64 (x1 - (1 : Int)) fun x2 =>
 (kNil r1 fun x3 =>
 (kSet w5 (x3.add 11) (Iv (if x2 > (0 : Int) then x2 else (0 : Int))) fun w6 =>
 (kNil r1 fun x4 =>
 (kLd w6 (x4.add 10) .i64 fun x5 =>
 (bsplit (decide (x5 = (0 : Int)))
 ((kNil r1 fun x6 =>
 (∃ x_02 x_14 x_22 x_32 x_42 x_52 x_62 x_72 x_82 x_92 x_102 x_112 : Int, ∃ x_122 : Bool, ∃ x_13_a2 : OA, ∃ x_13_l2 x_13_c2 : Nat, cellsAt w6 x6 0 [(Iv x_02), (Iv x_14), (Iv x_22), (Iv x_32), (Iv x_42), (Iv x_52), (Iv x_62), (Iv x_72), (Iv x_82), (Iv x_92), (Iv x_102), (Iv x_112), (.bool x_122), (.slice x_13_a2 x_13_l2 x_13_c2)] ∧
 (sxStore w6 ⟨b1, 0, none⟩ 0 [(Iv x_02), (Iv x_14), (Iv x_22), (Iv x_32), (Iv x_42), (Iv x_52), (Iv x_62), (Iv x_72), (Iv x_82), (Iv x_92), (Iv x_102), (Iv x_112), (.bool x_122), (.slice x_13_a2 x_13_l2 x_13_c2)] fun w7 =>
 (∃ r_02 r_14 r_22 r_32 r_42 r_52 r_62 r_72 r_82 r_92 r_102 r_112 : Int, ∃ r_122 : Bool, ∃ r_13_a2 : OA, ∃ r_13_l2 r_13_c2 : Nat, cellsAt w7 ⟨b1, 0, none⟩ 0 [(Iv r_02), (Iv r_14), (Iv r_22), (Iv r_32), (Iv r_42), (Iv r_52), (Iv r_62), (Iv r_72), (Iv r_82), (Iv r_92), (Iv r_102), (Iv r_112), (.bool r_122), (.slice r_13_a2 r_13_l2 r_13_c2)] ∧
 R (.tuple #[(.agg #[Iv r_02, Iv r_14, Iv r_22, Iv r_32, Iv r_42, Iv r_52, Iv r_62, Iv r_72, Iv r_82, Iv r_92, Iv r_102, Iv r_112, .bool r_122, .slice r_13_a2 r_13_l2 r_13_c2]), (Iv (0 : Int))]) w7)))))
 ((∃ J : WP,
 (∀ (_ : Env)  (w19 : World), J w19 →
 (kNil r1 fun x24 =>
 (∃ x_03 x_15 x_23 x_33 x_43 x_53 x_63 x_73 x_83 x_93 x_103 x_113 : Int, ∃ x_123 : Bool, ∃ x_13_a3 : OA, ∃ x_13_l3 x_13_c3 : Nat, cellsAt w19 x24 0 [(Iv x_03), (Iv x_15), (Iv x_23), (Iv x_33), (Iv x_43), (Iv x_53), (Iv x_63), (Iv x_73), (Iv x_83), (Iv x_93), (Iv x_103), (Iv x_113), (.bool x_123), (.slice x_13_a3 x_13_l3 x_13_c3)] ∧
 (sxStore w19 ⟨b1, 0, none⟩ 0 [(Iv x_03), (Iv x_15), (Iv x_23), (Iv x_33), (Iv x_43), (Iv x_53), (Iv x_63), (Iv x_73), (Iv x_83), (Iv x_93), (Iv x_103), (Iv x_113), (.bool x_123), (.slice x_13_a3 x_13_l3 x_13_c3)] fun w20 =>
 (∃ r_03 r_15 r_23 r_33 r_43 r_53 r_63 r_73 r_83 r_93 r_103 r_113 : Int, ∃ r_123 : Bool, ∃ r_13_a3 : OA, ∃ r_13_l3 r_13_c3 : Nat, cellsAt w20 ⟨b1, 0, none⟩ 0 [(Iv r_03), (Iv r_15), (Iv r_23), (Iv r_33), (Iv r_43), (Iv r_53), (Iv r_63), (Iv r_73), (Iv r_83), (Iv r_93), (Iv r_103), (Iv r_113), (.bool r_123), (.slice r_13_a3 r_13_l3 r_13_c3)] ∧
 R (.tuple #[(.agg #[Iv r_03, Iv r_15, Iv r_23, Iv r_33, Iv r_43, Iv r_53, Iv r_63, Iv r_73, Iv r_83, Iv r_93, Iv r_103, Iv r_113, .bool r_123, .slice r_13_a3 r_13_l3 r_13_c3]), (Iv (0 : Int))]) w20))))) ∧
 (kNil r1 fun x7 =>
 (kLd w6 (x7.add 10) .i64 fun x8 =>
 (kW .i64 (x8 - (1 : Int)) fun x9 =>
 (kNil r1 fun x10 =>
 (kSet w6 (x10.add 10) (Iv x9) fun w8 =>
 (kNil r1 fun x11 =>
 (kLd w8 (x11.add 10) .i64 fun x12 =>
 (bsplit (decide (x12 = (0 : Int)))
 ((kDrew w8 fun w9 =>
 (∃ S : Nat → Prop,
 (kNil r1 fun x13 =>
 (kLd w9 (x13.add 9) .i64 fun x14 =>
 (kNil r1 fun x15 =>
 (S (x15.add 8).block ∧
 (kLd w9 (x15.add 8) .i64 fun x16 =>
 (CP N_receiver_side_place #[(.pointer r1), (Iv x14)] w9 fun e_2 w10 =>
 ∃ r2 : Int, e_2 = .returned (Iv r2) ∧
 (KeepsB S w9 w10 ∧ (CP N_receiver_side_place #[(.pointer r1), (Iv x16)] w10 fun e_3 w11 =>
 ∃ r3 : Int, e_3 = .returned (Iv r3) ∧
 (KeepsB S w9 w11 ∧ (bsplit (decide (r2 > r3))
 ((kNil r1 fun x17 =>
 (kLd w11 (x17.add 9) .i64 fun x18 =>
 (kNil r1 fun x19 =>
 (kSet w11 (x19.add 8) (Iv x18) fun w12 =>
 (kNil r1 fun x20 =>
 (kSet w12 (x20.add 12) (.bool true) fun w13 =>
 (kNil r1 fun x21 =>
 (kSet w13 (x21.add 9) (Iv (-1 : Int)) fun w14 =>
 (CP N_receiver_side_start #[(.pointer r1)] w14 fun e_4 w15 =>
 e_4 = .returned (.tuple #[]) ∧
 J w15))))))))))
 ((kNil r1 fun x22 =>
 (kSet w11 (x22.add 12) (.bool true) fun w16 =>
 (kNil r1 fun x23 =>
 (kSet w16 (x23.add 9) (Iv (-1 : Int)) fun w17 =>
 (CP N_receiver_side_start #[(.pointer r1)] w17 fun e_5 w18 =>
 e_5 = .returned (.tuple #[]) ∧
 J w18)))))))))))))))))))
 (J w8)))))))))))))))))))))))))))
theorem F_receiver_Tick_eq (r_0 r_1 r_2 r_3 r_4 r_5 r_6 r_7 r_8 r_9 r_10 r_11 : Int) (r_12 : Bool) (r_13_a : Option Addr) (r_13_l r_13_c : Nat) (w : World) (R : Value → World → Prop) : sxFn Tryz.prog TT h_receiver_Tick Tryz.f25 #[(.agg #[.int .i64 r_0, .int .i64 r_1, .int .i64 r_2, .int .i64 r_3, .int .i64 r_4, .int .i64 r_5, .int .i64 r_6, .int .i64 r_7, .int .i64 r_8, .int .i64 r_9, .int .i64 r_10, .int .i64 r_11, .bool r_12, .slice r_13_a r_13_l r_13_c])] w R = F_receiver_Tick r_0 r_1 r_2 r_3 r_4 r_5 r_6 r_7 r_8 r_9 r_10 r_11 r_12 r_13_a r_13_l r_13_c w R := by kernel_rfl
theorem F_receiver_Tick_ok {R : Ending → World → Prop} (r_0 r_1 r_2 r_3 r_4 r_5 r_6 r_7 r_8 r_9 r_10 r_11 : Int) (r_12 : Bool) (r_13_a : Option Addr) (r_13_l r_13_c : Nat) (w : World) (h : F_receiver_Tick r_0 r_1 r_2 r_3 r_4 r_5 r_6 r_7 r_8 r_9 r_10 r_11 r_12 r_13_a r_13_l r_13_c w fun v w' => R (.returned v) w') : Calls Tryz.prog N_receiver_Tick #[(.agg #[.int .i64 r_0, .int .i64 r_1, .int .i64 r_2, .int .i64 r_3, .int .i64 r_4, .int .i64 r_5, .int .i64 r_6, .int .i64 r_7, .int .i64 r_8, .int .i64 r_9, .int .i64 r_10, .int .i64 r_11, .bool r_12, .slice r_13_a r_13_l r_13_c])] w R :=
 calls_of (f := 25) follows_ok Tryz.func25 (Eq.mpr (F_receiver_Tick_eq r_0 r_1 r_2 r_3 r_4 r_5 r_6 r_7 r_8 r_9 r_10 r_11 r_12 r_13_a r_13_l r_13_c w _) h)

def h_receiver_Status : H := (.seq .reg (.seq (.seq .reg (.cond (.seq .reg .leaf) .leaf)) (.seq .reg (.seq .reg (.seq (.seq .reg (.block (.loop [(6, .p (.int .i64))] [6, 7, 20, 21, 22, 23, 24, 25, 26, 27, 28, 29, 30, 31, 32, 33, 34, 35, 36, 37, 38, 39, 40, 41, 42, 43] (.seq (.seq .reg (.cond .leaf .leaf)) (.seq (.block (.seq .reg (.seq (.seq .reg (.cond (.seq .reg .leaf) .leaf)) .reg))) .reg))))) (.seq .reg .leaf))))))
def F_receiver_Status (r_0 r_1 r_2 r_3 r_4 r_5 r_6 r_7 r_8 r_9 r_10 r_11 : Int) (r_12 : Bool) (r_13_a : OA) (r_13_l r_13_c : Nat) (w : World) (R : Value → WP) : Prop :=
 (kAlloc w #[(Iv r_0), (Iv r_1), (Iv r_2), (Iv r_3), (Iv r_4), (Iv r_5), (Iv r_6), (Iv r_7), (Iv r_8), (Iv r_9), (Iv r_10), (Iv r_11), (.bool r_12), (.slice r_13_a r_13_l r_13_c)] Ty_api_Receiver fun b w1 =>
 (kAlloc w1 #[Iv (0 : Int), .slice none 0 0] Ty_api_Status fun b1 w2 =>
 (∃ x_0 x_1 x_2 x_3 x_4 x_5 x_6 x_7 x_8 x_9 x_10 x_11 : Int, ∃ x_12 : Bool, ∃ x_13_a : OA, ∃ x_13_l x_13_c : Nat, cellsAt w2 ⟨b, 0, none⟩ 0 [(Iv x_0), (Iv x_1), (Iv x_2), (Iv x_3), (Iv x_4), (Iv x_5), (Iv x_6), (Iv x_7), (Iv x_8), (Iv x_9), (Iv x_10), (Iv x_11), (.bool x_12), (.slice x_13_a x_13_l x_13_c)] ∧
 (CP N_receiver_Valid #[(.agg #[Iv x_0, Iv x_1, Iv x_2, Iv x_3, Iv x_4, Iv x_5, Iv x_6, Iv x_7, Iv x_8, Iv x_9, Iv x_10, Iv x_11, .bool x_12, .slice x_13_a x_13_l x_13_c])] w2 fun e_ w3 =>
 ∃ r : Bool, e_ = .returned (.bool r) ∧
 (bsplit (!r)
 ((sxStore w3 ⟨b1, 0, none⟩ 0 [(Iv (0 : Int)), (.slice none 0 0)] fun w4 =>
 (∃ r_01 : Int, ∃ r_1_a : OA, ∃ r_1_l r_1_c : Nat, cellsAt w4 ⟨b1, 0, none⟩ 0 [(Iv r_01), (.slice r_1_a r_1_l r_1_c)] ∧
 R (.tuple #[(.agg #[Iv r_01, .slice r_1_a r_1_l r_1_c]), (Iv (1 : Int))]) w4)))
 ((∃ x_01 x_13 x_21 x_31 x_41 x_51 x_61 x_71 x_81 x_91 x_101 x_111 : Int, ∃ x_121 : Bool, ∃ x_13_a1 : OA, ∃ x_13_l1 x_13_c1 : Nat, cellsAt w3 ⟨b, 0, none⟩ 0 [(Iv x_01), (Iv x_13), (Iv x_21), (Iv x_31), (Iv x_41), (Iv x_51), (Iv x_61), (Iv x_71), (Iv x_81), (Iv x_91), (Iv x_101), (Iv x_111), (.bool x_121), (.slice x_13_a1 x_13_l1 x_13_c1)] ∧
 (kAlloc w3 #[(Iv x_01), (Iv x_13), (Iv x_21), (Iv x_31), (Iv x_41), (Iv x_51), (Iv x_61), (Iv x_71), (Iv x_81), (Iv x_91), (Iv x_101), (Iv x_111), (.bool x_121), (.slice x_13_a1 x_13_l1 x_13_c1)] Ty_receiver_side fun b2 w5 =>
 (kLd w5 ⟨b, 8, none⟩ .i64 fun x =>
 (kAlloc w5 #[Iv (0 : Int), .slice none 0 0] Ty_api_Status fun b3 w6 =>
 (sxStore w6 ⟨b3, 0, none⟩ 0 [(Iv x), (.slice none 0 0)] fun w7 =>
 (kLd w7 ⟨b, 6, none⟩ .i64 fun x1 =>
 (∃ I : Int → Nat × (WP), (I x1).2 w7 ∧
 (∀ (_ : Env) (n : Int) (w8 : World), (I n).2 w8 →
 (kLd w8 ⟨b, 8, none⟩ .i64 fun x2 =>
 (bsplit (!decide (n = x2))
 ((CP N_receiver_side_missing #[(.pointer (some ⟨b2, 0, none⟩)), (Iv n)] w8 fun e_1 w9 =>
 ∃ r_a : OA, ∃ r_l r_c : Nat, e_1 = .returned (.slice r_a r_l r_c) ∧
 (kLdS w9 ⟨b3, 1, none⟩ fun _ x_l _ =>
 (kW .i64 ((x_l : Int) + (r_l : Int)) fun x3 =>
 (bsplit (decide (x3 > (64 : Int)))
 ((kSet w9 ⟨b3, 0, none⟩ (Iv n) fun w10 =>
 (∃ x_02 : Int, ∃ x_1_a : OA, ∃ x_1_l x_1_c : Nat, cellsAt w10 ⟨b3, 0, none⟩ 0 [(Iv x_02), (.slice x_1_a x_1_l x_1_c)] ∧
 (sxStore w10 ⟨b1, 0, none⟩ 0 [(Iv x_02), (.slice x_1_a x_1_l x_1_c)] fun w11 =>
 (∃ r_02 : Int, ∃ r_1_a1 : OA, ∃ r_1_l1 r_1_c1 : Nat, cellsAt w11 ⟨b1, 0, none⟩ 0 [(Iv r_02), (.slice r_1_a1 r_1_l1 r_1_c1)] ∧
 R (.tuple #[(.agg #[Iv r_02, .slice r_1_a1 r_1_l1 r_1_c1]), (Iv (0 : Int))]) w11)))))
 ((kLdS w9 ⟨b3, 1, none⟩ fun x_a1 x_l1 x_c1 =>
 (AppP Tryz.prog #[Ty_S_api_Range, Ty_S_api_Range] Ty_S_api_Range #[(.slice x_a1 x_l1 x_c1), (.slice r_a r_l r_c)] w9 fun x_a2 x_l2 x_c2 w12 =>
 (kSet w12 ⟨b3, 1, none⟩ (.slice x_a2 x_l2 x_c2) fun w13 =>
 (CP N_receiver_side_behind #[(.pointer (some ⟨b2, 0, none⟩)), (Iv n)] w13 fun e_2 w14 =>
 ∃ r1 : Int, e_2 = .returned (Iv r1) ∧
 ((I r1).2 w14 ∧ (I r1).1 < (I n).1)))))))))))
 ((∃ x_03 : Int, ∃ x_1_a1 : OA, ∃ x_1_l1 x_1_c1 : Nat, cellsAt w8 ⟨b3, 0, none⟩ 0 [(Iv x_03), (.slice x_1_a1 x_1_l1 x_1_c1)] ∧
 (sxStore w8 ⟨b1, 0, none⟩ 0 [(Iv x_03), (.slice x_1_a1 x_1_l1 x_1_c1)] fun w15 =>
 (∃ r_03 : Int, ∃ r_1_a2 : OA, ∃ r_1_l2 r_1_c2 : Nat, cellsAt w15 ⟨b1, 0, none⟩ 0 [(Iv r_03), (.slice r_1_a2 r_1_l2 r_1_c2)] ∧
 R (.tuple #[(.agg #[Iv r_03, .slice r_1_a2 r_1_l2 r_1_c2]), (Iv (0 : Int))]) w15))))))))))))))))))))
theorem F_receiver_Status_eq (r_0 r_1 r_2 r_3 r_4 r_5 r_6 r_7 r_8 r_9 r_10 r_11 : Int) (r_12 : Bool) (r_13_a : Option Addr) (r_13_l r_13_c : Nat) (w : World) (R : Value → World → Prop) : sxFn Tryz.prog TT h_receiver_Status Tryz.f26 #[(.agg #[.int .i64 r_0, .int .i64 r_1, .int .i64 r_2, .int .i64 r_3, .int .i64 r_4, .int .i64 r_5, .int .i64 r_6, .int .i64 r_7, .int .i64 r_8, .int .i64 r_9, .int .i64 r_10, .int .i64 r_11, .bool r_12, .slice r_13_a r_13_l r_13_c])] w R = F_receiver_Status r_0 r_1 r_2 r_3 r_4 r_5 r_6 r_7 r_8 r_9 r_10 r_11 r_12 r_13_a r_13_l r_13_c w R := by kernel_rfl
theorem F_receiver_Status_ok {R : Ending → World → Prop} (r_0 r_1 r_2 r_3 r_4 r_5 r_6 r_7 r_8 r_9 r_10 r_11 : Int) (r_12 : Bool) (r_13_a : Option Addr) (r_13_l r_13_c : Nat) (w : World) (h : F_receiver_Status r_0 r_1 r_2 r_3 r_4 r_5 r_6 r_7 r_8 r_9 r_10 r_11 r_12 r_13_a r_13_l r_13_c w fun v w' => R (.returned v) w') : Calls Tryz.prog N_receiver_Status #[(.agg #[.int .i64 r_0, .int .i64 r_1, .int .i64 r_2, .int .i64 r_3, .int .i64 r_4, .int .i64 r_5, .int .i64 r_6, .int .i64 r_7, .int .i64 r_8, .int .i64 r_9, .int .i64 r_10, .int .i64 r_11, .bool r_12, .slice r_13_a r_13_l r_13_c])] w R :=
 calls_of (f := 26) follows_ok Tryz.func26 (Eq.mpr (F_receiver_Status_eq r_0 r_1 r_2 r_3 r_4 r_5 r_6 r_7 r_8 r_9 r_10 r_11 r_12 r_13_a r_13_l r_13_c w _) h)

end Go.Proofs.YthceaojjeokclaaGreat
