import Derived.Test.YthceaojjeokclaaBase
import Derived.KernelRfl
namespace Go.Proofs.Ythceaojjeokclaa
open Go.Sx Go.RowKit
set_option maxRecDepth 100000

def h_made_Light : H := (.seq .reg (.seq .reg .leaf))
def F_made_Light (_ : Option Addr) (t_l : Nat) (_ : Nat) (w : World) (R : Value → World → Prop) : Prop :=
  (kLet (decide ((t_l : Int) ≤ (400 : Int))) fun x =>
  R (.bool x) w)
theorem F_made_Light_eq (t_a : Option Addr) (t_l : Nat) (t_c : Nat) (w : World) (R : Value → World → Prop) : sxFn Try.prog TT h_made_Light Try.f5 #[(.slice t_a t_l t_c)] w R = F_made_Light t_a t_l t_c w R := by kernel_rfl
theorem F_made_Light_ok {R : Ending → World → Prop} (t_a : Option Addr) (t_l : Nat) (t_c : Nat) (w : World) (h : F_made_Light t_a t_l t_c w fun v w' => R (.returned v) w') : Calls Try.prog N_made_Light #[(.slice t_a t_l t_c)] w R :=
  calls_of (f := 5) follows_ok Try.func5 (Eq.mpr (F_made_Light_eq t_a t_l t_c w _) h)

def h_law21_awake : H := (.seq .reg (.seq .reg (.seq .reg (.seq .reg (.seq .reg (.seq .reg (.seq .reg (.seq .reg .leaf))))))))
def F_law21_awake  (w : World) (R : Value → World → Prop) : Prop :=
  (Calls Try.prog N_receiver_New #[(.agg #[.int .i64 (5 : Int), .int .i64 (4 : Int), .int .i64 (3 : Int), .int .i64 (3 : Int), .int .i64 (0 : Int), .int .i64 (4 : Int)])] w fun e_ w1 =>
  ∃ r_0 r_1 r_2 r_3 r_4 r_5 r_6 r_7 r_8 r_9 r_10 r_11 : Int, ∃ r_12 : Bool, ∃ r_13_a : Option Addr, ∃ r_13_l r_13_c : Nat, ∃ r : Int, e_ = .returned (.tuple #[(.agg #[.int .i64 r_0, .int .i64 r_1, .int .i64 r_2, .int .i64 r_3, .int .i64 r_4, .int .i64 r_5, .int .i64 r_6, .int .i64 r_7, .int .i64 r_8, .int .i64 r_9, .int .i64 r_10, .int .i64 r_11, .bool r_12, .slice r_13_a r_13_l r_13_c]), (.int .i64 r)]) ∧
  (kAlloc w1 #[.int .i64 (0 : Int), .int .i64 (0 : Int), .int .i64 (0 : Int), .int .i64 (0 : Int), .int .i64 (0 : Int), .int .i64 (0 : Int), .int .i64 (0 : Int), .int .i64 (0 : Int), .int .i64 (0 : Int), .int .i64 (0 : Int), .int .i64 (0 : Int), .int .i64 (0 : Int), .bool false, .slice none 0 0] Ty_api_Receiver fun b w2 =>
  (sxStore w2 ⟨b, 0, none⟩ 0 [(.int .i64 r_0), (.int .i64 r_1), (.int .i64 r_2), (.int .i64 r_3), (.int .i64 r_4), (.int .i64 r_5), (.int .i64 r_6), (.int .i64 r_7), (.int .i64 r_8), (.int .i64 r_9), (.int .i64 r_10), (.int .i64 r_11), (.bool r_12), (.slice r_13_a r_13_l r_13_c)] fun w3 =>
  (kAlloc w3 #[(.int .u8 (3 : Int))] Ty_uint8 fun b1 w4 =>
  (Calls Try.prog N_ref18_Encode #[(.int .i64 (5 : Int)), (.agg #[.int .i64 (0 : Int), .int .i64 (2 : Int), .int .i64 (1 : Int), .int .i64 (2 : Int), .slice (some ⟨b1, 0, none⟩) 1 1])] w4 fun e_1 w5 =>
  ∃ r_a : Option Addr, ∃ r_l r_c : Nat, ∃ r1 : Int, e_1 = .returned (.tuple #[(.slice r_a r_l r_c), (.int .i64 r1)]) ∧
  (kAlloc w5 #[(.int .u8 (1 : Int)), (.int .u8 (2 : Int))] Ty_uint8 fun b2 w6 =>
  (Calls Try.prog N_ref18_Encode #[(.int .i64 (5 : Int)), (.agg #[.int .i64 (0 : Int), .int .i64 (1 : Int), .int .i64 (0 : Int), .int .i64 (0 : Int), .slice (some ⟨b2, 0, none⟩) 2 2])] w6 fun e_2 w7 =>
  ∃ r_a1 : Option Addr, ∃ r_l1 r_c1 : Nat, ∃ r2 : Int, e_2 = .returned (.tuple #[(.slice r_a1 r_l1 r_c1), (.int .i64 r2)]) ∧
  (∃ x_0 x_1 x_2 x_3 x_4 x_5 x_6 x_7 x_8 x_9 x_10 x_11 : Int, ∃ x_12 : Bool, ∃ x_13_a : Option Addr, ∃ x_13_l x_13_c : Nat, cellsAt w7 ⟨b, 0, none⟩ 0 [(.int .i64 x_0), (.int .i64 x_1), (.int .i64 x_2), (.int .i64 x_3), (.int .i64 x_4), (.int .i64 x_5), (.int .i64 x_6), (.int .i64 x_7), (.int .i64 x_8), (.int .i64 x_9), (.int .i64 x_10), (.int .i64 x_11), (.bool x_12), (.slice x_13_a x_13_l x_13_c)] ∧
  (Calls Try.prog N_receiver_Receive #[(.agg #[.int .i64 x_0, .int .i64 x_1, .int .i64 x_2, .int .i64 x_3, .int .i64 x_4, .int .i64 x_5, .int .i64 x_6, .int .i64 x_7, .int .i64 x_8, .int .i64 x_9, .int .i64 x_10, .int .i64 x_11, .bool x_12, .slice x_13_a x_13_l x_13_c]), (.slice r_a r_l r_c)] w7 fun e_3 w8 =>
  ∃ r_01 r_13 r_21 r_31 r_41 r_51 r_61 r_71 r_81 r_91 r_101 r_111 : Int, ∃ r_121 : Bool, ∃ r_13_a1 : Option Addr, ∃ r_13_l1 r_13_c1 : Nat, ∃ r_a2 : Option Addr, ∃ r_l2 r_c2 : Nat, ∃ r3 : Int, e_3 = .returned (.tuple #[(.agg #[.int .i64 r_01, .int .i64 r_13, .int .i64 r_21, .int .i64 r_31, .int .i64 r_41, .int .i64 r_51, .int .i64 r_61, .int .i64 r_71, .int .i64 r_81, .int .i64 r_91, .int .i64 r_101, .int .i64 r_111, .bool r_121, .slice r_13_a1 r_13_l1 r_13_c1]), (.slice r_a2 r_l2 r_c2), (.int .i64 r3)]) ∧
  (sxStore w8 ⟨b, 0, none⟩ 0 [(.int .i64 r_01), (.int .i64 r_13), (.int .i64 r_21), (.int .i64 r_31), (.int .i64 r_41), (.int .i64 r_51), (.int .i64 r_61), (.int .i64 r_71), (.int .i64 r_81), (.int .i64 r_91), (.int .i64 r_101), (.int .i64 r_111), (.bool r_121), (.slice r_13_a1 r_13_l1 r_13_c1)] fun w9 =>
  (∃ x_01 x_13 x_21 x_31 x_41 x_51 x_61 x_71 x_81 x_91 x_101 x_111 : Int, ∃ x_121 : Bool, ∃ x_13_a1 : Option Addr, ∃ x_13_l1 x_13_c1 : Nat, cellsAt w9 ⟨b, 0, none⟩ 0 [(.int .i64 x_01), (.int .i64 x_13), (.int .i64 x_21), (.int .i64 x_31), (.int .i64 x_41), (.int .i64 x_51), (.int .i64 x_61), (.int .i64 x_71), (.int .i64 x_81), (.int .i64 x_91), (.int .i64 x_101), (.int .i64 x_111), (.bool x_121), (.slice x_13_a1 x_13_l1 x_13_c1)] ∧
  (Calls Try.prog N_receiver_Status #[(.agg #[.int .i64 x_01, .int .i64 x_13, .int .i64 x_21, .int .i64 x_31, .int .i64 x_41, .int .i64 x_51, .int .i64 x_61, .int .i64 x_71, .int .i64 x_81, .int .i64 x_91, .int .i64 x_101, .int .i64 x_111, .bool x_121, .slice x_13_a1 x_13_l1 x_13_c1])] w9 fun e_4 w10 =>
  ∃ r_02 : Int, ∃ r_1_a : Option Addr, ∃ r_1_l r_1_c : Nat, ∃ r4 : Int, e_4 = .returned (.tuple #[(.agg #[.int .i64 r_02, .slice r_1_a r_1_l r_1_c]), (.int .i64 r4)]) ∧
  (kAlloc w10 #[.int .i64 (0 : Int), .slice none 0 0] Ty_api_Status fun b3 w11 =>
  (sxStore w11 ⟨b3, 0, none⟩ 0 [(.int .i64 r_02), (.slice r_1_a r_1_l r_1_c)] fun w12 =>
  (∃ x_02 x_14 x_22 x_32 x_42 x_52 x_62 x_72 x_82 x_92 x_102 x_112 : Int, ∃ x_122 : Bool, ∃ x_13_a2 : Option Addr, ∃ x_13_l2 x_13_c2 : Nat, cellsAt w12 ⟨b, 0, none⟩ 0 [(.int .i64 x_02), (.int .i64 x_14), (.int .i64 x_22), (.int .i64 x_32), (.int .i64 x_42), (.int .i64 x_52), (.int .i64 x_62), (.int .i64 x_72), (.int .i64 x_82), (.int .i64 x_92), (.int .i64 x_102), (.int .i64 x_112), (.bool x_122), (.slice x_13_a2 x_13_l2 x_13_c2)] ∧
  (Calls Try.prog N_receiver_Receive #[(.agg #[.int .i64 x_02, .int .i64 x_14, .int .i64 x_22, .int .i64 x_32, .int .i64 x_42, .int .i64 x_52, .int .i64 x_62, .int .i64 x_72, .int .i64 x_82, .int .i64 x_92, .int .i64 x_102, .int .i64 x_112, .bool x_122, .slice x_13_a2 x_13_l2 x_13_c2]), (.slice r_a1 r_l1 r_c1)] w12 fun e_5 w13 =>
  ∃ r_03 r_14 r_22 r_32 r_42 r_52 r_62 r_72 r_82 r_92 r_102 r_112 : Int, ∃ r_122 : Bool, ∃ r_13_a2 : Option Addr, ∃ r_13_l2 r_13_c2 : Nat, ∃ r_a3 : Option Addr, ∃ r_l3 r_c3 : Nat, ∃ r5 : Int, e_5 = .returned (.tuple #[(.agg #[.int .i64 r_03, .int .i64 r_14, .int .i64 r_22, .int .i64 r_32, .int .i64 r_42, .int .i64 r_52, .int .i64 r_62, .int .i64 r_72, .int .i64 r_82, .int .i64 r_92, .int .i64 r_102, .int .i64 r_112, .bool r_122, .slice r_13_a2 r_13_l2 r_13_c2]), (.slice r_a3 r_l3 r_c3), (.int .i64 r5)]) ∧
  (sxStore w13 ⟨b, 0, none⟩ 0 [(.int .i64 r_03), (.int .i64 r_14), (.int .i64 r_22), (.int .i64 r_32), (.int .i64 r_42), (.int .i64 r_52), (.int .i64 r_62), (.int .i64 r_72), (.int .i64 r_82), (.int .i64 r_92), (.int .i64 r_102), (.int .i64 r_112), (.bool r_122), (.slice r_13_a2 r_13_l2 r_13_c2)] fun w14 =>
  (bsplit (decide (r = (0 : Int)))
    ((bsplit (decide (r3 = (0 : Int)))
      ((bsplit (decide (r4 = (0 : Int)))
        ((bsplit (decide (r5 = (0 : Int)))
          ((bsplit (decide ((r_l2 : Int) = (0 : Int)))
            ((kLdS w14 ⟨b3, 1, none⟩ fun _ x_l _ =>
            (bsplit (decide ((x_l : Int) = (1 : Int)))
              ((kLdS w14 ⟨b3, 1, none⟩ fun x_a1 x_l1 _ =>
              (kIx x_a1 x_l1 (0 : Int) fun b4 =>
              (kLd w14 ((b4.add ((0 : Int).toNat * 3)).add 2) .i64 fun x =>
              (bsplit (decide (x = (2 : Int)))
                ((kLdB w14 ⟨b, 12, none⟩ fun x1 =>
                (bsplit x1
                  ((bsplit (decide ((r_l3 : Int) = (3 : Int)))
                    ((kIx r_a3 r_l3 (2 : Int) fun b5 =>
                    (kLd w14 (b5.add ((2 : Int).toNat * 1)) .u8 fun x2 =>
                    (bsplit (decide (x2 = (3 : Int)))
                      ((kLd w14 ⟨b, 6, none⟩ .i64 fun x3 =>
                      (bsplit (decide (x3 = (1 : Int)))
                        ((∃ x_03 x_15 x_23 x_33 x_43 x_53 x_63 x_73 x_83 x_93 x_103 x_113 : Int, ∃ x_123 : Bool, ∃ x_13_a3 : Option Addr, ∃ x_13_l3 x_13_c3 : Nat, cellsAt w14 ⟨b, 0, none⟩ 0 [(.int .i64 x_03), (.int .i64 x_15), (.int .i64 x_23), (.int .i64 x_33), (.int .i64 x_43), (.int .i64 x_53), (.int .i64 x_63), (.int .i64 x_73), (.int .i64 x_83), (.int .i64 x_93), (.int .i64 x_103), (.int .i64 x_113), (.bool x_123), (.slice x_13_a3 x_13_l3 x_13_c3)] ∧
                        (Calls Try.prog N_receiver_Valid #[(.agg #[.int .i64 x_03, .int .i64 x_15, .int .i64 x_23, .int .i64 x_33, .int .i64 x_43, .int .i64 x_53, .int .i64 x_63, .int .i64 x_73, .int .i64 x_83, .int .i64 x_93, .int .i64 x_103, .int .i64 x_113, .bool x_123, .slice x_13_a3 x_13_l3 x_13_c3])] w14 fun e_6 w15 =>
                        ∃ r6 : Bool, e_6 = .returned (.bool r6) ∧
                        R (.bool r6) w15)))
                        (R (.bool false) w14))))
                      (R (.bool false) w14)))))
                    (R (.bool false) w14)))
                  (R (.bool false) w14))))
                (R (.bool false) w14))))))
              (R (.bool false) w14))))
            (R (.bool false) w14)))
          (R (.bool false) w14)))
        (R (.bool false) w14)))
      (R (.bool false) w14)))
    (R (.bool false) w14)))))))))))))))))))
theorem F_law21_awake_eq  (w : World) (R : Value → World → Prop) : sxFn Try.prog TT h_law21_awake Try.f6 #[] w R = F_law21_awake  w R := by kernel_rfl
theorem F_law21_awake_ok {R : Ending → World → Prop}  (w : World) (h : F_law21_awake  w fun v w' => R (.returned v) w') : Calls Try.prog N_law21_awake #[] w R :=
  calls_of (f := 6) follows_ok Try.func6 (Eq.mpr (F_law21_awake_eq  w _) h)

def h_made_Roll : H := (.seq .reg (.seq .reg .leaf))
def F_made_Roll (t_a : Option Addr) (t_l : Nat) (t_c : Nat) (w : World) (R : Value → World → Prop) : Prop :=
  (kAlloc w #[(.slice t_a t_l t_c), (.int .i64 (0 : Int))] Ty_radiolinkmade_Dice fun b w1 =>
  R (.pointer (some ⟨b, 0, none⟩)) w1)
theorem F_made_Roll_eq (t_a : Option Addr) (t_l : Nat) (t_c : Nat) (w : World) (R : Value → World → Prop) : sxFn Try.prog TT h_made_Roll Try.f7 #[(.slice t_a t_l t_c)] w R = F_made_Roll t_a t_l t_c w R := by kernel_rfl
theorem F_made_Roll_ok {R : Ending → World → Prop} (t_a : Option Addr) (t_l : Nat) (t_c : Nat) (w : World) (h : F_made_Roll t_a t_l t_c w fun v w' => R (.returned v) w') : Calls Try.prog N_made_Roll #[(.slice t_a t_l t_c)] w R :=
  calls_of (f := 7) follows_ok Try.func7 (Eq.mpr (F_made_Roll_eq t_a t_l t_c w _) h)

def h_made_Dice_Link : H := (.seq .reg (.seq .reg .leaf))
def F_made_Dice_Link (d_b : Nat) (d_o : Nat) (w : World) (R : Value → World → Prop) : Prop :=
  (kAlloc w #[.int .i64 (0 : Int), .int .i64 (0 : Int), .int .i64 (0 : Int), .int .i64 (0 : Int), .int .i64 (0 : Int), .int .i64 (0 : Int)] Ty_api_Link fun b w1 =>
  (Calls Try.prog N_made_Dice_Bits #[(.pointer (some ⟨d_b, d_o, none⟩))] w1 fun e_ w2 =>
  ∃ r : Int, e_ = .returned (.int .i64 r) ∧
  (Calls Try.prog N_made_Dice_Next #[(.pointer (some ⟨d_b, d_o, none⟩)), (.int .i64 (6 : Int))] w2 fun e_1 w3 =>
  ∃ r1 : Int, e_1 = .returned (.int .i64 r1) ∧
  (kW .i64 ((1 : Int) + r1) fun x =>
  (Calls Try.prog N_made_Dice_Next #[(.pointer (some ⟨d_b, d_o, none⟩)), (.int .i64 (6 : Int))] w3 fun e_2 w4 =>
  ∃ r2 : Int, e_2 = .returned (.int .i64 r2) ∧
  (kW .i64 ((1 : Int) + r2) fun x1 =>
  (Calls Try.prog N_made_Dice_Next #[(.pointer (some ⟨d_b, d_o, none⟩)), (.int .i64 (5 : Int))] w4 fun e_3 w5 =>
  ∃ r3 : Int, e_3 = .returned (.int .i64 r3) ∧
  (kW .i64 ((1 : Int) + r3) fun x2 =>
  (Calls Try.prog N_made_Dice_Next #[(.pointer (some ⟨d_b, d_o, none⟩)), (.int .i64 (3 : Int))] w5 fun e_4 w6 =>
  ∃ r4 : Int, e_4 = .returned (.int .i64 r4) ∧
  (Calls Try.prog N_made_Dice_Next #[(.pointer (some ⟨d_b, d_o, none⟩)), (.int .i64 (6 : Int))] w6 fun e_5 w7 =>
  ∃ r5 : Int, e_5 = .returned (.int .i64 r5) ∧
  (kW .i64 ((1 : Int) + r5) fun x3 =>
  (sxStore w7 ⟨b, 0, none⟩ 0 [(.int .i64 r), (.int .i64 x), (.int .i64 x1), (.int .i64 x2), (.int .i64 r4), (.int .i64 x3)] fun w8 =>
  (∃ r_0 r_1 r_2 r_3 r_4 r_5 : Int, cellsAt w8 ⟨b, 0, none⟩ 0 [(.int .i64 r_0), (.int .i64 r_1), (.int .i64 r_2), (.int .i64 r_3), (.int .i64 r_4), (.int .i64 r_5)] ∧
  R (.agg #[.int .i64 r_0, .int .i64 r_1, .int .i64 r_2, .int .i64 r_3, .int .i64 r_4, .int .i64 r_5]) w8)))))))))))))
theorem F_made_Dice_Link_eq (d_b : Nat) (d_o : Nat) (w : World) (R : Value → World → Prop) : sxFn Try.prog TT h_made_Dice_Link Try.f8 #[(.pointer (some ⟨d_b, d_o, none⟩))] w R = F_made_Dice_Link d_b d_o w R := by kernel_rfl
theorem F_made_Dice_Link_ok {R : Ending → World → Prop} (d_b : Nat) (d_o : Nat) (w : World) (h : F_made_Dice_Link d_b d_o w fun v w' => R (.returned v) w') : Calls Try.prog N_made_Dice_Link #[(.pointer (some ⟨d_b, d_o, none⟩))] w R :=
  calls_of (f := 8) follows_ok Try.func8 (Eq.mpr (F_made_Dice_Link_eq d_b d_o w _) h)

def h_receiver_New : H := (.seq .reg (.seq (.seq .reg (.cond (.seq .reg .leaf) .leaf)) (.seq .reg .leaf)))
def F_receiver_New (l_0 : Int) (l_1 : Int) (l_2 : Int) (l_3 : Int) (l_4 : Int) (l_5 : Int) (w : World) (R : Value → World → Prop) : Prop :=
  (kAlloc w #[(.int .i64 l_0), (.int .i64 l_1), (.int .i64 l_2), (.int .i64 l_3), (.int .i64 l_4), (.int .i64 l_5)] Ty_api_Link fun b w1 =>
  (kAlloc w1 #[.int .i64 (0 : Int), .int .i64 (0 : Int), .int .i64 (0 : Int), .int .i64 (0 : Int), .int .i64 (0 : Int), .int .i64 (0 : Int), .int .i64 (0 : Int), .int .i64 (0 : Int), .int .i64 (0 : Int), .int .i64 (0 : Int), .int .i64 (0 : Int), .int .i64 (0 : Int), .bool false, .slice none 0 0] Ty_api_Receiver fun b1 w2 =>
  (∃ x_0 x_1 x_2 x_3 x_4 x_5 : Int, cellsAt w2 ⟨b, 0, none⟩ 0 [(.int .i64 x_0), (.int .i64 x_1), (.int .i64 x_2), (.int .i64 x_3), (.int .i64 x_4), (.int .i64 x_5)] ∧
  (Calls Try.prog N_sender_ValidLink #[(.agg #[.int .i64 x_0, .int .i64 x_1, .int .i64 x_2, .int .i64 x_3, .int .i64 x_4, .int .i64 x_5])] w2 fun e_ w3 =>
  ∃ r : Bool, e_ = .returned (.bool r) ∧
  (bsplit (!r)
    ((sxStore w3 ⟨b1, 0, none⟩ 0 [(.int .i64 (0 : Int)), (.int .i64 (0 : Int)), (.int .i64 (0 : Int)), (.int .i64 (0 : Int)), (.int .i64 (0 : Int)), (.int .i64 (0 : Int)), (.int .i64 (0 : Int)), (.int .i64 (0 : Int)), (.int .i64 (0 : Int)), (.int .i64 (0 : Int)), (.int .i64 (0 : Int)), (.int .i64 (0 : Int)), (.bool false), (.slice none 0 0)] fun w4 =>
    (∃ r_0 r_1 r_2 r_3 r_4 r_5 r_6 r_7 r_8 r_9 r_10 r_11 : Int, ∃ r_12 : Bool, ∃ r_13_a : Option Addr, ∃ r_13_l r_13_c : Nat, cellsAt w4 ⟨b1, 0, none⟩ 0 [(.int .i64 r_0), (.int .i64 r_1), (.int .i64 r_2), (.int .i64 r_3), (.int .i64 r_4), (.int .i64 r_5), (.int .i64 r_6), (.int .i64 r_7), (.int .i64 r_8), (.int .i64 r_9), (.int .i64 r_10), (.int .i64 r_11), (.bool r_12), (.slice r_13_a r_13_l r_13_c)] ∧
    R (.tuple #[(.agg #[.int .i64 r_0, .int .i64 r_1, .int .i64 r_2, .int .i64 r_3, .int .i64 r_4, .int .i64 r_5, .int .i64 r_6, .int .i64 r_7, .int .i64 r_8, .int .i64 r_9, .int .i64 r_10, .int .i64 r_11, .bool r_12, .slice r_13_a r_13_l r_13_c]), (.int .i64 (3 : Int))]) w4)))
    ((∃ x_01 x_11 x_21 x_31 x_41 x_51 : Int, cellsAt w3 ⟨b, 0, none⟩ 0 [(.int .i64 x_01), (.int .i64 x_11), (.int .i64 x_21), (.int .i64 x_31), (.int .i64 x_41), (.int .i64 x_51)] ∧
    (sxStore w3 ⟨b1, 0, none⟩ 0 [(.int .i64 x_01), (.int .i64 x_11), (.int .i64 x_21), (.int .i64 x_31), (.int .i64 x_41), (.int .i64 x_51), (.int .i64 (0 : Int)), (.int .i64 (0 : Int)), (.int .i64 (0 : Int)), (.int .i64 (-1 : Int)), (.int .i64 (0 : Int)), (.int .i64 (0 : Int)), (.bool false), (.slice none 0 0)] fun w5 =>
    (∃ r_01 r_13 r_21 r_31 r_41 r_51 r_61 r_71 r_81 r_91 r_101 r_111 : Int, ∃ r_121 : Bool, ∃ r_13_a1 : Option Addr, ∃ r_13_l1 r_13_c1 : Nat, cellsAt w5 ⟨b1, 0, none⟩ 0 [(.int .i64 r_01), (.int .i64 r_13), (.int .i64 r_21), (.int .i64 r_31), (.int .i64 r_41), (.int .i64 r_51), (.int .i64 r_61), (.int .i64 r_71), (.int .i64 r_81), (.int .i64 r_91), (.int .i64 r_101), (.int .i64 r_111), (.bool r_121), (.slice r_13_a1 r_13_l1 r_13_c1)] ∧
    R (.tuple #[(.agg #[.int .i64 r_01, .int .i64 r_13, .int .i64 r_21, .int .i64 r_31, .int .i64 r_41, .int .i64 r_51, .int .i64 r_61, .int .i64 r_71, .int .i64 r_81, .int .i64 r_91, .int .i64 r_101, .int .i64 r_111, .bool r_121, .slice r_13_a1 r_13_l1 r_13_c1]), (.int .i64 (0 : Int))]) w5)))))))))
theorem F_receiver_New_eq (l_0 : Int) (l_1 : Int) (l_2 : Int) (l_3 : Int) (l_4 : Int) (l_5 : Int) (w : World) (R : Value → World → Prop) : sxFn Try.prog TT h_receiver_New Try.f9 #[(.agg #[.int .i64 l_0, .int .i64 l_1, .int .i64 l_2, .int .i64 l_3, .int .i64 l_4, .int .i64 l_5])] w R = F_receiver_New l_0 l_1 l_2 l_3 l_4 l_5 w R := by kernel_rfl
theorem F_receiver_New_ok {R : Ending → World → Prop} (l_0 : Int) (l_1 : Int) (l_2 : Int) (l_3 : Int) (l_4 : Int) (l_5 : Int) (w : World) (h : F_receiver_New l_0 l_1 l_2 l_3 l_4 l_5 w fun v w' => R (.returned v) w') : Calls Try.prog N_receiver_New #[(.agg #[.int .i64 l_0, .int .i64 l_1, .int .i64 l_2, .int .i64 l_3, .int .i64 l_4, .int .i64 l_5])] w R :=
  calls_of (f := 9) follows_ok Try.func9 (Eq.mpr (F_receiver_New_eq l_0 l_1 l_2 l_3 l_4 l_5 w _) h)

def h_made_Dice_Next : H := (.seq .reg (.seq (.seq (.draw .no (.one 0 .stable (.one 1 .stable (.one 2 .stable (.one 3 .stable (.one 4 .stable (.one 5 .stable (.one 6 .stable (.one 7 .stable (.one 8 .stable (.one 9 .stable .nil))))))))))) (.cond (.seq .reg .leaf) .leaf)) (.seq .reg (.seq (.draw .blk (.one 0 .pre (.one 1 .pre (.one 2 .pre (.one 3 .pre (.one 4 .pre (.one 5 .pre (.one 6 .pre (.one 7 .pre (.one 8 .pre (.one 9 .pre (.one 10 .pre (.one 11 .pre (.one 12 .keep (.one 13 .stable .nil))))))))))))))) .leaf))))
def F_made_Dice_Next (d_b : Nat) (d_o : Nat) (n : Int) (w : World) (R : Value → World → Prop) : Prop :=
  (kDrew w fun w1 =>
  (kLd w1 ⟨d_b, d_o + 1, none⟩ .i64 fun x =>
  (kLdS w1 ⟨d_b, d_o, none⟩ fun _ x_l _ =>
  (bsplit (decide (x ≥ (x_l : Int)))
    (R (.int .i64 (0 : Int)) w1)
    ((kLd w1 ⟨d_b, d_o + 1, none⟩ .i64 fun x1 =>
    (kW .i64 (x1 + (1 : Int)) fun x2 =>
    (kSet w1 ⟨d_b, d_o + 1, none⟩ (.int .i64 x2) fun w2 =>
    (kDrew w2 fun w3 =>
    (∃ S : Nat → Prop,
    (kLdS w3 ⟨d_b, d_o, none⟩ fun x_a1 x_l1 _ =>
    (kLd w3 ⟨d_b, d_o + 1, none⟩ .i64 fun x3 =>
    (kW .i64 (x3 - (1 : Int)) fun x4 =>
    (kIx x_a1 x_l1 x4 fun b =>
    (kLd w3 (b.add (x4.toNat * 1)) .i64 fun x5 =>
    (Calls Try.prog N_made_Mod #[(.int .i64 x5), (.int .i64 n)] w3 fun e_ w4 =>
    ∃ r : Int, e_ = .returned (.int .i64 r) ∧
    (KeepsB S w3 w4 ∧ R (.int .i64 r) w4)))))))))))))))))
theorem F_made_Dice_Next_eq (d_b : Nat) (d_o : Nat) (n : Int) (w : World) (R : Value → World → Prop) : sxFn Try.prog TT h_made_Dice_Next Try.f10 #[(.pointer (some ⟨d_b, d_o, none⟩)), (.int .i64 n)] w R = F_made_Dice_Next d_b d_o n w R := by kernel_rfl
theorem F_made_Dice_Next_ok {R : Ending → World → Prop} (d_b : Nat) (d_o : Nat) (n : Int) (w : World) (h : F_made_Dice_Next d_b d_o n w fun v w' => R (.returned v) w') : Calls Try.prog N_made_Dice_Next #[(.pointer (some ⟨d_b, d_o, none⟩)), (.int .i64 n)] w R :=
  calls_of (f := 10) follows_ok Try.func10 (Eq.mpr (F_made_Dice_Next_eq d_b d_o n w _) h)

def h_made_Filled : H := (.seq .reg (.seq .reg (.seq (.seq .reg (.block (.loop [(5, .p .slice), (6, .p (.int .i64))] [5, 6, 7, 8, 9, 10, 11, 12, 13, 14, 15, 16, 17, 18, 19, 20, 21, 22] (.seq (.seq .reg (.cond .leaf .leaf)) (.seq (.block .reg) .reg))))) (.seq .reg .leaf))))
def F_made_Filled (n : Int) (seed : Int) (w : World) (R : Value → World → Prop) : Prop :=
  (∃ I : Option Addr → Nat → Nat → Int → Nat × (World → Prop), (I none 0 0 (0 : Int)).2 w ∧
  (∀ (_junk : Env) (b_a : Option Addr) (b_l : Nat) (b_c : Nat) (i : Int) (w1 : World), (I b_a b_l b_c i).2 w1 →
    (bsplit (decide (i < n))
      ((kW .i64 ((7 : Int) * i) fun x =>
      (kW .i64 (seed + x) fun x1 =>
      (kW .i64 (Int.tdiv i (16 : Int)) fun x2 =>
      (kW .i64 (x1 + x2) fun x3 =>
      (kW .u8 (x3) fun x4 =>
      (kAlloc w1 #[(.int .u8 x4)] Ty_uint8 fun b w2 =>
      (AppP Try.prog #[Ty_S_uint8, Ty_S_uint8] Ty_S_uint8 #[(.slice b_a b_l b_c), (.slice (some ⟨b, 0, none⟩) 1 1)] w2 fun x_a x_l x_c w3 =>
      (kW .i64 (i + (1 : Int)) fun x5 =>
      ((I x_a x_l x_c x5).2 w3 ∧ (I x_a x_l x_c x5).1 < (I b_a b_l b_c i).1))))))))))
      (R (.slice b_a b_l b_c) w1))))
theorem F_made_Filled_eq (n : Int) (seed : Int) (w : World) (R : Value → World → Prop) : sxFn Try.prog TT h_made_Filled Try.f11 #[(.int .i64 n), (.int .i64 seed)] w R = F_made_Filled n seed w R := by kernel_rfl
theorem F_made_Filled_ok {R : Ending → World → Prop} (n : Int) (seed : Int) (w : World) (h : F_made_Filled n seed w fun v w' => R (.returned v) w') : Calls Try.prog N_made_Filled #[(.int .i64 n), (.int .i64 seed)] w R :=
  calls_of (f := 11) follows_ok Try.func11 (Eq.mpr (F_made_Filled_eq n seed w _) h)

def h_made_Dice_One : H := (.seq .reg (.seq .reg .leaf))
def F_made_Dice_One (d_b : Nat) (d_o : Nat) (n : Int) (w : World) (R : Value → World → Prop) : Prop :=
  (Calls Try.prog N_made_Dice_Next #[(.pointer (some ⟨d_b, d_o, none⟩)), (.int .i64 n)] w fun e_ w1 =>
  ∃ r : Int, e_ = .returned (.int .i64 r) ∧
  (kW .i64 (n - (1 : Int)) fun x =>
  (kLet (decide (r = x)) fun x1 =>
  R (.bool x1) w1)))
theorem F_made_Dice_One_eq (d_b : Nat) (d_o : Nat) (n : Int) (w : World) (R : Value → World → Prop) : sxFn Try.prog TT h_made_Dice_One Try.f12 #[(.pointer (some ⟨d_b, d_o, none⟩)), (.int .i64 n)] w R = F_made_Dice_One d_b d_o n w R := by kernel_rfl
theorem F_made_Dice_One_ok {R : Ending → World → Prop} (d_b : Nat) (d_o : Nat) (n : Int) (w : World) (h : F_made_Dice_One d_b d_o n w fun v w' => R (.returned v) w') : Calls Try.prog N_made_Dice_One #[(.pointer (some ⟨d_b, d_o, none⟩)), (.int .i64 n)] w R :=
  calls_of (f := 12) follows_ok Try.func12 (Eq.mpr (F_made_Dice_One_eq d_b d_o n w _) h)

def h_ref02_Low : H := (.seq .reg (.seq (.seq .reg (.cond (.seq .reg .leaf) .leaf)) (.seq .reg .leaf)))
def F_ref02_Low (n : Int) (x : Int) (w : World) (R : Value → World → Prop) : Prop :=
  (Calls Try.prog N_ref02_valid #[(.int .i64 n)] w fun e_ w1 =>
  ∃ r : Bool, e_ = .returned (.bool r) ∧
  (bsplit (!r)
    (R (.int .i64 (-1 : Int)) w1)
    ((kW .u64 (n) fun x1 =>
    (0 ≤ x1 ∧ (kW .i64 ((1 : Int) * 2 ^ (min x1.toNat (IntKind.bits .i64))) fun x2 =>
    (kW .i64 (x2 - (1 : Int)) fun x3 =>
    (kLet (bAnd .i64 x x3) fun x4 =>
    R (.int .i64 x4) w1))))))))
theorem F_ref02_Low_eq (n : Int) (x : Int) (w : World) (R : Value → World → Prop) : sxFn Try.prog TT h_ref02_Low Try.f13 #[(.int .i64 n), (.int .i64 x)] w R = F_ref02_Low n x w R := by kernel_rfl
theorem F_ref02_Low_ok {R : Ending → World → Prop} (n : Int) (x : Int) (w : World) (h : F_ref02_Low n x w fun v w' => R (.returned v) w') : Calls Try.prog N_ref02_Low #[(.int .i64 n), (.int .i64 x)] w R :=
  calls_of (f := 13) follows_ok Try.func13 (Eq.mpr (F_ref02_Low_eq n x w _) h)

def h_ref18_Encode : H := (.seq .reg (.seq (.seq .reg (.cond (.seq .reg .leaf) .leaf)) (.seq .reg (.seq (.seq .reg (.cond .reg .leaf)) (.seq .reg .leaf)))))
def F_ref18_Encode (bits : Int) (p_0 : Int) (p_1 : Int) (p_2 : Int) (p_3 : Int) (p_4_a : Option Addr) (p_4_l : Nat) (p_4_c : Nat) (w : World) (R : Value → World → Prop) : Prop :=
  (kAlloc w #[(.int .i64 p_0), (.int .i64 p_1), (.int .i64 p_2), (.int .i64 p_3), (.slice p_4_a p_4_l p_4_c)] Ty_api_Piece fun b w1 =>
  (∃ x_0 x_1 x_2 x_3 : Int, ∃ x_4_a : Option Addr, ∃ x_4_l x_4_c : Nat, cellsAt w1 ⟨b, 0, none⟩ 0 [(.int .i64 x_0), (.int .i64 x_1), (.int .i64 x_2), (.int .i64 x_3), (.slice x_4_a x_4_l x_4_c)] ∧
  (Calls Try.prog N_ref18_Valid #[(.int .i64 bits), (.agg #[.int .i64 x_0, .int .i64 x_1, .int .i64 x_2, .int .i64 x_3, .slice x_4_a x_4_l x_4_c])] w1 fun e_ w2 =>
  ∃ r : Bool, e_ = .returned (.bool r) ∧
  (bsplit (!r)
    (R (.tuple #[(.slice none 0 0), (.int .i64 (1 : Int))]) w2)
    ((kLd w2 ⟨b, 2, none⟩ .i64 fun x =>
    (kW .i64 ((16384 : Int) * x) fun x1 =>
    (kW .i64 ((32768 : Int) + x1) fun x2 =>
    (kLd w2 ⟨b, 1, none⟩ .i64 fun x3 =>
    (kW .i64 ((4096 : Int) * x3) fun x4 =>
    (kW .i64 (x2 + x4) fun x5 =>
    (kLd w2 ⟨b, 0, none⟩ .i64 fun x6 =>
    (kW .i64 (x5 + x6) fun x7 =>
    (Calls Try.prog N_ref01_Put #[(.slice none 0 0), (.int .i64 (2 : Int)), (.int .i64 x7)] w2 fun e_1 w3 =>
    ∃ r_a : Option Addr, ∃ r_l r_c : Nat, e_1 = .returned (.slice r_a r_l r_c) ∧
    (kLd w3 ⟨b, 1, none⟩ .i64 fun x8 =>
    (Calls Try.prog N_ref18_Head #[(.int .i64 x8)] w3 fun e_2 w4 =>
    ∃ r1 : Int, e_2 = .returned (.int .i64 r1) ∧
    (bsplit (decide (r1 = (4 : Int)))
      ((kLd w4 ⟨b, 3, none⟩ .i64 fun x9 =>
      (Calls Try.prog N_ref01_Put #[(.slice r_a r_l r_c), (.int .i64 (2 : Int)), (.int .i64 x9)] w4 fun e_3 w5 =>
      ∃ r_a1 : Option Addr, ∃ r_l1 r_c1 : Nat, e_3 = .returned (.slice r_a1 r_l1 r_c1) ∧
      (kLdS w5 ⟨b, 4, none⟩ fun x_a x_l x_c =>
      (AppP Try.prog #[Ty_S_uint8, Ty_S_uint8] Ty_S_uint8 #[(.slice r_a1 r_l1 r_c1), (.slice x_a x_l x_c)] w5 fun x_a1 x_l1 x_c1 w6 =>
      R (.tuple #[(.slice x_a1 x_l1 x_c1), (.int .i64 (0 : Int))]) w6)))))
      ((kLdS w4 ⟨b, 4, none⟩ fun x_a2 x_l2 x_c2 =>
      (AppP Try.prog #[Ty_S_uint8, Ty_S_uint8] Ty_S_uint8 #[(.slice r_a r_l r_c), (.slice x_a2 x_l2 x_c2)] w4 fun x_a3 x_l3 x_c3 w7 =>
      R (.tuple #[(.slice x_a3 x_l3 x_c3), (.int .i64 (0 : Int))]) w7))))))))))))))))))))
theorem F_ref18_Encode_eq (bits : Int) (p_0 : Int) (p_1 : Int) (p_2 : Int) (p_3 : Int) (p_4_a : Option Addr) (p_4_l : Nat) (p_4_c : Nat) (w : World) (R : Value → World → Prop) : sxFn Try.prog TT h_ref18_Encode Try.f14 #[(.int .i64 bits), (.agg #[.int .i64 p_0, .int .i64 p_1, .int .i64 p_2, .int .i64 p_3, .slice p_4_a p_4_l p_4_c])] w R = F_ref18_Encode bits p_0 p_1 p_2 p_3 p_4_a p_4_l p_4_c w R := by kernel_rfl
theorem F_ref18_Encode_ok {R : Ending → World → Prop} (bits : Int) (p_0 : Int) (p_1 : Int) (p_2 : Int) (p_3 : Int) (p_4_a : Option Addr) (p_4_l : Nat) (p_4_c : Nat) (w : World) (h : F_ref18_Encode bits p_0 p_1 p_2 p_3 p_4_a p_4_l p_4_c w fun v w' => R (.returned v) w') : Calls Try.prog N_ref18_Encode #[(.int .i64 bits), (.agg #[.int .i64 p_0, .int .i64 p_1, .int .i64 p_2, .int .i64 p_3, .slice p_4_a p_4_l p_4_c])] w R :=
  calls_of (f := 14) follows_ok Try.func14 (Eq.mpr (F_ref18_Encode_eq bits p_0 p_1 p_2 p_3 p_4_a p_4_l p_4_c w _) h)

def h_receiver_Receive : H := (.seq .reg (.seq (.seq .reg (.cond (.seq .reg .leaf) .leaf)) (.seq .reg (.seq .reg (.seq (.seq .reg (.cond (.seq .reg .leaf) .leaf)) (.cut [(10, .p .addr)] [10, 37, 38, 39, 40, 41, 42, 43, 44, 45, 46, 47] (.draw .blk (.one 0 .stable (.one 1 .stable (.one 2 .stable (.one 3 .stable (.one 4 .stable (.one 5 .stable (.one 6 .stable (.one 7 .stable (.one 8 .stable (.alt 9 (.alt 10 (.one 11 .keep (.one 12 .last .nil)) (.alt 11 (.one 10 .keep (.one 12 .last .nil)) .endAlt)) (.alt 11 (.one 9 .keep (.one 10 .keep (.one 12 .last .nil))) .endAlt)))))))))))) (.seq (.draw .blk (.one 0 .stable (.one 1 .stable (.one 2 .stable (.one 3 .stable (.one 4 .stable (.one 5 .pre (.one 6 .pre (.one 7 .pre (.one 8 .pre (.one 10 .stable (.one 9 .keep (.one 11 .keep (.one 12 .stable (.one 13 .stable (.one 14 .stable (.one 15 .stable (.one 16 .stable .nil)))))))))))))))))) (.seq (.seq .reg (.seq .reg (.cond (.seq .reg (.seq .reg .leaf)) .leaf))) (.cut [] [78, 79, 80, 81, 82, 83, 84, 85, 86, 87, 88, 89, 90, 91, 92, 93, 94, 95] (.seq .reg (.cond (.draw .blk (.one 0 .stable (.one 1 .stable (.one 2 .stable (.one 3 .stable (.one 4 .stable (.one 5 .stable (.one 6 .stable (.one 7 .pre (.one 8 .pre (.one 9 .pre (.one 10 .keep (.one 11 .keep (.one 12 .keep (.one 13 .stable (.one 14 .stable (.one 15 .stable (.one 16 .last .nil)))))))))))))))))) .leaf)) (.cut [] [96, 97, 98, 99, 100, 101, 102, 103, 104, 105, 106, 107, 108, 109, 110, 111, 112, 113, 114, 115, 116, 117] (.seq (.draw .blk (.one 0 .pre (.one 1 .pre (.one 2 .pre (.one 3 .pre (.one 5 .stable (.one 6 .stable (.one 7 .stable (.one 8 .stable (.one 9 .stable (.one 10 .stable (.one 4 .keep (.one 11 .keep (.one 12 .stable .nil)))))))))))))) (.cond (.draw .blk (.one 0 .stable (.one 1 .pre (.one 2 .pre (.one 3 .pre (.one 4 .pre (.one 5 .keep (.one 6 .stable (.one 7 .stable (.one 8 .stable (.one 9 .last .nil))))))))))) .leaf)) (.seq .reg (.seq .reg (.seq .reg (.cut [(15, .p .slice)] [15, 128, 129, 130, 131, 132, 133, 134, 135, 136, 137, 138, 139, 140, 141] (.seq .reg (.cond (.seq .reg .reg) .leaf)) (.seq .reg (.seq .reg (.seq .reg (.seq .reg .leaf))))))))))))))))))
def F_receiver_Receive (r_0 : Int) (r_1 : Int) (r_2 : Int) (r_3 : Int) (r_4 : Int) (r_5 : Int) (r_6 : Int) (r_7 : Int) (r_8 : Int) (r_9 : Int) (r_10 : Int) (r_11 : Int) (r_12 : Bool) (r_13_a : Option Addr) (r_13_l : Nat) (r_13_c : Nat) (b_a : Option Addr) (b_l : Nat) (b_c : Nat) (w : World) (R : Value → World → Prop) : Prop :=
  (kAlloc w #[(.int .i64 r_0), (.int .i64 r_1), (.int .i64 r_2), (.int .i64 r_3), (.int .i64 r_4), (.int .i64 r_5), (.int .i64 r_6), (.int .i64 r_7), (.int .i64 r_8), (.int .i64 r_9), (.int .i64 r_10), (.int .i64 r_11), (.bool r_12), (.slice r_13_a r_13_l r_13_c)] Ty_api_Receiver fun b w1 =>
  (kAlloc w1 #[.int .i64 (0 : Int), .int .i64 (0 : Int), .int .i64 (0 : Int), .int .i64 (0 : Int), .int .i64 (0 : Int), .int .i64 (0 : Int), .int .i64 (0 : Int), .int .i64 (0 : Int), .int .i64 (0 : Int), .int .i64 (0 : Int), .int .i64 (0 : Int), .int .i64 (0 : Int), .bool false, .slice none 0 0] Ty_api_Receiver fun b1 w2 =>
  (∃ x_0 x_1 x_2 x_3 x_4 x_5 x_6 x_7 x_8 x_9 x_10 x_11 : Int, ∃ x_12 : Bool, ∃ x_13_a : Option Addr, ∃ x_13_l x_13_c : Nat, cellsAt w2 ⟨b, 0, none⟩ 0 [(.int .i64 x_0), (.int .i64 x_1), (.int .i64 x_2), (.int .i64 x_3), (.int .i64 x_4), (.int .i64 x_5), (.int .i64 x_6), (.int .i64 x_7), (.int .i64 x_8), (.int .i64 x_9), (.int .i64 x_10), (.int .i64 x_11), (.bool x_12), (.slice x_13_a x_13_l x_13_c)] ∧
  (Calls Try.prog N_receiver_Valid #[(.agg #[.int .i64 x_0, .int .i64 x_1, .int .i64 x_2, .int .i64 x_3, .int .i64 x_4, .int .i64 x_5, .int .i64 x_6, .int .i64 x_7, .int .i64 x_8, .int .i64 x_9, .int .i64 x_10, .int .i64 x_11, .bool x_12, .slice x_13_a x_13_l x_13_c])] w2 fun e_ w3 =>
  ∃ r : Bool, e_ = .returned (.bool r) ∧
  (bsplit (!r)
    ((sxStore w3 ⟨b1, 0, none⟩ 0 [(.int .i64 (0 : Int)), (.int .i64 (0 : Int)), (.int .i64 (0 : Int)), (.int .i64 (0 : Int)), (.int .i64 (0 : Int)), (.int .i64 (0 : Int)), (.int .i64 (0 : Int)), (.int .i64 (0 : Int)), (.int .i64 (0 : Int)), (.int .i64 (0 : Int)), (.int .i64 (0 : Int)), (.int .i64 (0 : Int)), (.bool false), (.slice none 0 0)] fun w4 =>
    (∃ r_01 r_13 r_21 r_31 r_41 r_51 r_61 r_71 r_81 r_91 r_101 r_111 : Int, ∃ r_121 : Bool, ∃ r_13_a1 : Option Addr, ∃ r_13_l1 r_13_c1 : Nat, cellsAt w4 ⟨b1, 0, none⟩ 0 [(.int .i64 r_01), (.int .i64 r_13), (.int .i64 r_21), (.int .i64 r_31), (.int .i64 r_41), (.int .i64 r_51), (.int .i64 r_61), (.int .i64 r_71), (.int .i64 r_81), (.int .i64 r_91), (.int .i64 r_101), (.int .i64 r_111), (.bool r_121), (.slice r_13_a1 r_13_l1 r_13_c1)] ∧
    R (.tuple #[(.agg #[.int .i64 r_01, .int .i64 r_13, .int .i64 r_21, .int .i64 r_31, .int .i64 r_41, .int .i64 r_51, .int .i64 r_61, .int .i64 r_71, .int .i64 r_81, .int .i64 r_91, .int .i64 r_101, .int .i64 r_111, .bool r_121, .slice r_13_a1 r_13_l1 r_13_c1]), (.slice none 0 0), (.int .i64 (1 : Int))]) w4)))
    ((∃ x_01 x_13 x_21 x_31 x_41 x_51 x_61 x_71 x_81 x_91 x_101 x_111 : Int, ∃ x_121 : Bool, ∃ x_13_a1 : Option Addr, ∃ x_13_l1 x_13_c1 : Nat, cellsAt w3 ⟨b, 0, none⟩ 0 [(.int .i64 x_01), (.int .i64 x_13), (.int .i64 x_21), (.int .i64 x_31), (.int .i64 x_41), (.int .i64 x_51), (.int .i64 x_61), (.int .i64 x_71), (.int .i64 x_81), (.int .i64 x_91), (.int .i64 x_101), (.int .i64 x_111), (.bool x_121), (.slice x_13_a1 x_13_l1 x_13_c1)] ∧
    (Calls Try.prog N_receiver_begin #[(.agg #[.int .i64 x_01, .int .i64 x_13, .int .i64 x_21, .int .i64 x_31, .int .i64 x_41, .int .i64 x_51, .int .i64 x_61, .int .i64 x_71, .int .i64 x_81, .int .i64 x_91, .int .i64 x_101, .int .i64 x_111, .bool x_121, .slice x_13_a1 x_13_l1 x_13_c1])] w3 fun e_1 w5 =>
    ∃ r1 : Option Addr, e_1 = .returned (.pointer r1) ∧
    (kAlloc w5 #[.pointer none] Ty_P_receiver_side fun b2 w6 =>
    (kSet w6 ⟨b2, 0, none⟩ (.pointer r1) fun w7 =>
    (kLd w7 ⟨b, 0, none⟩ .i64 fun x =>
    (Calls Try.prog N_segment_Decode #[(.int .i64 x), (.slice b_a b_l b_c)] w7 fun e_2 w8 =>
    ∃ r_02 r_14 r_22 r_32 : Int, ∃ r_4_a : Option Addr, ∃ r_4_l r_4_c : Nat, ∃ r2 : Int, e_2 = .returned (.tuple #[(.agg #[.int .i64 r_02, .int .i64 r_14, .int .i64 r_22, .int .i64 r_32, .slice r_4_a r_4_l r_4_c]), (.int .i64 r2)]) ∧
    (kAlloc w8 #[.int .i64 (0 : Int), .int .i64 (0 : Int), .int .i64 (0 : Int), .int .i64 (0 : Int), .slice none 0 0] Ty_api_Piece fun b3 w9 =>
    (sxStore w9 ⟨b3, 0, none⟩ 0 [(.int .i64 r_02), (.int .i64 r_14), (.int .i64 r_22), (.int .i64 r_32), (.slice r_4_a r_4_l r_4_c)] fun w10 =>
    (bsplit (!decide (r2 = (0 : Int)))
      ((∃ x1 : Option Addr, w10.cell? ⟨b2, 0, none⟩ = some (.pointer x1) ∧
      (kNil x1 fun x2 =>
      (∃ x_02 x_14 x_22 x_32 x_42 x_52 x_62 x_72 x_82 x_92 x_102 x_112 : Int, ∃ x_122 : Bool, ∃ x_13_a2 : Option Addr, ∃ x_13_l2 x_13_c2 : Nat, cellsAt w10 x2 0 [(.int .i64 x_02), (.int .i64 x_14), (.int .i64 x_22), (.int .i64 x_32), (.int .i64 x_42), (.int .i64 x_52), (.int .i64 x_62), (.int .i64 x_72), (.int .i64 x_82), (.int .i64 x_92), (.int .i64 x_102), (.int .i64 x_112), (.bool x_122), (.slice x_13_a2 x_13_l2 x_13_c2)] ∧
      (sxStore w10 ⟨b1, 0, none⟩ 0 [(.int .i64 x_02), (.int .i64 x_14), (.int .i64 x_22), (.int .i64 x_32), (.int .i64 x_42), (.int .i64 x_52), (.int .i64 x_62), (.int .i64 x_72), (.int .i64 x_82), (.int .i64 x_92), (.int .i64 x_102), (.int .i64 x_112), (.bool x_122), (.slice x_13_a2 x_13_l2 x_13_c2)] fun w11 =>
      (∃ r_03 r_15 r_23 r_33 r_42 r_52 r_62 r_72 r_82 r_92 r_102 r_112 : Int, ∃ r_122 : Bool, ∃ r_13_a2 : Option Addr, ∃ r_13_l2 r_13_c2 : Nat, cellsAt w11 ⟨b1, 0, none⟩ 0 [(.int .i64 r_03), (.int .i64 r_15), (.int .i64 r_23), (.int .i64 r_33), (.int .i64 r_42), (.int .i64 r_52), (.int .i64 r_62), (.int .i64 r_72), (.int .i64 r_82), (.int .i64 r_92), (.int .i64 r_102), (.int .i64 r_112), (.bool r_122), (.slice r_13_a2 r_13_l2 r_13_c2)] ∧
      R (.tuple #[(.agg #[.int .i64 r_03, .int .i64 r_15, .int .i64 r_23, .int .i64 r_33, .int .i64 r_42, .int .i64 r_52, .int .i64 r_62, .int .i64 r_72, .int .i64 r_82, .int .i64 r_92, .int .i64 r_102, .int .i64 r_112, .bool r_122, .slice r_13_a2 r_13_l2 r_13_c2]), (.slice none 0 0), (.int .i64 r2)]) w11))))))
      ((∃ J : Addr → World → Prop,
      (∀ (_junk : Env) (p : Addr) (w21 : World), J p w21 →
        (kDrew w21 fun w22 =>
        (∃ S1 : Nat → Prop,
        (S1 b2 ∧
        (∃ x6 : Option Addr, w22.cell? ⟨b2, 0, none⟩ = some (.pointer x6) ∧
        (kNil x6 fun x7 =>
        (S1 (x7.add 13).block ∧
        (kLdS w22 (x7.add 13) fun x_a1 x_l1 x_c1 =>
        (∃ x8 : Option Addr, w22.cell? ⟨b2, 0, none⟩ = some (.pointer x8) ∧
        (kLd w22 p .i64 fun x9 =>
        (Calls Try.prog N_receiver_side_place #[(.pointer x8), (.int .i64 x9)] w22 fun e_5 w23 =>
        ∃ r5 : Int, e_5 = .returned (.int .i64 r5) ∧
        (KeepsB S1 w22 w23 ∧ (Calls Try.prog N_slices_BinarySearchFunc_Sapi_Partial_api_Partial_int #[(.slice x_a1 x_l1 x_c1), (.int .i64 r5), (.func (.func N_receiver_Receive_1) #[] #[(.pointer (some ⟨b2, 0, none⟩))])] w23 fun e_6 w24 =>
        ∃ r6 : Int, ∃ r7 : Bool, e_6 = .returned (.tuple #[(.int .i64 r6), (.bool r7)]) ∧
        (KeepsB S1 w22 w24 ∧ (∃ x10 : Option Addr, w24.cell? ⟨b2, 0, none⟩ = some (.pointer x10) ∧
        (∃ x_04 x_16 x_24 x_34 : Int, ∃ x_4_a1 : Option Addr, ∃ x_4_l1 x_4_c1 : Nat, ∃ x_53 : Int, ∃ x_63 : Bool, cellsAt w24 p 0 [(.int .i64 x_04), (.int .i64 x_16), (.int .i64 x_24), (.int .i64 x_34), (.slice x_4_a1 x_4_l1 x_4_c1), (.int .i64 x_53), (.bool x_63)] ∧
        (Calls Try.prog N_receiver_side_refused #[(.pointer x10), (.agg #[.int .i64 x_04, .int .i64 x_16, .int .i64 x_24, .int .i64 x_34, .slice x_4_a1 x_4_l1 x_4_c1, .int .i64 x_53, .bool x_63]), (.int .i64 r6), (.bool r7)] w24 fun e_7 w25 =>
        ∃ r8 : Int, e_7 = .returned (.int .i64 r8) ∧
        (bsplit (!decide (r8 = (0 : Int)))
          ((∃ x11 : Option Addr, w25.cell? ⟨b2, 0, none⟩ = some (.pointer x11) ∧
          (∃ x_05 x_17 x_25 x_35 : Int, ∃ x_4_a2 : Option Addr, ∃ x_4_l2 x_4_c2 : Nat, cellsAt w25 ⟨b3, 0, none⟩ 0 [(.int .i64 x_05), (.int .i64 x_17), (.int .i64 x_25), (.int .i64 x_35), (.slice x_4_a2 x_4_l2 x_4_c2)] ∧
          (Calls Try.prog N_receiver_side_poll #[(.pointer x11), (.agg #[.int .i64 x_05, .int .i64 x_17, .int .i64 x_25, .int .i64 x_35, .slice x_4_a2 x_4_l2 x_4_c2])] w25 fun e_8 w26 =>
          e_8 = .returned (.tuple #[]) ∧
          (∃ x12 : Option Addr, w26.cell? ⟨b2, 0, none⟩ = some (.pointer x12) ∧
          (kNil x12 fun x13 =>
          (∃ x_06 x_18 x_26 x_36 x_43 x_54 x_64 x_73 x_83 x_93 x_103 x_113 : Int, ∃ x_123 : Bool, ∃ x_13_a3 : Option Addr, ∃ x_13_l3 x_13_c3 : Nat, cellsAt w26 x13 0 [(.int .i64 x_06), (.int .i64 x_18), (.int .i64 x_26), (.int .i64 x_36), (.int .i64 x_43), (.int .i64 x_54), (.int .i64 x_64), (.int .i64 x_73), (.int .i64 x_83), (.int .i64 x_93), (.int .i64 x_103), (.int .i64 x_113), (.bool x_123), (.slice x_13_a3 x_13_l3 x_13_c3)] ∧
          (sxStore w26 ⟨b1, 0, none⟩ 0 [(.int .i64 x_06), (.int .i64 x_18), (.int .i64 x_26), (.int .i64 x_36), (.int .i64 x_43), (.int .i64 x_54), (.int .i64 x_64), (.int .i64 x_73), (.int .i64 x_83), (.int .i64 x_93), (.int .i64 x_103), (.int .i64 x_113), (.bool x_123), (.slice x_13_a3 x_13_l3 x_13_c3)] fun w27 =>
          (∃ r_04 r_16 r_24 r_34 r_43 r_53 r_63 r_73 r_83 r_93 r_103 r_113 : Int, ∃ r_123 : Bool, ∃ r_13_a3 : Option Addr, ∃ r_13_l3 r_13_c3 : Nat, cellsAt w27 ⟨b1, 0, none⟩ 0 [(.int .i64 r_04), (.int .i64 r_16), (.int .i64 r_24), (.int .i64 r_34), (.int .i64 r_43), (.int .i64 r_53), (.int .i64 r_63), (.int .i64 r_73), (.int .i64 r_83), (.int .i64 r_93), (.int .i64 r_103), (.int .i64 r_113), (.bool r_123), (.slice r_13_a3 r_13_l3 r_13_c3)] ∧
          R (.tuple #[(.agg #[.int .i64 r_04, .int .i64 r_16, .int .i64 r_24, .int .i64 r_34, .int .i64 r_43, .int .i64 r_53, .int .i64 r_63, .int .i64 r_73, .int .i64 r_83, .int .i64 r_93, .int .i64 r_103, .int .i64 r_113, .bool r_123, .slice r_13_a3 r_13_l3 r_13_c3]), (.slice none 0 0), (.int .i64 r8)]) w27)))))))))
          ((∃ J1 : World → Prop,
          (∀ (_junk : Env)  (w32 : World), J1 w32 →
            (∃ J2 : World → Prop,
            (∀ (_junk : Env)  (w39 : World), J2 w39 →
              (∃ x29 : Option Addr, w39.cell? ⟨b2, 0, none⟩ = some (.pointer x29) ∧
              (kNil x29 fun x30 =>
              (kLdS w39 (x30.add 13) fun x_a3 x_l3 _ =>
              (kIx x_a3 x_l3 r6 fun b8 =>
              (∃ x_07 x_19 x_27 x_37 : Int, ∃ x_4_a3 : Option Addr, ∃ x_4_l3 x_4_c3 : Nat, ∃ x_55 : Int, ∃ x_65 : Bool, cellsAt w39 p 0 [(.int .i64 x_07), (.int .i64 x_19), (.int .i64 x_27), (.int .i64 x_37), (.slice x_4_a3 x_4_l3 x_4_c3), (.int .i64 x_55), (.bool x_65)] ∧
              (Calls Try.prog N_receiver_piece_put #[(.agg #[.int .i64 x_07, .int .i64 x_19, .int .i64 x_27, .int .i64 x_37, .slice x_4_a3 x_4_l3 x_4_c3, .int .i64 x_55, .bool x_65]), (.pointer (some (b8.add (r6.toNat * 5))))] w39 fun e_13 w40 =>
              e_13 = .returned (.tuple #[]) ∧
              (∃ J3 : Option Addr → Nat → Nat → World → Prop,
              (∀ (_junk : Env) (out_a : Option Addr) (out_l : Nat) (out_c : Nat) (w43 : World), J3 out_a out_l out_c w43 →
                (∃ x32 : Option Addr, w43.cell? ⟨b2, 0, none⟩ = some (.pointer x32) ∧
                (Calls Try.prog N_receiver_side_advance #[(.pointer x32)] w43 fun e_15 w44 =>
                e_15 = .returned (.tuple #[]) ∧
                (∃ x33 : Option Addr, w44.cell? ⟨b2, 0, none⟩ = some (.pointer x33) ∧
                (Calls Try.prog N_receiver_side_start #[(.pointer x33)] w44 fun e_16 w45 =>
                e_16 = .returned (.tuple #[]) ∧
                (∃ x34 : Option Addr, w45.cell? ⟨b2, 0, none⟩ = some (.pointer x34) ∧
                (∃ x_09 x_114 x_29 x_38 : Int, ∃ x_4_a5 : Option Addr, ∃ x_4_l5 x_4_c5 : Nat, cellsAt w45 ⟨b3, 0, none⟩ 0 [(.int .i64 x_09), (.int .i64 x_114), (.int .i64 x_29), (.int .i64 x_38), (.slice x_4_a5 x_4_l5 x_4_c5)] ∧
                (Calls Try.prog N_receiver_side_poll #[(.pointer x34), (.agg #[.int .i64 x_09, .int .i64 x_114, .int .i64 x_29, .int .i64 x_38, .slice x_4_a5 x_4_l5 x_4_c5])] w45 fun e_17 w46 =>
                e_17 = .returned (.tuple #[]) ∧
                (∃ x35 : Option Addr, w46.cell? ⟨b2, 0, none⟩ = some (.pointer x35) ∧
                (kNil x35 fun x36 =>
                (∃ x_010 x_115 x_210 x_39 x_44 x_56 x_66 x_74 x_84 x_94 x_104 x_116 : Int, ∃ x_124 : Bool, ∃ x_13_a4 : Option Addr, ∃ x_13_l4 x_13_c4 : Nat, cellsAt w46 x36 0 [(.int .i64 x_010), (.int .i64 x_115), (.int .i64 x_210), (.int .i64 x_39), (.int .i64 x_44), (.int .i64 x_56), (.int .i64 x_66), (.int .i64 x_74), (.int .i64 x_84), (.int .i64 x_94), (.int .i64 x_104), (.int .i64 x_116), (.bool x_124), (.slice x_13_a4 x_13_l4 x_13_c4)] ∧
                (sxStore w46 ⟨b1, 0, none⟩ 0 [(.int .i64 x_010), (.int .i64 x_115), (.int .i64 x_210), (.int .i64 x_39), (.int .i64 x_44), (.int .i64 x_56), (.int .i64 x_66), (.int .i64 x_74), (.int .i64 x_84), (.int .i64 x_94), (.int .i64 x_104), (.int .i64 x_116), (.bool x_124), (.slice x_13_a4 x_13_l4 x_13_c4)] fun w47 =>
                (∃ r_05 r_17 r_25 r_35 r_44 r_54 r_64 r_74 r_84 r_94 r_104 r_114 : Int, ∃ r_124 : Bool, ∃ r_13_a4 : Option Addr, ∃ r_13_l4 r_13_c4 : Nat, cellsAt w47 ⟨b1, 0, none⟩ 0 [(.int .i64 r_05), (.int .i64 r_17), (.int .i64 r_25), (.int .i64 r_35), (.int .i64 r_44), (.int .i64 r_54), (.int .i64 r_64), (.int .i64 r_74), (.int .i64 r_84), (.int .i64 r_94), (.int .i64 r_104), (.int .i64 r_114), (.bool r_124), (.slice r_13_a4 r_13_l4 r_13_c4)] ∧
                R (.tuple #[(.agg #[.int .i64 r_05, .int .i64 r_17, .int .i64 r_25, .int .i64 r_35, .int .i64 r_44, .int .i64 r_54, .int .i64 r_64, .int .i64 r_74, .int .i64 r_84, .int .i64 r_94, .int .i64 r_104, .int .i64 r_114, .bool r_124, .slice r_13_a4 r_13_l4 r_13_c4]), (.slice out_a out_l out_c), (.int .i64 (0 : Int))]) w47))))))))))))) ∧
              (∃ x_08 : Int, ∃ x_110 : Bool, ∃ x_28 : Int, ∃ x_3_a : Option Addr, ∃ x_3_l x_3_c : Nat, ∃ x_4_a4 : Option Addr, ∃ x_4_l4 x_4_c4 : Nat, cellsAt w40 (b8.add (r6.toNat * 5)) 0 [(.int .i64 x_08), (.bool x_110), (.int .i64 x_28), (.slice x_3_a x_3_l x_3_c), (.slice x_4_a4 x_4_l4 x_4_c4)] ∧
              (Calls Try.prog N_receiver_complete #[(.agg #[.int .i64 x_08, .bool x_110, .int .i64 x_28, .slice x_3_a x_3_l x_3_c, .slice x_4_a4 x_4_l4 x_4_c4])] w40 fun e_14 w41 =>
              ∃ r12 : Bool, e_14 = .returned (.bool r12) ∧
              (bsplit r12
                ((kLdS w41 ((b8.add (r6.toNat * 5)).add 3) fun x_a4 x_l4 x_c4 =>
                (kLd w41 p .i64 fun x31 =>
                (sxStore w41 (b8.add (r6.toNat * 5)) 0 [(.int .i64 x31), (.bool true), (.int .i64 (0 : Int)), (.slice none 0 0), (.slice none 0 0)] fun w42 =>
                J3 x_a4 x_l4 x_c4 w42))))
                (J3 none 0 0 w41)))))))))))) ∧
            (kDrew w32 fun w33 =>
            (∃ S3 : Nat → Prop,
            (∃ x19 : Option Addr, w33.cell? ⟨b2, 0, none⟩ = some (.pointer x19) ∧
            (kLd w33 p .i64 fun x20 =>
            (S3 b2 ∧
            (∃ x21 : Option Addr, w33.cell? ⟨b2, 0, none⟩ = some (.pointer x21) ∧
            (S3 b2 ∧
            (∃ x22 : Option Addr, w33.cell? ⟨b2, 0, none⟩ = some (.pointer x22) ∧
            (kNil x22 fun x23 =>
            (S3 (x23.add 7).block ∧
            (kLd w33 (x23.add 7) .i64 fun x24 =>
            (Calls Try.prog N_receiver_side_place #[(.pointer x19), (.int .i64 x20)] w33 fun e_10 w34 =>
            ∃ r9 : Int, e_10 = .returned (.int .i64 r9) ∧
            (KeepsB S3 w33 w34 ∧ (Calls Try.prog N_receiver_side_place #[(.pointer x21), (.int .i64 x24)] w34 fun e_11 w35 =>
            ∃ r10 : Int, e_11 = .returned (.int .i64 r10) ∧
            (KeepsB S3 w33 w35 ∧ (bsplit (decide (r9 ≥ r10))
              ((kDrew w35 fun w36 =>
              (∃ S4 : Nat → Prop,
              (S4 b2 ∧
              (∃ x25 : Option Addr, w36.cell? ⟨b2, 0, none⟩ = some (.pointer x25) ∧
              (∃ x26 : Option Addr, w36.cell? ⟨b2, 0, none⟩ = some (.pointer x26) ∧
              (kLd w36 p .i64 fun x27 =>
              (Calls Try.prog N_receiver_side_behind #[(.pointer x26), (.int .i64 x27)] w36 fun e_12 w37 =>
              ∃ r11 : Int, e_12 = .returned (.int .i64 r11) ∧
              (KeepsB S4 w36 w37 ∧ (kNil x25 fun x28 =>
              (kSet w37 (x28.add 7) (.int .i64 r11) fun w38 =>
              J2 w38)))))))))))
              (J2 w35))))))))))))))))))) ∧
          (bsplit (!r7)
            ((kDrew w25 fun w28 =>
            (∃ S2 : Nat → Prop,
            (S2 b2 ∧
            (∃ x14 : Option Addr, w28.cell? ⟨b2, 0, none⟩ = some (.pointer x14) ∧
            (S2 b2 ∧
            (∃ x15 : Option Addr, w28.cell? ⟨b2, 0, none⟩ = some (.pointer x15) ∧
            (kNil x15 fun x16 =>
            (S2 (x16.add 13).block ∧
            (kLdS w28 (x16.add 13) fun x_a2 x_l2 x_c2 =>
            (kLd w28 p .i64 fun x17 =>
            (KeepsB S2 w28 w28 ∧ (kAlloc w28 #[(.int .i64 x17), (.bool false), (.int .i64 (-1 : Int)), (.slice none 0 0), (.slice none 0 0)] Ty_api_Partial fun b7 w29 =>
            (KeepsB S2 w28 w29 ∧ (Calls Try.prog N_slices_Insert_Sapi_Partial_api_Partial #[(.slice x_a2 x_l2 x_c2), (.int .i64 r6), (.slice (some ⟨b7, 0, none⟩) 1 1)] w29 fun e_9 w30 =>
            ∃ r_a : Option Addr, ∃ r_l r_c : Nat, e_9 = .returned (.slice r_a r_l r_c) ∧
            (KeepsB S2 w28 w30 ∧ (kNil x14 fun x18 =>
            (kSet w30 (x18.add 13) (.slice r_a r_l r_c) fun w31 =>
            J1 w31))))))))))))))))))
            (J1 w25)))))))))))))))))))))) ∧
      (kDrew w10 fun w12 =>
      (∃ S : Nat → Prop,
      (S b3 ∧
      (∃ x_03 x_15 x_23 x_33 : Int, ∃ x_4_a : Option Addr, ∃ x_4_l x_4_c : Nat, cellsAt w12 ⟨b3, 0, none⟩ 0 [(.int .i64 x_03), (.int .i64 x_15), (.int .i64 x_23), (.int .i64 x_33), (.slice x_4_a x_4_l x_4_c)] ∧
      (S b3 ∧
      (kLd w12 ⟨b3, 3, none⟩ .i64 fun x3 =>
      (S b3 ∧
      (kLdS w12 ⟨b3, 4, none⟩ fun _ x_l _ =>
      (kW .i64 (x3 + (x_l : Int)) fun x4 =>
      (S b3 ∧
      (kLd w12 ⟨b3, 1, none⟩ .i64 fun x5 =>
      ((Calls Try.prog N_segment_Ends #[(.int .i64 x5)] w12 fun e_4 w16 =>
      ∃ r4 : Bool, e_4 = .returned (.bool r4) ∧
      (KeepsB S w12 w16 ∧ ((KeepsB S w12 w16 ∧ (kAlloc w16 #[.int .i64 (0 : Int), .int .i64 (0 : Int), .int .i64 (0 : Int), .int .i64 (0 : Int), .slice none 0 0, .int .i64 (0 : Int), .bool false] Ty_receiver_piece fun b6 w19 =>
      (KeepsB S w12 w19 ∧ (sxStore w19 ⟨b6, 0, none⟩ 0 [(.int .i64 x_03), (.int .i64 x_15), (.int .i64 x_23), (.int .i64 x_33), (.slice x_4_a x_4_l x_4_c), (.int .i64 x4), (.bool r4)] fun w20 =>
      J ⟨b6, 0, none⟩ w20)))) ∧
      ((kAlloc w16 #[.int .i64 (0 : Int), .int .i64 (0 : Int), .int .i64 (0 : Int), .int .i64 (0 : Int), .slice none 0 0, .int .i64 (0 : Int), .bool false] Ty_receiver_piece fun b5 w17 =>
      (KeepsB S w12 w17 ∧ (KeepsB S w12 w17 ∧ (sxStore w17 ⟨b5, 0, none⟩ 0 [(.int .i64 x_03), (.int .i64 x_15), (.int .i64 x_23), (.int .i64 x_33), (.slice x_4_a x_4_l x_4_c), (.int .i64 x4), (.bool r4)] fun w18 =>
      J ⟨b5, 0, none⟩ w18)))) ∧
      True)))) ∧
      ((kAlloc w12 #[.int .i64 (0 : Int), .int .i64 (0 : Int), .int .i64 (0 : Int), .int .i64 (0 : Int), .slice none 0 0, .int .i64 (0 : Int), .bool false] Ty_receiver_piece fun b4 w13 =>
      (KeepsB S w12 w13 ∧ (Calls Try.prog N_segment_Ends #[(.int .i64 x5)] w13 fun e_3 w14 =>
      ∃ r3 : Bool, e_3 = .returned (.bool r3) ∧
      (KeepsB S w12 w14 ∧ (KeepsB S w12 w14 ∧ (sxStore w14 ⟨b4, 0, none⟩ 0 [(.int .i64 x_03), (.int .i64 x_15), (.int .i64 x_23), (.int .i64 x_33), (.slice x_4_a x_4_l x_4_c), (.int .i64 x4), (.bool r3)] fun w15 =>
      J ⟨b4, 0, none⟩ w15)))))) ∧
      True))))))))))))))))))))))))))))))
theorem F_receiver_Receive_eq (r_0 : Int) (r_1 : Int) (r_2 : Int) (r_3 : Int) (r_4 : Int) (r_5 : Int) (r_6 : Int) (r_7 : Int) (r_8 : Int) (r_9 : Int) (r_10 : Int) (r_11 : Int) (r_12 : Bool) (r_13_a : Option Addr) (r_13_l : Nat) (r_13_c : Nat) (b_a : Option Addr) (b_l : Nat) (b_c : Nat) (w : World) (R : Value → World → Prop) : sxFn Try.prog TT h_receiver_Receive Try.f15 #[(.agg #[.int .i64 r_0, .int .i64 r_1, .int .i64 r_2, .int .i64 r_3, .int .i64 r_4, .int .i64 r_5, .int .i64 r_6, .int .i64 r_7, .int .i64 r_8, .int .i64 r_9, .int .i64 r_10, .int .i64 r_11, .bool r_12, .slice r_13_a r_13_l r_13_c]), (.slice b_a b_l b_c)] w R = F_receiver_Receive r_0 r_1 r_2 r_3 r_4 r_5 r_6 r_7 r_8 r_9 r_10 r_11 r_12 r_13_a r_13_l r_13_c b_a b_l b_c w R := by kernel_rfl
theorem F_receiver_Receive_ok {R : Ending → World → Prop} (r_0 : Int) (r_1 : Int) (r_2 : Int) (r_3 : Int) (r_4 : Int) (r_5 : Int) (r_6 : Int) (r_7 : Int) (r_8 : Int) (r_9 : Int) (r_10 : Int) (r_11 : Int) (r_12 : Bool) (r_13_a : Option Addr) (r_13_l : Nat) (r_13_c : Nat) (b_a : Option Addr) (b_l : Nat) (b_c : Nat) (w : World) (h : F_receiver_Receive r_0 r_1 r_2 r_3 r_4 r_5 r_6 r_7 r_8 r_9 r_10 r_11 r_12 r_13_a r_13_l r_13_c b_a b_l b_c w fun v w' => R (.returned v) w') : Calls Try.prog N_receiver_Receive #[(.agg #[.int .i64 r_0, .int .i64 r_1, .int .i64 r_2, .int .i64 r_3, .int .i64 r_4, .int .i64 r_5, .int .i64 r_6, .int .i64 r_7, .int .i64 r_8, .int .i64 r_9, .int .i64 r_10, .int .i64 r_11, .bool r_12, .slice r_13_a r_13_l r_13_c]), (.slice b_a b_l b_c)] w R :=
  calls_of (f := 15) follows_ok Try.func15 (Eq.mpr (F_receiver_Receive_eq r_0 r_1 r_2 r_3 r_4 r_5 r_6 r_7 r_8 r_9 r_10 r_11 r_12 r_13_a r_13_l r_13_c b_a b_l b_c w _) h)

def h_receiver_Valid : H := (.seq .reg (.seq .reg (.cut [] [2, 8, 9, 10, 11, 12, 13, 14, 15, 16, 17, 18, 19, 20, 21, 22, 23, 24, 25, 26, 27, 28, 29, 30, 31, 32] (.seq .reg (.cond (.seq .reg .leaf) .leaf)) (.seq .reg (.seq (.cut [(69, .p .bool)] [37, 38, 39, 40, 41, 42, 43, 44, 45, 46, 47, 48, 49, 50, 51, 52, 53, 54, 55, 56, 57, 58, 59, 60, 61, 62, 63, 64, 65, 66, 67, 68, 69] .reg (.cond (.seq .reg .leaf) .leaf)) (.seq (.seq .reg (.cond (.seq .reg .leaf) .leaf)) (.seq .reg .leaf)))))))
def F_receiver_Valid (r_0 : Int) (r_1 : Int) (r_2 : Int) (r_3 : Int) (r_4 : Int) (r_5 : Int) (r_6 : Int) (r_7 : Int) (r_8 : Int) (r_9 : Int) (r_10 : Int) (r_11 : Int) (r_12 : Bool) (r_13_a : Option Addr) (r_13_l : Nat) (r_13_c : Nat) (w : World) (R : Value → World → Prop) : Prop :=
  (kAlloc w #[(.int .i64 r_0), (.int .i64 r_1), (.int .i64 r_2), (.int .i64 r_3), (.int .i64 r_4), (.int .i64 r_5), (.int .i64 r_6), (.int .i64 r_7), (.int .i64 r_8), (.int .i64 r_9), (.int .i64 r_10), (.int .i64 r_11), (.bool r_12), (.slice r_13_a r_13_l r_13_c)] Ty_api_Receiver fun b w1 =>
  (∃ x_0 x_1 x_2 x_3 x_4 x_5 x_6 x_7 x_8 x_9 x_10 x_11 : Int, ∃ x_12 : Bool, ∃ x_13_a : Option Addr, ∃ x_13_l x_13_c : Nat, cellsAt w1 ⟨b, 0, none⟩ 0 [(.int .i64 x_0), (.int .i64 x_1), (.int .i64 x_2), (.int .i64 x_3), (.int .i64 x_4), (.int .i64 x_5), (.int .i64 x_6), (.int .i64 x_7), (.int .i64 x_8), (.int .i64 x_9), (.int .i64 x_10), (.int .i64 x_11), (.bool x_12), (.slice x_13_a x_13_l x_13_c)] ∧
  (kAlloc w1 #[(.int .i64 x_0), (.int .i64 x_1), (.int .i64 x_2), (.int .i64 x_3), (.int .i64 x_4), (.int .i64 x_5), (.int .i64 x_6), (.int .i64 x_7), (.int .i64 x_8), (.int .i64 x_9), (.int .i64 x_10), (.int .i64 x_11), (.bool x_12), (.slice x_13_a x_13_l x_13_c)] Ty_receiver_side fun b1 w2 =>
  (∃ J : World → Prop,
  (∀ (_junk : Env)  (w7 : World), J w7 →
    (kLd w7 ⟨b, 7, none⟩ .i64 fun x3 =>
    (Calls Try.prog N_receiver_side_place #[(.pointer (some ⟨b1, 0, none⟩)), (.int .i64 x3)] w7 fun e_4 w8 =>
    ∃ r4 : Int, e_4 = .returned (.int .i64 r4) ∧
    (∃ J1 : Bool → World → Prop,
    (∀ (_junk : Env) (x11 : Bool) (w11 : World), J1 x11 w11 →
      (bsplit x11
        (R (.bool false) w11)
        ((kLd w11 ⟨b, 9, none⟩ .i64 fun x12 =>
        (bsplit (decide (x12 = (-1 : Int)))
          ((kLd w11 ⟨b, 10, none⟩ .i64 fun x13 =>
          (kLet (decide (x13 = (0 : Int))) fun x14 =>
          R (.bool x14) w11)))
          ((kLd w11 ⟨b, 9, none⟩ .i64 fun x15 =>
          (Calls Try.prog N_receiver_side_number #[(.pointer (some ⟨b1, 0, none⟩)), (.int .i64 x15)] w11 fun e_7 w12 =>
          ∃ r7 : Bool, e_7 = .returned (.bool r7) ∧
          (bsplit r7
            ((kLd w12 ⟨b, 9, none⟩ .i64 fun x16 =>
            (Calls Try.prog N_receiver_side_place #[(.pointer (some ⟨b1, 0, none⟩)), (.int .i64 x16)] w12 fun e_8 w13 =>
            ∃ r8 : Int, e_8 = .returned (.int .i64 r8) ∧
            (bsplit (decide (r8 ≥ (1 : Int)))
              ((kLd w13 ⟨b, 9, none⟩ .i64 fun x17 =>
              (Calls Try.prog N_receiver_side_place #[(.pointer (some ⟨b1, 0, none⟩)), (.int .i64 x17)] w13 fun e_9 w14 =>
              ∃ r9 : Int, e_9 = .returned (.int .i64 r9) ∧
              (bsplit (decide (r9 ≤ r4))
                ((kLd w14 ⟨b, 10, none⟩ .i64 fun x18 =>
                (bsplit (decide (x18 ≥ (1 : Int)))
                  ((kLd w14 ⟨b, 10, none⟩ .i64 fun x19 =>
                  (kLd w14 ⟨b, 3, none⟩ .i64 fun x20 =>
                  (kLet (decide (x19 ≤ x20)) fun x21 =>
                  R (.bool x21) w14))))
                  (R (.bool false) w14))))
                (R (.bool false) w14)))))
              (R (.bool false) w13)))))
            (R (.bool false) w12)))))))))) ∧
    (kLd w8 ⟨b, 0, none⟩ .i64 fun x4 =>
    (kW .i64 (x4 - (1 : Int)) fun x5 =>
    (0 ≤ x5 ∧ (kW .i64 ((1 : Int) * 2 ^ (min x5.toNat (IntKind.bits .i64))) fun x6 =>
    (bsplit (decide (r4 > x6))
      (J1 true w8)
      ((kLd w8 ⟨b, 8, none⟩ .i64 fun x7 =>
      (Calls Try.prog N_receiver_side_place #[(.pointer (some ⟨b1, 0, none⟩)), (.int .i64 x7)] w8 fun e_5 w9 =>
      ∃ r5 : Int, e_5 = .returned (.int .i64 r5) ∧
      (bsplit (decide (r5 > r4))
        (J1 true w9)
        ((kLd w9 ⟨b, 11, none⟩ .i64 fun x8 =>
        (bsplit (decide (x8 < (0 : Int)))
          (J1 true w9)
          ((kLd w9 ⟨b, 11, none⟩ .i64 fun x9 =>
          (kLd w9 ⟨b, 4, none⟩ .i64 fun x10 =>
          (bsplit (decide (x9 > x10))
            (J1 true w9)
            ((Calls Try.prog N_receiver_side_partials #[(.pointer (some ⟨b1, 0, none⟩))] w9 fun e_6 w10 =>
            ∃ r6 : Bool, e_6 = .returned (.bool r6) ∧
            J1 (!r6) w10)))))))))))))))))))))) ∧
  (∃ x_01 x_13 x_21 x_31 x_41 x_51 : Int, cellsAt w2 ⟨b, 0, none⟩ 0 [(.int .i64 x_01), (.int .i64 x_13), (.int .i64 x_21), (.int .i64 x_31), (.int .i64 x_41), (.int .i64 x_51)] ∧
  (Calls Try.prog N_sender_ValidLink #[(.agg #[.int .i64 x_01, .int .i64 x_13, .int .i64 x_21, .int .i64 x_31, .int .i64 x_41, .int .i64 x_51])] w2 fun e_ w3 =>
  ∃ r : Bool, e_ = .returned (.bool r) ∧
  (bsplit (!r)
    (R (.bool false) w3)
    ((kLd w3 ⟨b, 6, none⟩ .i64 fun x =>
    (Calls Try.prog N_receiver_side_number #[(.pointer (some ⟨b1, 0, none⟩)), (.int .i64 x)] w3 fun e_1 w4 =>
    ∃ r1 : Bool, e_1 = .returned (.bool r1) ∧
    (bsplit (!r1)
      (R (.bool false) w4)
      ((kLd w4 ⟨b, 7, none⟩ .i64 fun x1 =>
      (Calls Try.prog N_receiver_side_number #[(.pointer (some ⟨b1, 0, none⟩)), (.int .i64 x1)] w4 fun e_2 w5 =>
      ∃ r2 : Bool, e_2 = .returned (.bool r2) ∧
      (bsplit (!r2)
        (R (.bool false) w5)
        ((kLd w5 ⟨b, 8, none⟩ .i64 fun x2 =>
        (Calls Try.prog N_receiver_side_number #[(.pointer (some ⟨b1, 0, none⟩)), (.int .i64 x2)] w5 fun e_3 w6 =>
        ∃ r3 : Bool, e_3 = .returned (.bool r3) ∧
        (bsplit (!r3)
          (R (.bool false) w6)
          (J w6))))))))))))))))))))
theorem F_receiver_Valid_eq (r_0 : Int) (r_1 : Int) (r_2 : Int) (r_3 : Int) (r_4 : Int) (r_5 : Int) (r_6 : Int) (r_7 : Int) (r_8 : Int) (r_9 : Int) (r_10 : Int) (r_11 : Int) (r_12 : Bool) (r_13_a : Option Addr) (r_13_l : Nat) (r_13_c : Nat) (w : World) (R : Value → World → Prop) : sxFn Try.prog TT h_receiver_Valid Try.f16 #[(.agg #[.int .i64 r_0, .int .i64 r_1, .int .i64 r_2, .int .i64 r_3, .int .i64 r_4, .int .i64 r_5, .int .i64 r_6, .int .i64 r_7, .int .i64 r_8, .int .i64 r_9, .int .i64 r_10, .int .i64 r_11, .bool r_12, .slice r_13_a r_13_l r_13_c])] w R = F_receiver_Valid r_0 r_1 r_2 r_3 r_4 r_5 r_6 r_7 r_8 r_9 r_10 r_11 r_12 r_13_a r_13_l r_13_c w R := by kernel_rfl
theorem F_receiver_Valid_ok {R : Ending → World → Prop} (r_0 : Int) (r_1 : Int) (r_2 : Int) (r_3 : Int) (r_4 : Int) (r_5 : Int) (r_6 : Int) (r_7 : Int) (r_8 : Int) (r_9 : Int) (r_10 : Int) (r_11 : Int) (r_12 : Bool) (r_13_a : Option Addr) (r_13_l : Nat) (r_13_c : Nat) (w : World) (h : F_receiver_Valid r_0 r_1 r_2 r_3 r_4 r_5 r_6 r_7 r_8 r_9 r_10 r_11 r_12 r_13_a r_13_l r_13_c w fun v w' => R (.returned v) w') : Calls Try.prog N_receiver_Valid #[(.agg #[.int .i64 r_0, .int .i64 r_1, .int .i64 r_2, .int .i64 r_3, .int .i64 r_4, .int .i64 r_5, .int .i64 r_6, .int .i64 r_7, .int .i64 r_8, .int .i64 r_9, .int .i64 r_10, .int .i64 r_11, .bool r_12, .slice r_13_a r_13_l r_13_c])] w R :=
  calls_of (f := 16) follows_ok Try.func16 (Eq.mpr (F_receiver_Valid_eq r_0 r_1 r_2 r_3 r_4 r_5 r_6 r_7 r_8 r_9 r_10 r_11 r_12 r_13_a r_13_l r_13_c w _) h)

def h_ref01_Same : H := (.seq .reg (.seq .reg .leaf))
def F_ref01_Same (a_a : Option Addr) (a_l : Nat) (a_c : Nat) (b_a : Option Addr) (b_l : Nat) (b_c : Nat) (w : World) (R : Value → World → Prop) : Prop :=
  (ConvS Try.prog Ty_S_uint8 Ty_string (.slice a_a a_l a_c) w fun x =>
  (ConvS Try.prog Ty_S_uint8 Ty_string (.slice b_a b_l b_c) w fun x1 =>
  R (.bool (x == x1)) w))
theorem F_ref01_Same_eq (a_a : Option Addr) (a_l : Nat) (a_c : Nat) (b_a : Option Addr) (b_l : Nat) (b_c : Nat) (w : World) (R : Value → World → Prop) : sxFn Try.prog TT h_ref01_Same Try.f17 #[(.slice a_a a_l a_c), (.slice b_a b_l b_c)] w R = F_ref01_Same a_a a_l a_c b_a b_l b_c w R := by kernel_rfl
theorem F_ref01_Same_ok {R : Ending → World → Prop} (a_a : Option Addr) (a_l : Nat) (a_c : Nat) (b_a : Option Addr) (b_l : Nat) (b_c : Nat) (w : World) (h : F_ref01_Same a_a a_l a_c b_a b_l b_c w fun v w' => R (.returned v) w') : Calls Try.prog N_ref01_Same #[(.slice a_a a_l a_c), (.slice b_a b_l b_c)] w R :=
  calls_of (f := 17) follows_ok Try.func17 (Eq.mpr (F_ref01_Same_eq a_a a_l a_c b_a b_l b_c w _) h)

def h_receiver_Status : H := (.seq .reg (.seq (.seq .reg (.cond (.seq .reg .leaf) .leaf)) (.seq .reg (.seq .reg (.seq (.seq .reg (.block (.loop [(6, .p (.int .i64))] [6, 7, 20, 21, 22, 23, 24, 25, 26, 27, 28, 29, 30, 31, 32, 33, 34, 35, 36, 37, 38, 39, 40, 41, 42, 43] (.seq (.seq .reg (.cond .leaf .leaf)) (.seq (.block (.seq .reg (.seq (.seq .reg (.cond (.seq .reg .leaf) .leaf)) .reg))) .reg))))) (.seq .reg .leaf))))))
def F_receiver_Status (r_0 : Int) (r_1 : Int) (r_2 : Int) (r_3 : Int) (r_4 : Int) (r_5 : Int) (r_6 : Int) (r_7 : Int) (r_8 : Int) (r_9 : Int) (r_10 : Int) (r_11 : Int) (r_12 : Bool) (r_13_a : Option Addr) (r_13_l : Nat) (r_13_c : Nat) (w : World) (R : Value → World → Prop) : Prop :=
  (kAlloc w #[(.int .i64 r_0), (.int .i64 r_1), (.int .i64 r_2), (.int .i64 r_3), (.int .i64 r_4), (.int .i64 r_5), (.int .i64 r_6), (.int .i64 r_7), (.int .i64 r_8), (.int .i64 r_9), (.int .i64 r_10), (.int .i64 r_11), (.bool r_12), (.slice r_13_a r_13_l r_13_c)] Ty_api_Receiver fun b w1 =>
  (kAlloc w1 #[.int .i64 (0 : Int), .slice none 0 0] Ty_api_Status fun b1 w2 =>
  (∃ x_0 x_1 x_2 x_3 x_4 x_5 x_6 x_7 x_8 x_9 x_10 x_11 : Int, ∃ x_12 : Bool, ∃ x_13_a : Option Addr, ∃ x_13_l x_13_c : Nat, cellsAt w2 ⟨b, 0, none⟩ 0 [(.int .i64 x_0), (.int .i64 x_1), (.int .i64 x_2), (.int .i64 x_3), (.int .i64 x_4), (.int .i64 x_5), (.int .i64 x_6), (.int .i64 x_7), (.int .i64 x_8), (.int .i64 x_9), (.int .i64 x_10), (.int .i64 x_11), (.bool x_12), (.slice x_13_a x_13_l x_13_c)] ∧
  (Calls Try.prog N_receiver_Valid #[(.agg #[.int .i64 x_0, .int .i64 x_1, .int .i64 x_2, .int .i64 x_3, .int .i64 x_4, .int .i64 x_5, .int .i64 x_6, .int .i64 x_7, .int .i64 x_8, .int .i64 x_9, .int .i64 x_10, .int .i64 x_11, .bool x_12, .slice x_13_a x_13_l x_13_c])] w2 fun e_ w3 =>
  ∃ r : Bool, e_ = .returned (.bool r) ∧
  (bsplit (!r)
    ((sxStore w3 ⟨b1, 0, none⟩ 0 [(.int .i64 (0 : Int)), (.slice none 0 0)] fun w4 =>
    (∃ r_01 : Int, ∃ r_1_a : Option Addr, ∃ r_1_l r_1_c : Nat, cellsAt w4 ⟨b1, 0, none⟩ 0 [(.int .i64 r_01), (.slice r_1_a r_1_l r_1_c)] ∧
    R (.tuple #[(.agg #[.int .i64 r_01, .slice r_1_a r_1_l r_1_c]), (.int .i64 (1 : Int))]) w4)))
    ((∃ x_01 x_13 x_21 x_31 x_41 x_51 x_61 x_71 x_81 x_91 x_101 x_111 : Int, ∃ x_121 : Bool, ∃ x_13_a1 : Option Addr, ∃ x_13_l1 x_13_c1 : Nat, cellsAt w3 ⟨b, 0, none⟩ 0 [(.int .i64 x_01), (.int .i64 x_13), (.int .i64 x_21), (.int .i64 x_31), (.int .i64 x_41), (.int .i64 x_51), (.int .i64 x_61), (.int .i64 x_71), (.int .i64 x_81), (.int .i64 x_91), (.int .i64 x_101), (.int .i64 x_111), (.bool x_121), (.slice x_13_a1 x_13_l1 x_13_c1)] ∧
    (kAlloc w3 #[(.int .i64 x_01), (.int .i64 x_13), (.int .i64 x_21), (.int .i64 x_31), (.int .i64 x_41), (.int .i64 x_51), (.int .i64 x_61), (.int .i64 x_71), (.int .i64 x_81), (.int .i64 x_91), (.int .i64 x_101), (.int .i64 x_111), (.bool x_121), (.slice x_13_a1 x_13_l1 x_13_c1)] Ty_receiver_side fun b2 w5 =>
    (kLd w5 ⟨b, 8, none⟩ .i64 fun x =>
    (kAlloc w5 #[.int .i64 (0 : Int), .slice none 0 0] Ty_api_Status fun b3 w6 =>
    (sxStore w6 ⟨b3, 0, none⟩ 0 [(.int .i64 x), (.slice none 0 0)] fun w7 =>
    (kLd w7 ⟨b, 6, none⟩ .i64 fun x1 =>
    (∃ I : Int → Nat × (World → Prop), (I x1).2 w7 ∧
    (∀ (_junk : Env) (n : Int) (w8 : World), (I n).2 w8 →
      (kLd w8 ⟨b, 8, none⟩ .i64 fun x2 =>
      (bsplit (!decide (n = x2))
        ((Calls Try.prog N_receiver_side_missing #[(.pointer (some ⟨b2, 0, none⟩)), (.int .i64 n)] w8 fun e_1 w9 =>
        ∃ r_a : Option Addr, ∃ r_l r_c : Nat, e_1 = .returned (.slice r_a r_l r_c) ∧
        (kLdS w9 ⟨b3, 1, none⟩ fun _ x_l _ =>
        (kW .i64 ((x_l : Int) + (r_l : Int)) fun x3 =>
        (bsplit (decide (x3 > (64 : Int)))
          ((kSet w9 ⟨b3, 0, none⟩ (.int .i64 n) fun w10 =>
          (∃ x_02 : Int, ∃ x_1_a : Option Addr, ∃ x_1_l x_1_c : Nat, cellsAt w10 ⟨b3, 0, none⟩ 0 [(.int .i64 x_02), (.slice x_1_a x_1_l x_1_c)] ∧
          (sxStore w10 ⟨b1, 0, none⟩ 0 [(.int .i64 x_02), (.slice x_1_a x_1_l x_1_c)] fun w11 =>
          (∃ r_02 : Int, ∃ r_1_a1 : Option Addr, ∃ r_1_l1 r_1_c1 : Nat, cellsAt w11 ⟨b1, 0, none⟩ 0 [(.int .i64 r_02), (.slice r_1_a1 r_1_l1 r_1_c1)] ∧
          R (.tuple #[(.agg #[.int .i64 r_02, .slice r_1_a1 r_1_l1 r_1_c1]), (.int .i64 (0 : Int))]) w11)))))
          ((kLdS w9 ⟨b3, 1, none⟩ fun x_a1 x_l1 x_c1 =>
          (AppP Try.prog #[Ty_S_api_Range, Ty_S_api_Range] Ty_S_api_Range #[(.slice x_a1 x_l1 x_c1), (.slice r_a r_l r_c)] w9 fun x_a2 x_l2 x_c2 w12 =>
          (kSet w12 ⟨b3, 1, none⟩ (.slice x_a2 x_l2 x_c2) fun w13 =>
          (Calls Try.prog N_receiver_side_behind #[(.pointer (some ⟨b2, 0, none⟩)), (.int .i64 n)] w13 fun e_2 w14 =>
          ∃ r1 : Int, e_2 = .returned (.int .i64 r1) ∧
          ((I r1).2 w14 ∧ (I r1).1 < (I n).1)))))))))))
        ((∃ x_03 : Int, ∃ x_1_a1 : Option Addr, ∃ x_1_l1 x_1_c1 : Nat, cellsAt w8 ⟨b3, 0, none⟩ 0 [(.int .i64 x_03), (.slice x_1_a1 x_1_l1 x_1_c1)] ∧
        (sxStore w8 ⟨b1, 0, none⟩ 0 [(.int .i64 x_03), (.slice x_1_a1 x_1_l1 x_1_c1)] fun w15 =>
        (∃ r_03 : Int, ∃ r_1_a2 : Option Addr, ∃ r_1_l2 r_1_c2 : Nat, cellsAt w15 ⟨b1, 0, none⟩ 0 [(.int .i64 r_03), (.slice r_1_a2 r_1_l2 r_1_c2)] ∧
        R (.tuple #[(.agg #[.int .i64 r_03, .slice r_1_a2 r_1_l2 r_1_c2]), (.int .i64 (0 : Int))]) w15))))))))))))))))))))
theorem F_receiver_Status_eq (r_0 : Int) (r_1 : Int) (r_2 : Int) (r_3 : Int) (r_4 : Int) (r_5 : Int) (r_6 : Int) (r_7 : Int) (r_8 : Int) (r_9 : Int) (r_10 : Int) (r_11 : Int) (r_12 : Bool) (r_13_a : Option Addr) (r_13_l : Nat) (r_13_c : Nat) (w : World) (R : Value → World → Prop) : sxFn Try.prog TT h_receiver_Status Try.f18 #[(.agg #[.int .i64 r_0, .int .i64 r_1, .int .i64 r_2, .int .i64 r_3, .int .i64 r_4, .int .i64 r_5, .int .i64 r_6, .int .i64 r_7, .int .i64 r_8, .int .i64 r_9, .int .i64 r_10, .int .i64 r_11, .bool r_12, .slice r_13_a r_13_l r_13_c])] w R = F_receiver_Status r_0 r_1 r_2 r_3 r_4 r_5 r_6 r_7 r_8 r_9 r_10 r_11 r_12 r_13_a r_13_l r_13_c w R := by kernel_rfl
theorem F_receiver_Status_ok {R : Ending → World → Prop} (r_0 : Int) (r_1 : Int) (r_2 : Int) (r_3 : Int) (r_4 : Int) (r_5 : Int) (r_6 : Int) (r_7 : Int) (r_8 : Int) (r_9 : Int) (r_10 : Int) (r_11 : Int) (r_12 : Bool) (r_13_a : Option Addr) (r_13_l : Nat) (r_13_c : Nat) (w : World) (h : F_receiver_Status r_0 r_1 r_2 r_3 r_4 r_5 r_6 r_7 r_8 r_9 r_10 r_11 r_12 r_13_a r_13_l r_13_c w fun v w' => R (.returned v) w') : Calls Try.prog N_receiver_Status #[(.agg #[.int .i64 r_0, .int .i64 r_1, .int .i64 r_2, .int .i64 r_3, .int .i64 r_4, .int .i64 r_5, .int .i64 r_6, .int .i64 r_7, .int .i64 r_8, .int .i64 r_9, .int .i64 r_10, .int .i64 r_11, .bool r_12, .slice r_13_a r_13_l r_13_c])] w R :=
  calls_of (f := 18) follows_ok Try.func18 (Eq.mpr (F_receiver_Status_eq r_0 r_1 r_2 r_3 r_4 r_5 r_6 r_7 r_8 r_9 r_10 r_11 r_12 r_13_a r_13_l r_13_c w _) h)

def h_ref19_Valid : H := (.seq .reg (.cut [] [4, 11, 12, 13, 14, 15, 16, 17, 18, 19, 20, 21, 22, 23, 24, 25, 26, 27, 28, 29, 30, 31, 32] (.seq .reg (.cond (.seq .reg .leaf) .leaf)) (.seq (.seq .reg (.block (.loop [(5, .p (.int .i64))] [4, 5, 6, 7, 8, 9, 10, 33, 34, 35, 36, 37, 38, 39, 40, 41, 42, 43, 44, 45, 46, 47, 48, 49, 50, 51, 52, 53, 54, 55, 56, 57, 58, 59, 60, 61, 62, 63, 64, 65, 66, 67, 68, 69, 70, 71, 72, 73, 74, 75, 76, 77, 78, 79, 80, 81, 82, 83, 84, 85, 86, 87, 88, 89, 90, 91, 92, 93, 94, 95, 96, 97, 98, 99, 100, 101, 102, 103, 104, 105, 106, 107, 108, 109, 110, 111, 112, 113, 114, 115, 116, 117, 118, 119, 120, 121, 122, 123, 124, 125, 126, 127, 128, 129, 130, 131, 132, 133, 134, 135, 136, 137] (.seq (.seq .reg (.cond .leaf .leaf)) (.seq (.block (.seq .reg (.seq .reg (.cut [] [4, 51, 52, 53, 54, 55, 56, 57, 58, 59, 60, 61, 62, 63, 64, 65, 66, 67, 68, 69, 70, 71, 72, 73] (.seq .reg (.cond (.seq .reg .leaf) .leaf)) (.cut [(8, .p .bool)] [8, 74, 75, 76, 77, 78, 79, 80, 81] .reg (.cut [] [4, 82, 83, 84, 85, 86, 87, 88, 89, 90, 91, 92, 93, 94, 95, 96, 97, 98, 99, 100] (.seq .reg (.cond (.seq .reg .leaf) .leaf)) (.seq (.seq .reg (.cond .leaf .leaf)) (.seq .reg (.seq .reg (.cut [(137, .p .bool)] [115, 116, 117, 118, 119, 120, 121, 122, 123, 124, 125, 126, 127, 128, 129, 130, 131, 132, 133, 134, 135, 136, 137] .reg (.cond (.seq .reg .leaf) .leaf))))))))))) .reg))))) (.seq .reg .leaf))))
def F_ref19_Valid (bits : Int) (s_0 : Int) (s_1_a : Option Addr) (s_1_l : Nat) (s_1_c : Nat) (w : World) (R : Value → World → Prop) : Prop :=
  (kAlloc w #[(.int .i64 s_0), (.slice s_1_a s_1_l s_1_c)] Ty_api_Status fun b w1 =>
  (∃ J : World → Prop,
  (∀ (_junk : Env)  (w3 : World), J w3 →
    (∃ I : Int → Nat × (World → Prop), (I (0 : Int)).2 w3 ∧
    (∀ (_junk : Env) (i : Int) (w4 : World), (I i).2 w4 →
      (kLdS w4 ⟨b, 1, none⟩ fun _ x_l1 _ =>
      (bsplit (decide (i < (x_l1 : Int)))
        ((kLdS w4 ⟨b, 1, none⟩ fun x_a2 x_l2 _ =>
        (kIx x_a2 x_l2 i fun b1 =>
        (∃ x_0 x_1 x_2 : Int, cellsAt w4 (b1.add (i.toNat * 3)) 0 [(.int .i64 x_0), (.int .i64 x_1), (.int .i64 x_2)] ∧
        (kAlloc w4 #[.int .i64 (0 : Int), .int .i64 (0 : Int), .int .i64 (0 : Int)] Ty_api_Range fun b2 w5 =>
        (sxStore w5 ⟨b2, 0, none⟩ 0 [(.int .i64 x_0), (.int .i64 x_1), (.int .i64 x_2)] fun w6 =>
        (kLd w6 ⟨b2, 0, none⟩ .i64 fun x4 =>
        (kLd w6 ⟨b, 0, none⟩ .i64 fun x5 =>
        (Calls Try.prog N_ref02_Distance #[(.int .i64 bits), (.int .i64 x4), (.int .i64 x5)] w6 fun e_1 w7 =>
        ∃ r1 : Int, e_1 = .returned (.int .i64 r1) ∧
        (∃ J1 : World → Prop,
        (∀ (_junk : Env)  (w8 : World), J1 w8 →
          (∃ J2 : Bool → World → Prop,
          (∀ (_junk : Env) (whole1 : Bool) (w9 : World), J2 whole1 w9 →
            (∃ J3 : World → Prop,
            (∀ (_junk : Env)  (w10 : World), J3 w10 →
              (bsplit (decide (i = (0 : Int)))
                ((kW .i64 (i + (1 : Int)) fun x19 =>
                ((I x19).2 w10 ∧ (I x19).1 < (I i).1)))
                ((kLdS w10 ⟨b, 1, none⟩ fun x_a3 x_l3 _ =>
                (kW .i64 (i - (1 : Int)) fun x20 =>
                (kIx x_a3 x_l3 x20 fun b3 =>
                (∃ x_01 x_11 x_21 : Int, cellsAt w10 (b3.add (x20.toNat * 3)) 0 [(.int .i64 x_01), (.int .i64 x_11), (.int .i64 x_21)] ∧
                (kAlloc w10 #[.int .i64 (0 : Int), .int .i64 (0 : Int), .int .i64 (0 : Int)] Ty_api_Range fun b4 w11 =>
                (sxStore w11 ⟨b4, 0, none⟩ 0 [(.int .i64 x_01), (.int .i64 x_11), (.int .i64 x_21)] fun w12 =>
                (kLd w12 ⟨b4, 0, none⟩ .i64 fun x21 =>
                (kLd w12 ⟨b, 0, none⟩ .i64 fun x22 =>
                (Calls Try.prog N_ref02_Distance #[(.int .i64 bits), (.int .i64 x21), (.int .i64 x22)] w12 fun e_2 w13 =>
                ∃ r2 : Int, e_2 = .returned (.int .i64 r2) ∧
                (∃ J4 : Bool → World → Prop,
                (∀ (_junk : Env) (x26 : Bool) (w14 : World), J4 x26 w14 →
                  (bsplit x26
                    (R (.bool false) w14)
                    ((kW .i64 (i + (1 : Int)) fun x27 =>
                    ((I x27).2 w14 ∧ (I x27).1 < (I i).1))))) ∧
                (bsplit (decide (r2 < r1))
                  (J4 true w13)
                  ((bsplit (decide (r2 = r1))
                    ((bsplit whole1
                      (J4 true w13)
                      ((kLd w13 ⟨b4, 2, none⟩ .i64 fun x23 =>
                      (bsplit (decide (x23 = (0 : Int)))
                        (J4 true w13)
                        ((kLd w13 ⟨b2, 1, none⟩ .i64 fun x24 =>
                        (kLd w13 ⟨b4, 2, none⟩ .i64 fun x25 =>
                        J4 (decide (x24 ≤ x25)) w13))))))))
                    (J4 false w13))))))))))))))))) ∧
            (bsplit (!whole1)
              ((kLd w9 ⟨b2, 1, none⟩ .i64 fun x15 =>
              (bsplit (decide (x15 < (0 : Int)))
                (R (.bool false) w9)
                ((kLd w9 ⟨b2, 1, none⟩ .i64 fun x16 =>
                (kLd w9 ⟨b2, 2, none⟩ .i64 fun x17 =>
                (bsplit (decide (x16 ≥ x17))
                  (R (.bool false) w9)
                  ((kLd w9 ⟨b2, 2, none⟩ .i64 fun x18 =>
                  (bsplit (decide (x18 > (65535 : Int)))
                    (R (.bool false) w9)
                    (J3 w9)))))))))))
              (J3 w9)))) ∧
          (kLd w8 ⟨b2, 1, none⟩ .i64 fun x13 =>
          (bsplit (decide (x13 = (0 : Int)))
            ((kLd w8 ⟨b2, 2, none⟩ .i64 fun x14 =>
            (kLet (decide (x14 = (0 : Int))) fun whole =>
            J2 whole w8)))
            (J2 false w8))))) ∧
        (kLd w7 ⟨b2, 0, none⟩ .i64 fun x6 =>
        (bsplit (decide (x6 < (0 : Int)))
          (R (.bool false) w7)
          ((kLd w7 ⟨b2, 0, none⟩ .i64 fun x7 =>
          (kW .u64 (bits) fun x8 =>
          (0 ≤ x8 ∧ (kW .i64 ((1 : Int) * 2 ^ (min x8.toNat (IntKind.bits .i64))) fun x9 =>
          (bsplit (decide (x7 ≥ x9))
            (R (.bool false) w7)
            ((bsplit (decide (r1 < (1 : Int)))
              (R (.bool false) w7)
              ((kW .i64 (bits - (1 : Int)) fun x10 =>
              (kW .u64 (x10) fun x11 =>
              (0 ≤ x11 ∧ (kW .i64 ((1 : Int) * 2 ^ (min x11.toNat (IntKind.bits .i64))) fun x12 =>
              (bsplit (decide (r1 > x12))
                (R (.bool false) w7)
                (J1 w7)))))))))))))))))))))))))))
        (R (.bool true) w4)))))) ∧
  (Calls Try.prog N_ref15_Bits #[(.int .i64 bits)] w1 fun e_ w2 =>
  ∃ r : Bool, e_ = .returned (.bool r) ∧
  (bsplit (!r)
    (R (.bool false) w2)
    ((kLd w2 ⟨b, 0, none⟩ .i64 fun x =>
    (bsplit (decide (x < (0 : Int)))
      (R (.bool false) w2)
      ((kLd w2 ⟨b, 0, none⟩ .i64 fun x1 =>
      (kW .u64 (bits) fun x2 =>
      (0 ≤ x2 ∧ (kW .i64 ((1 : Int) * 2 ^ (min x2.toNat (IntKind.bits .i64))) fun x3 =>
      (bsplit (decide (x1 ≥ x3))
        (R (.bool false) w2)
        ((kLdS w2 ⟨b, 1, none⟩ fun _ x_l _ =>
        (bsplit (decide ((x_l : Int) > (64 : Int)))
          (R (.bool false) w2)
          (J w2)))))))))))))))))
theorem F_ref19_Valid_eq (bits : Int) (s_0 : Int) (s_1_a : Option Addr) (s_1_l : Nat) (s_1_c : Nat) (w : World) (R : Value → World → Prop) : sxFn Try.prog TT h_ref19_Valid Try.f19 #[(.int .i64 bits), (.agg #[.int .i64 s_0, .slice s_1_a s_1_l s_1_c])] w R = F_ref19_Valid bits s_0 s_1_a s_1_l s_1_c w R := by kernel_rfl
theorem F_ref19_Valid_ok {R : Ending → World → Prop} (bits : Int) (s_0 : Int) (s_1_a : Option Addr) (s_1_l : Nat) (s_1_c : Nat) (w : World) (h : F_ref19_Valid bits s_0 s_1_a s_1_l s_1_c w fun v w' => R (.returned v) w') : Calls Try.prog N_ref19_Valid #[(.int .i64 bits), (.agg #[.int .i64 s_0, .slice s_1_a s_1_l s_1_c])] w R :=
  calls_of (f := 19) follows_ok Try.func19 (Eq.mpr (F_ref19_Valid_eq bits s_0 s_1_a s_1_l s_1_c w _) h)

def h_ref02_Distance : H := (.seq .reg (.seq (.seq .reg (.cond (.seq .reg .leaf) .leaf)) (.seq .reg .leaf)))
def F_ref02_Distance (n : Int) (a : Int) (b : Int) (w : World) (R : Value → World → Prop) : Prop :=
  (Calls Try.prog N_ref02_valid #[(.int .i64 n)] w fun e_ w1 =>
  ∃ r : Bool, e_ = .returned (.bool r) ∧
  (bsplit (!r)
    (R (.int .i64 (-1 : Int)) w1)
    ((Calls Try.prog N_ref02_Low #[(.int .i64 n), (.int .i64 b)] w1 fun e_1 w2 =>
    ∃ r1 : Int, e_1 = .returned (.int .i64 r1) ∧
    (Calls Try.prog N_ref02_Low #[(.int .i64 n), (.int .i64 a)] w2 fun e_2 w3 =>
    ∃ r2 : Int, e_2 = .returned (.int .i64 r2) ∧
    (kW .i64 (r1 - r2) fun x =>
    (kW .u64 (n) fun x1 =>
    (0 ≤ x1 ∧ (kW .i64 ((1 : Int) * 2 ^ (min x1.toNat (IntKind.bits .i64))) fun x2 =>
    (kW .i64 (x2 - (1 : Int)) fun x3 =>
    (kLet (bAnd .i64 x x3) fun x4 =>
    R (.int .i64 x4) w3)))))))))))
theorem F_ref02_Distance_eq (n : Int) (a : Int) (b : Int) (w : World) (R : Value → World → Prop) : sxFn Try.prog TT h_ref02_Distance Try.f20 #[(.int .i64 n), (.int .i64 a), (.int .i64 b)] w R = F_ref02_Distance n a b w R := by kernel_rfl
theorem F_ref02_Distance_ok {R : Ending → World → Prop} (n : Int) (a : Int) (b : Int) (w : World) (h : F_ref02_Distance n a b w fun v w' => R (.returned v) w') : Calls Try.prog N_ref02_Distance #[(.int .i64 n), (.int .i64 a), (.int .i64 b)] w R :=
  calls_of (f := 20) follows_ok Try.func20 (Eq.mpr (F_ref02_Distance_eq n a b w _) h)

def h_made_Mod : H := (.seq .reg (.seq (.seq .reg (.cond (.seq .reg .leaf) .leaf)) (.seq .reg (.seq (.seq .reg (.cond .reg .leaf)) (.seq .reg .leaf)))))
def F_made_Mod (n : Int) (m : Int) (w : World) (R : Value → World → Prop) : Prop :=
  (bsplit (decide (m < (1 : Int)))
    (R (.int .i64 (0 : Int)) w)
    ((m ≠ 0 ∧ (kLet (Int.tmod n m) fun x =>
    (bsplit (decide (x < (0 : Int)))
      ((kW .i64 (x + m) fun x1 =>
      R (.int .i64 x1) w))
      (R (.int .i64 x) w))))))
theorem F_made_Mod_eq (n : Int) (m : Int) (w : World) (R : Value → World → Prop) : sxFn Try.prog TT h_made_Mod Try.f21 #[(.int .i64 n), (.int .i64 m)] w R = F_made_Mod n m w R := by kernel_rfl
theorem F_made_Mod_ok {R : Ending → World → Prop} (n : Int) (m : Int) (w : World) (h : F_made_Mod n m w fun v w' => R (.returned v) w') : Calls Try.prog N_made_Mod #[(.int .i64 n), (.int .i64 m)] w R :=
  calls_of (f := 21) follows_ok Try.func21 (Eq.mpr (F_made_Mod_eq n m w _) h)

def h_receiver_Tick : H := (.seq .reg (.seq (.seq .reg (.cond (.seq .reg .leaf) .leaf)) (.seq .reg (.seq .reg (.seq (.seq .reg (.cond (.seq .reg .leaf) .leaf)) (.cut [] [32, 33, 34, 35, 36, 37, 38, 39, 40, 41, 42, 43, 44, 45, 46, 47, 48, 49, 50, 51, 52, 53, 54, 55, 56, 57, 58, 59, 60, 61, 62, 63, 64, 65, 66, 67, 68, 69, 70, 71, 72, 73, 74, 75, 76, 77, 78, 79, 80] (.seq .reg (.seq .reg (.cond (.seq (.seq (.draw .blk (.one 0 .pre (.one 1 .pre (.one 2 .pre (.one 3 .pre (.one 4 .pre (.one 5 .pre (.one 7 .stable (.one 8 .stable (.one 9 .stable (.one 10 .stable (.one 11 .stable (.one 12 .stable (.one 6 .keep (.one 13 .keep (.one 14 .stable .nil)))))))))))))))) (.cond .reg .leaf)) (.seq .reg .reg)) .leaf))) (.seq .reg .leaf)))))))
def F_receiver_Tick (r_0 : Int) (r_1 : Int) (r_2 : Int) (r_3 : Int) (r_4 : Int) (r_5 : Int) (r_6 : Int) (r_7 : Int) (r_8 : Int) (r_9 : Int) (r_10 : Int) (r_11 : Int) (r_12 : Bool) (r_13_a : Option Addr) (r_13_l : Nat) (r_13_c : Nat) (w : World) (R : Value → World → Prop) : Prop :=
  (kAlloc w #[(.int .i64 r_0), (.int .i64 r_1), (.int .i64 r_2), (.int .i64 r_3), (.int .i64 r_4), (.int .i64 r_5), (.int .i64 r_6), (.int .i64 r_7), (.int .i64 r_8), (.int .i64 r_9), (.int .i64 r_10), (.int .i64 r_11), (.bool r_12), (.slice r_13_a r_13_l r_13_c)] Ty_api_Receiver fun b w1 =>
  (kAlloc w1 #[.int .i64 (0 : Int), .int .i64 (0 : Int), .int .i64 (0 : Int), .int .i64 (0 : Int), .int .i64 (0 : Int), .int .i64 (0 : Int), .int .i64 (0 : Int), .int .i64 (0 : Int), .int .i64 (0 : Int), .int .i64 (0 : Int), .int .i64 (0 : Int), .int .i64 (0 : Int), .bool false, .slice none 0 0] Ty_api_Receiver fun b1 w2 =>
  (∃ x_0 x_1 x_2 x_3 x_4 x_5 x_6 x_7 x_8 x_9 x_10 x_11 : Int, ∃ x_12 : Bool, ∃ x_13_a : Option Addr, ∃ x_13_l x_13_c : Nat, cellsAt w2 ⟨b, 0, none⟩ 0 [(.int .i64 x_0), (.int .i64 x_1), (.int .i64 x_2), (.int .i64 x_3), (.int .i64 x_4), (.int .i64 x_5), (.int .i64 x_6), (.int .i64 x_7), (.int .i64 x_8), (.int .i64 x_9), (.int .i64 x_10), (.int .i64 x_11), (.bool x_12), (.slice x_13_a x_13_l x_13_c)] ∧
  (Calls Try.prog N_receiver_Valid #[(.agg #[.int .i64 x_0, .int .i64 x_1, .int .i64 x_2, .int .i64 x_3, .int .i64 x_4, .int .i64 x_5, .int .i64 x_6, .int .i64 x_7, .int .i64 x_8, .int .i64 x_9, .int .i64 x_10, .int .i64 x_11, .bool x_12, .slice x_13_a x_13_l x_13_c])] w2 fun e_ w3 =>
  ∃ r : Bool, e_ = .returned (.bool r) ∧
  (bsplit (!r)
    ((sxStore w3 ⟨b1, 0, none⟩ 0 [(.int .i64 (0 : Int)), (.int .i64 (0 : Int)), (.int .i64 (0 : Int)), (.int .i64 (0 : Int)), (.int .i64 (0 : Int)), (.int .i64 (0 : Int)), (.int .i64 (0 : Int)), (.int .i64 (0 : Int)), (.int .i64 (0 : Int)), (.int .i64 (0 : Int)), (.int .i64 (0 : Int)), (.int .i64 (0 : Int)), (.bool false), (.slice none 0 0)] fun w4 =>
    (∃ r_01 r_13 r_21 r_31 r_41 r_51 r_61 r_71 r_81 r_91 r_101 r_111 : Int, ∃ r_121 : Bool, ∃ r_13_a1 : Option Addr, ∃ r_13_l1 r_13_c1 : Nat, cellsAt w4 ⟨b1, 0, none⟩ 0 [(.int .i64 r_01), (.int .i64 r_13), (.int .i64 r_21), (.int .i64 r_31), (.int .i64 r_41), (.int .i64 r_51), (.int .i64 r_61), (.int .i64 r_71), (.int .i64 r_81), (.int .i64 r_91), (.int .i64 r_101), (.int .i64 r_111), (.bool r_121), (.slice r_13_a1 r_13_l1 r_13_c1)] ∧
    R (.tuple #[(.agg #[.int .i64 r_01, .int .i64 r_13, .int .i64 r_21, .int .i64 r_31, .int .i64 r_41, .int .i64 r_51, .int .i64 r_61, .int .i64 r_71, .int .i64 r_81, .int .i64 r_91, .int .i64 r_101, .int .i64 r_111, .bool r_121, .slice r_13_a1 r_13_l1 r_13_c1]), (.int .i64 (1 : Int))]) w4)))
    ((∃ x_01 x_13 x_21 x_31 x_41 x_51 x_61 x_71 x_81 x_91 x_101 x_111 : Int, ∃ x_121 : Bool, ∃ x_13_a1 : Option Addr, ∃ x_13_l1 x_13_c1 : Nat, cellsAt w3 ⟨b, 0, none⟩ 0 [(.int .i64 x_01), (.int .i64 x_13), (.int .i64 x_21), (.int .i64 x_31), (.int .i64 x_41), (.int .i64 x_51), (.int .i64 x_61), (.int .i64 x_71), (.int .i64 x_81), (.int .i64 x_91), (.int .i64 x_101), (.int .i64 x_111), (.bool x_121), (.slice x_13_a1 x_13_l1 x_13_c1)] ∧
    (Calls Try.prog N_receiver_begin #[(.agg #[.int .i64 x_01, .int .i64 x_13, .int .i64 x_21, .int .i64 x_31, .int .i64 x_41, .int .i64 x_51, .int .i64 x_61, .int .i64 x_71, .int .i64 x_81, .int .i64 x_91, .int .i64 x_101, .int .i64 x_111, .bool x_121, .slice x_13_a1 x_13_l1 x_13_c1])] w3 fun e_1 w5 =>
    ∃ r1 : Option Addr, e_1 = .returned (.pointer r1) ∧
    (kNil r1 fun x =>
    (kLd w5 (x.add 11) .i64 fun x1 =>
    (kW .i64 (x1 - (1 : Int)) fun x2 =>
    (kNil r1 fun x3 =>
    (kSet w5 (x3.add 11) (.int .i64 (if x2 > (0 : Int) then x2 else (0 : Int))) fun w6 =>
    (kNil r1 fun x4 =>
    (kLd w6 (x4.add 10) .i64 fun x5 =>
    (bsplit (decide (x5 = (0 : Int)))
      ((kNil r1 fun x6 =>
      (∃ x_02 x_14 x_22 x_32 x_42 x_52 x_62 x_72 x_82 x_92 x_102 x_112 : Int, ∃ x_122 : Bool, ∃ x_13_a2 : Option Addr, ∃ x_13_l2 x_13_c2 : Nat, cellsAt w6 x6 0 [(.int .i64 x_02), (.int .i64 x_14), (.int .i64 x_22), (.int .i64 x_32), (.int .i64 x_42), (.int .i64 x_52), (.int .i64 x_62), (.int .i64 x_72), (.int .i64 x_82), (.int .i64 x_92), (.int .i64 x_102), (.int .i64 x_112), (.bool x_122), (.slice x_13_a2 x_13_l2 x_13_c2)] ∧
      (sxStore w6 ⟨b1, 0, none⟩ 0 [(.int .i64 x_02), (.int .i64 x_14), (.int .i64 x_22), (.int .i64 x_32), (.int .i64 x_42), (.int .i64 x_52), (.int .i64 x_62), (.int .i64 x_72), (.int .i64 x_82), (.int .i64 x_92), (.int .i64 x_102), (.int .i64 x_112), (.bool x_122), (.slice x_13_a2 x_13_l2 x_13_c2)] fun w7 =>
      (∃ r_02 r_14 r_22 r_32 r_42 r_52 r_62 r_72 r_82 r_92 r_102 r_112 : Int, ∃ r_122 : Bool, ∃ r_13_a2 : Option Addr, ∃ r_13_l2 r_13_c2 : Nat, cellsAt w7 ⟨b1, 0, none⟩ 0 [(.int .i64 r_02), (.int .i64 r_14), (.int .i64 r_22), (.int .i64 r_32), (.int .i64 r_42), (.int .i64 r_52), (.int .i64 r_62), (.int .i64 r_72), (.int .i64 r_82), (.int .i64 r_92), (.int .i64 r_102), (.int .i64 r_112), (.bool r_122), (.slice r_13_a2 r_13_l2 r_13_c2)] ∧
      R (.tuple #[(.agg #[.int .i64 r_02, .int .i64 r_14, .int .i64 r_22, .int .i64 r_32, .int .i64 r_42, .int .i64 r_52, .int .i64 r_62, .int .i64 r_72, .int .i64 r_82, .int .i64 r_92, .int .i64 r_102, .int .i64 r_112, .bool r_122, .slice r_13_a2 r_13_l2 r_13_c2]), (.int .i64 (0 : Int))]) w7)))))
      ((∃ J : World → Prop,
      (∀ (_junk : Env)  (w19 : World), J w19 →
        (kNil r1 fun x24 =>
        (∃ x_03 x_15 x_23 x_33 x_43 x_53 x_63 x_73 x_83 x_93 x_103 x_113 : Int, ∃ x_123 : Bool, ∃ x_13_a3 : Option Addr, ∃ x_13_l3 x_13_c3 : Nat, cellsAt w19 x24 0 [(.int .i64 x_03), (.int .i64 x_15), (.int .i64 x_23), (.int .i64 x_33), (.int .i64 x_43), (.int .i64 x_53), (.int .i64 x_63), (.int .i64 x_73), (.int .i64 x_83), (.int .i64 x_93), (.int .i64 x_103), (.int .i64 x_113), (.bool x_123), (.slice x_13_a3 x_13_l3 x_13_c3)] ∧
        (sxStore w19 ⟨b1, 0, none⟩ 0 [(.int .i64 x_03), (.int .i64 x_15), (.int .i64 x_23), (.int .i64 x_33), (.int .i64 x_43), (.int .i64 x_53), (.int .i64 x_63), (.int .i64 x_73), (.int .i64 x_83), (.int .i64 x_93), (.int .i64 x_103), (.int .i64 x_113), (.bool x_123), (.slice x_13_a3 x_13_l3 x_13_c3)] fun w20 =>
        (∃ r_03 r_15 r_23 r_33 r_43 r_53 r_63 r_73 r_83 r_93 r_103 r_113 : Int, ∃ r_123 : Bool, ∃ r_13_a3 : Option Addr, ∃ r_13_l3 r_13_c3 : Nat, cellsAt w20 ⟨b1, 0, none⟩ 0 [(.int .i64 r_03), (.int .i64 r_15), (.int .i64 r_23), (.int .i64 r_33), (.int .i64 r_43), (.int .i64 r_53), (.int .i64 r_63), (.int .i64 r_73), (.int .i64 r_83), (.int .i64 r_93), (.int .i64 r_103), (.int .i64 r_113), (.bool r_123), (.slice r_13_a3 r_13_l3 r_13_c3)] ∧
        R (.tuple #[(.agg #[.int .i64 r_03, .int .i64 r_15, .int .i64 r_23, .int .i64 r_33, .int .i64 r_43, .int .i64 r_53, .int .i64 r_63, .int .i64 r_73, .int .i64 r_83, .int .i64 r_93, .int .i64 r_103, .int .i64 r_113, .bool r_123, .slice r_13_a3 r_13_l3 r_13_c3]), (.int .i64 (0 : Int))]) w20))))) ∧
      (kNil r1 fun x7 =>
      (kLd w6 (x7.add 10) .i64 fun x8 =>
      (kW .i64 (x8 - (1 : Int)) fun x9 =>
      (kNil r1 fun x10 =>
      (kSet w6 (x10.add 10) (.int .i64 x9) fun w8 =>
      (kNil r1 fun x11 =>
      (kLd w8 (x11.add 10) .i64 fun x12 =>
      (bsplit (decide (x12 = (0 : Int)))
        ((kDrew w8 fun w9 =>
        (∃ S : Nat → Prop,
        (kNil r1 fun x13 =>
        (kLd w9 (x13.add 9) .i64 fun x14 =>
        (kNil r1 fun x15 =>
        (S (x15.add 8).block ∧
        (kLd w9 (x15.add 8) .i64 fun x16 =>
        (Calls Try.prog N_receiver_side_place #[(.pointer r1), (.int .i64 x14)] w9 fun e_2 w10 =>
        ∃ r2 : Int, e_2 = .returned (.int .i64 r2) ∧
        (KeepsB S w9 w10 ∧ (Calls Try.prog N_receiver_side_place #[(.pointer r1), (.int .i64 x16)] w10 fun e_3 w11 =>
        ∃ r3 : Int, e_3 = .returned (.int .i64 r3) ∧
        (KeepsB S w9 w11 ∧ (bsplit (decide (r2 > r3))
          ((kNil r1 fun x17 =>
          (kLd w11 (x17.add 9) .i64 fun x18 =>
          (kNil r1 fun x19 =>
          (kSet w11 (x19.add 8) (.int .i64 x18) fun w12 =>
          (kNil r1 fun x20 =>
          (kSet w12 (x20.add 12) (.bool true) fun w13 =>
          (kNil r1 fun x21 =>
          (kSet w13 (x21.add 9) (.int .i64 (-1 : Int)) fun w14 =>
          (Calls Try.prog N_receiver_side_start #[(.pointer r1)] w14 fun e_4 w15 =>
          e_4 = .returned (.tuple #[]) ∧
          J w15))))))))))
          ((kNil r1 fun x22 =>
          (kSet w11 (x22.add 12) (.bool true) fun w16 =>
          (kNil r1 fun x23 =>
          (kSet w16 (x23.add 9) (.int .i64 (-1 : Int)) fun w17 =>
          (Calls Try.prog N_receiver_side_start #[(.pointer r1)] w17 fun e_5 w18 =>
          e_5 = .returned (.tuple #[]) ∧
          J w18)))))))))))))))))))
        (J w8)))))))))))))))))))))))))))
theorem F_receiver_Tick_eq (r_0 : Int) (r_1 : Int) (r_2 : Int) (r_3 : Int) (r_4 : Int) (r_5 : Int) (r_6 : Int) (r_7 : Int) (r_8 : Int) (r_9 : Int) (r_10 : Int) (r_11 : Int) (r_12 : Bool) (r_13_a : Option Addr) (r_13_l : Nat) (r_13_c : Nat) (w : World) (R : Value → World → Prop) : sxFn Try.prog TT h_receiver_Tick Try.f22 #[(.agg #[.int .i64 r_0, .int .i64 r_1, .int .i64 r_2, .int .i64 r_3, .int .i64 r_4, .int .i64 r_5, .int .i64 r_6, .int .i64 r_7, .int .i64 r_8, .int .i64 r_9, .int .i64 r_10, .int .i64 r_11, .bool r_12, .slice r_13_a r_13_l r_13_c])] w R = F_receiver_Tick r_0 r_1 r_2 r_3 r_4 r_5 r_6 r_7 r_8 r_9 r_10 r_11 r_12 r_13_a r_13_l r_13_c w R := by kernel_rfl
theorem F_receiver_Tick_ok {R : Ending → World → Prop} (r_0 : Int) (r_1 : Int) (r_2 : Int) (r_3 : Int) (r_4 : Int) (r_5 : Int) (r_6 : Int) (r_7 : Int) (r_8 : Int) (r_9 : Int) (r_10 : Int) (r_11 : Int) (r_12 : Bool) (r_13_a : Option Addr) (r_13_l : Nat) (r_13_c : Nat) (w : World) (h : F_receiver_Tick r_0 r_1 r_2 r_3 r_4 r_5 r_6 r_7 r_8 r_9 r_10 r_11 r_12 r_13_a r_13_l r_13_c w fun v w' => R (.returned v) w') : Calls Try.prog N_receiver_Tick #[(.agg #[.int .i64 r_0, .int .i64 r_1, .int .i64 r_2, .int .i64 r_3, .int .i64 r_4, .int .i64 r_5, .int .i64 r_6, .int .i64 r_7, .int .i64 r_8, .int .i64 r_9, .int .i64 r_10, .int .i64 r_11, .bool r_12, .slice r_13_a r_13_l r_13_c])] w R :=
  calls_of (f := 22) follows_ok Try.func22 (Eq.mpr (F_receiver_Tick_eq r_0 r_1 r_2 r_3 r_4 r_5 r_6 r_7 r_8 r_9 r_10 r_11 r_12 r_13_a r_13_l r_13_c w _) h)

def h_ref20_Place : H := (.seq .reg (.seq .reg .leaf))
def F_ref20_Place (bits : Int) (first : Int) (sn : Int) (w : World) (R : Value → World → Prop) : Prop :=
  (Calls Try.prog N_ref02_Distance #[(.int .i64 bits), (.int .i64 first), (.int .i64 sn)] w fun e_ w1 =>
  ∃ r : Int, e_ = .returned (.int .i64 r) ∧
  R (.int .i64 r) w1)
theorem F_ref20_Place_eq (bits : Int) (first : Int) (sn : Int) (w : World) (R : Value → World → Prop) : sxFn Try.prog TT h_ref20_Place Try.f23 #[(.int .i64 bits), (.int .i64 first), (.int .i64 sn)] w R = F_ref20_Place bits first sn w R := by kernel_rfl
theorem F_ref20_Place_ok {R : Ending → World → Prop} (bits : Int) (first : Int) (sn : Int) (w : World) (h : F_ref20_Place bits first sn w fun v w' => R (.returned v) w') : Calls Try.prog N_ref20_Place #[(.int .i64 bits), (.int .i64 first), (.int .i64 sn)] w R :=
  calls_of (f := 23) follows_ok Try.func23 (Eq.mpr (F_ref20_Place_eq bits first sn w _) h)

def h_made_Dice_Bits : H := (.seq .reg (.seq .reg .leaf))
def F_made_Dice_Bits (d_b : Nat) (d_o : Nat) (w : World) (R : Value → World → Prop) : Prop :=
  (kAlloc w #[(.int .i64 (5 : Int)), (.int .i64 (5 : Int)), (.int .i64 (6 : Int)), (.int .i64 (9 : Int))] Ty_int fun b w1 =>
  (Calls Try.prog N_made_Dice_Next #[(.pointer (some ⟨d_b, d_o, none⟩)), (.int .i64 (4 : Int))] w1 fun e_ w2 =>
  ∃ r : Int, e_ = .returned (.int .i64 r) ∧
  (kIx (some ⟨b, 0, none⟩) 4 r fun b1 =>
  (kLd w2 (b1.add (r.toNat * 1)) .i64 fun x =>
  R (.int .i64 x) w2))))
theorem F_made_Dice_Bits_eq (d_b : Nat) (d_o : Nat) (w : World) (R : Value → World → Prop) : sxFn Try.prog TT h_made_Dice_Bits Try.f24 #[(.pointer (some ⟨d_b, d_o, none⟩))] w R = F_made_Dice_Bits d_b d_o w R := by kernel_rfl
theorem F_made_Dice_Bits_ok {R : Ending → World → Prop} (d_b : Nat) (d_o : Nat) (w : World) (h : F_made_Dice_Bits d_b d_o w fun v w' => R (.returned v) w') : Calls Try.prog N_made_Dice_Bits #[(.pointer (some ⟨d_b, d_o, none⟩))] w R :=
  calls_of (f := 24) follows_ok Try.func24 (Eq.mpr (F_made_Dice_Bits_eq d_b d_o w _) h)

def h_sender_ValidLink : H := (.seq .reg (.cut [(3, .p .bool)] [3, 4, 5, 6, 7, 8, 9, 10, 11, 12, 13, 14, 15, 16] .reg (.seq .reg .leaf)))
def F_sender_ValidLink (l_0 : Int) (l_1 : Int) (l_2 : Int) (l_3 : Int) (l_4 : Int) (l_5 : Int) (w : World) (R : Value → World → Prop) : Prop :=
  (kAlloc w #[(.int .i64 l_0), (.int .i64 l_1), (.int .i64 l_2), (.int .i64 l_3), (.int .i64 l_4), (.int .i64 l_5)] Ty_api_Link fun b w1 =>
  (∃ J : Bool → World → Prop,
  (∀ (_junk : Env) (times : Bool) (w5 : World), J times w5 →
    (kLd w5 ⟨b, 0, none⟩ .i64 fun x3 =>
    (Calls Try.prog N_counter_Bits #[(.int .i64 x3)] w5 fun e_3 w6 =>
    ∃ r3 : Bool, e_3 = .returned (.bool r3) ∧
    (bsplit r3
      ((kLd w6 ⟨b, 1, none⟩ .i64 fun x4 =>
      (Calls Try.prog N_sender_between #[(.int .i64 x4), (.int .i64 (1 : Int)), (.int .i64 (64 : Int))] w6 fun e_4 w7 =>
      ∃ r4 : Bool, e_4 = .returned (.bool r4) ∧
      (bsplit r4
        ((bsplit times
          ((kLd w7 ⟨b, 5, none⟩ .i64 fun x5 =>
          (Calls Try.prog N_sender_between #[(.int .i64 x5), (.int .i64 (1 : Int)), (.int .i64 (32 : Int))] w7 fun e_5 w8 =>
          ∃ r5 : Bool, e_5 = .returned (.bool r5) ∧
          R (.bool r5) w8)))
          (R (.bool false) w7)))
        (R (.bool false) w7)))))
      (R (.bool false) w6))))) ∧
  (kLd w1 ⟨b, 2, none⟩ .i64 fun x =>
  (Calls Try.prog N_sender_between #[(.int .i64 x), (.int .i64 (1 : Int)), (.int .i64 (1000 : Int))] w1 fun e_ w2 =>
  ∃ r : Bool, e_ = .returned (.bool r) ∧
  (bsplit r
    ((kLd w2 ⟨b, 3, none⟩ .i64 fun x1 =>
    (Calls Try.prog N_sender_between #[(.int .i64 x1), (.int .i64 (1 : Int)), (.int .i64 (1000 : Int))] w2 fun e_1 w3 =>
    ∃ r1 : Bool, e_1 = .returned (.bool r1) ∧
    (bsplit r1
      ((kLd w3 ⟨b, 4, none⟩ .i64 fun x2 =>
      (Calls Try.prog N_sender_between #[(.int .i64 x2), (.int .i64 (0 : Int)), (.int .i64 (1000 : Int))] w3 fun e_2 w4 =>
      ∃ r2 : Bool, e_2 = .returned (.bool r2) ∧
      J r2 w4)))
      (J false w3)))))
    (J false w2))))))
theorem F_sender_ValidLink_eq (l_0 : Int) (l_1 : Int) (l_2 : Int) (l_3 : Int) (l_4 : Int) (l_5 : Int) (w : World) (R : Value → World → Prop) : sxFn Try.prog TT h_sender_ValidLink Try.f25 #[(.agg #[.int .i64 l_0, .int .i64 l_1, .int .i64 l_2, .int .i64 l_3, .int .i64 l_4, .int .i64 l_5])] w R = F_sender_ValidLink l_0 l_1 l_2 l_3 l_4 l_5 w R := by kernel_rfl
theorem F_sender_ValidLink_ok {R : Ending → World → Prop} (l_0 : Int) (l_1 : Int) (l_2 : Int) (l_3 : Int) (l_4 : Int) (l_5 : Int) (w : World) (h : F_sender_ValidLink l_0 l_1 l_2 l_3 l_4 l_5 w fun v w' => R (.returned v) w') : Calls Try.prog N_sender_ValidLink #[(.agg #[.int .i64 l_0, .int .i64 l_1, .int .i64 l_2, .int .i64 l_3, .int .i64 l_4, .int .i64 l_5])] w R :=
  calls_of (f := 25) follows_ok Try.func25 (Eq.mpr (F_sender_ValidLink_eq l_0 l_1 l_2 l_3 l_4 l_5 w _) h)

def h_ref02_valid : H := (.seq .reg (.seq .reg .leaf))
def F_ref02_valid (n : Int) (w : World) (R : Value → World → Prop) : Prop :=
  (bsplit (decide (n ≥ (1 : Int)))
    ((kLet (decide (n ≤ (32 : Int))) fun x =>
    R (.bool x) w))
    (R (.bool false) w))
theorem F_ref02_valid_eq (n : Int) (w : World) (R : Value → World → Prop) : sxFn Try.prog TT h_ref02_valid Try.f26 #[(.int .i64 n)] w R = F_ref02_valid n w R := by kernel_rfl
theorem F_ref02_valid_ok {R : Ending → World → Prop} (n : Int) (w : World) (h : F_ref02_valid n w fun v w' => R (.returned v) w') : Calls Try.prog N_ref02_valid #[(.int .i64 n)] w R :=
  calls_of (f := 26) follows_ok Try.func26 (Eq.mpr (F_ref02_valid_eq n w _) h)

def h_ref18_Valid : H := (.seq .reg (.seq (.cut [(65, .p .bool)] [5, 6, 7, 8, 9, 10, 11, 12, 13, 14, 15, 16, 17, 18, 19, 20, 21, 22, 23, 24, 25, 26, 27, 28, 29, 30, 31, 32, 33, 34, 35, 36, 37, 38, 39, 40, 41, 42, 43, 44, 45, 46, 47, 48, 49, 50, 51, 52, 53, 54, 55, 56, 57, 58, 59, 60, 61, 62, 63, 64, 65] .reg (.cond (.seq .reg .leaf) .leaf)) (.seq (.seq .reg (.cond (.seq .reg .leaf) .leaf)) (.seq .reg .leaf))))
def F_ref18_Valid (bits : Int) (p_0 : Int) (p_1 : Int) (p_2 : Int) (p_3 : Int) (p_4_a : Option Addr) (p_4_l : Nat) (p_4_c : Nat) (w : World) (R : Value → World → Prop) : Prop :=
  (kAlloc w #[(.int .i64 p_0), (.int .i64 p_1), (.int .i64 p_2), (.int .i64 p_3), (.slice p_4_a p_4_l p_4_c)] Ty_api_Piece fun b w1 =>
  (∃ J : Bool → World → Prop,
  (∀ (_junk : Env) (x12 : Bool) (w3 : World), J x12 w3 →
    (bsplit x12
      (R (.bool false) w3)
      ((kLd w3 ⟨b, 1, none⟩ .i64 fun x13 =>
      (bsplit (decide (x13 = (0 : Int)))
        ((kLd w3 ⟨b, 3, none⟩ .i64 fun x14 =>
          (kLet (decide (x14 = (0 : Int))) fun x15 =>
          R (.bool x15) w3)))
        ((kLd w3 ⟨b, 1, none⟩ .i64 fun x18 =>
        (bsplit (decide (x18 = (1 : Int)))
          ((kLd w3 ⟨b, 3, none⟩ .i64 fun x19 =>
          (kLet (decide (x19 = (0 : Int))) fun x20 =>
          R (.bool x20) w3)))
          ((kLd w3 ⟨b, 3, none⟩ .i64 fun x21 =>
          (kLet (decide (x21 > (0 : Int))) fun x22 =>
          R (.bool x22) w3))))))))))) ∧
  (Calls Try.prog N_ref15_Bits #[(.int .i64 bits)] w1 fun e_ w2 =>
  ∃ r : Bool, e_ = .returned (.bool r) ∧
  (bsplit (!r)
    (J true w2)
    ((kLd w2 ⟨b, 0, none⟩ .i64 fun x =>
    (bsplit (decide (x < (0 : Int)))
      (J true w2)
      ((kLd w2 ⟨b, 0, none⟩ .i64 fun x1 =>
      (kW .u64 (bits) fun x2 =>
      (0 ≤ x2 ∧ (kW .i64 ((1 : Int) * 2 ^ (min x2.toNat (IntKind.bits .i64))) fun x3 =>
      (bsplit (decide (x1 ≥ x3))
        (J true w2)
        ((kLd w2 ⟨b, 1, none⟩ .i64 fun x4 =>
        (bsplit (decide (x4 < (0 : Int)))
          (J true w2)
          ((kLd w2 ⟨b, 1, none⟩ .i64 fun x5 =>
          (bsplit (decide (x5 > (3 : Int)))
            (J true w2)
            ((kLd w2 ⟨b, 2, none⟩ .i64 fun x6 =>
            (bsplit (decide (x6 < (0 : Int)))
              (J true w2)
              ((kLd w2 ⟨b, 2, none⟩ .i64 fun x7 =>
              (bsplit (decide (x7 > (1 : Int)))
                (J true w2)
                ((kLdS w2 ⟨b, 4, none⟩ fun _ x_l _ =>
                (bsplit (decide ((x_l : Int) < (1 : Int)))
                  (J true w2)
                  ((kLd w2 ⟨b, 3, none⟩ .i64 fun x8 =>
                  (bsplit (decide (x8 < (0 : Int)))
                    (J true w2)
                    ((kLd w2 ⟨b, 3, none⟩ .i64 fun x9 =>
                    (bsplit (decide (x9 > (2054 : Int)))
                      (J true w2)
                      ((kLd w2 ⟨b, 3, none⟩ .i64 fun x10 =>
                      (kLdS w2 ⟨b, 4, none⟩ fun _ x_l1 _ =>
                      (kW .i64 (x10 + (x_l1 : Int)) fun x11 =>
                      J (decide (x11 > (2054 : Int))) w2))))))))))))))))))))))))))))))))))))))
theorem F_ref18_Valid_eq (bits : Int) (p_0 : Int) (p_1 : Int) (p_2 : Int) (p_3 : Int) (p_4_a : Option Addr) (p_4_l : Nat) (p_4_c : Nat) (w : World) (R : Value → World → Prop) : sxFn Try.prog TT h_ref18_Valid Try.f27 #[(.int .i64 bits), (.agg #[.int .i64 p_0, .int .i64 p_1, .int .i64 p_2, .int .i64 p_3, .slice p_4_a p_4_l p_4_c])] w R = F_ref18_Valid bits p_0 p_1 p_2 p_3 p_4_a p_4_l p_4_c w R := by kernel_rfl
theorem F_ref18_Valid_ok {R : Ending → World → Prop} (bits : Int) (p_0 : Int) (p_1 : Int) (p_2 : Int) (p_3 : Int) (p_4_a : Option Addr) (p_4_l : Nat) (p_4_c : Nat) (w : World) (h : F_ref18_Valid bits p_0 p_1 p_2 p_3 p_4_a p_4_l p_4_c w fun v w' => R (.returned v) w') : Calls Try.prog N_ref18_Valid #[(.int .i64 bits), (.agg #[.int .i64 p_0, .int .i64 p_1, .int .i64 p_2, .int .i64 p_3, .slice p_4_a p_4_l p_4_c])] w R :=
  calls_of (f := 27) follows_ok Try.func27 (Eq.mpr (F_ref18_Valid_eq bits p_0 p_1 p_2 p_3 p_4_a p_4_l p_4_c w _) h)

def h_ref01_Put : H := (.seq .reg (.seq (.seq .reg (.block (.loop [(0, .p .slice), (7, .p (.int .i64))] [0, 7, 10, 11, 12, 13, 14, 15, 16, 17, 18, 19, 20, 21, 22] (.seq (.seq .reg (.cond .leaf .leaf)) (.seq (.block .reg) .reg))))) (.seq .reg .leaf)))
def F_ref01_Put (b_a : Option Addr) (b_l : Nat) (b_c : Nat) (bytes : Int) (v : Int) (w : World) (R : Value → World → Prop) : Prop :=
  (kW .i64 (bytes - (1 : Int)) fun x =>
  (∃ I : Option Addr → Nat → Nat → Int → Nat × (World → Prop), (I b_a b_l b_c x).2 w ∧
  (∀ (_junk : Env) (b_a1 : Option Addr) (b_l1 : Nat) (b_c1 : Nat) (i : Int) (w1 : World), (I b_a1 b_l1 b_c1 i).2 w1 →
    (bsplit (decide (i ≥ (0 : Int)))
      ((kW .i64 ((8 : Int) * i) fun x1 =>
      (kW .u64 (x1) fun x2 =>
      (0 ≤ x2 ∧ (kLet (Int.fdiv v (2 ^ (min x2.toNat (IntKind.bits .i64)))) fun x3 =>
      (kW .u8 (x3) fun x4 =>
      (kAlloc w1 #[(.int .u8 x4)] Ty_uint8 fun b w2 =>
      (AppP Try.prog #[Ty_S_uint8, Ty_S_uint8] Ty_S_uint8 #[(.slice b_a1 b_l1 b_c1), (.slice (some ⟨b, 0, none⟩) 1 1)] w2 fun x_a x_l x_c w3 =>
      (kW .i64 (i - (1 : Int)) fun x5 =>
      ((I x_a x_l x_c x5).2 w3 ∧ (I x_a x_l x_c x5).1 < (I b_a1 b_l1 b_c1 i).1))))))))))
      (R (.slice b_a1 b_l1 b_c1) w1)))))
theorem F_ref01_Put_eq (b_a : Option Addr) (b_l : Nat) (b_c : Nat) (bytes : Int) (v : Int) (w : World) (R : Value → World → Prop) : sxFn Try.prog TT h_ref01_Put Try.f28 #[(.slice b_a b_l b_c), (.int .i64 bytes), (.int .i64 v)] w R = F_ref01_Put b_a b_l b_c bytes v w R := by kernel_rfl
theorem F_ref01_Put_ok {R : Ending → World → Prop} (b_a : Option Addr) (b_l : Nat) (b_c : Nat) (bytes : Int) (v : Int) (w : World) (h : F_ref01_Put b_a b_l b_c bytes v w fun v w' => R (.returned v) w') : Calls Try.prog N_ref01_Put #[(.slice b_a b_l b_c), (.int .i64 bytes), (.int .i64 v)] w R :=
  calls_of (f := 28) follows_ok Try.func28 (Eq.mpr (F_ref01_Put_eq b_a b_l b_c bytes v w _) h)

def h_ref18_Head : H := (.seq .reg (.seq (.seq .reg (.cond (.seq .reg .leaf) .leaf)) (.seq .reg .leaf)))
def F_ref18_Head (part : Int) (w : World) (R : Value → World → Prop) : Prop :=
  (bsplit (decide (part = (0 : Int)))
    (R (.int .i64 (2 : Int)) w)
    ((bsplit (decide (part = (1 : Int)))
      (R (.int .i64 (2 : Int)) w)
      (R (.int .i64 (4 : Int)) w))))
theorem F_ref18_Head_eq (part : Int) (w : World) (R : Value → World → Prop) : sxFn Try.prog TT h_ref18_Head Try.f29 #[(.int .i64 part)] w R = F_ref18_Head part w R := by kernel_rfl
theorem F_ref18_Head_ok {R : Ending → World → Prop} (part : Int) (w : World) (h : F_ref18_Head part w fun v w' => R (.returned v) w') : Calls Try.prog N_ref18_Head #[(.int .i64 part)] w R :=
  calls_of (f := 29) follows_ok Try.func29 (Eq.mpr (F_ref18_Head_eq part w _) h)

def h_receiver_begin : H := (.seq .reg (.seq .reg (.seq (.seq .reg (.block (.loop [(12, .p (.int .i64))] [3, 4, 12, 13, 14, 15, 16, 17, 18, 19, 20, 21, 22, 23, 24, 25, 26, 27, 28, 29, 30, 31, 32, 33, 34, 35] (.seq .reg (.seq (.cond .leaf .leaf) (.seq (.block (.seq .reg (.seq .reg (.draw .cel (.one 0 .stable (.one 1 .stable (.one 2 .pre (.one 3 .pre (.one 4 .pre (.one 5 .pre (.one 7 .stable (.one 8 .stable (.one 9 .stable (.one 10 .stable (.one 6 .keep (.one 11 .keep (.one 12 .stable (.one 13 .stable (.one 14 .keep (.one 15 .stable (.one 16 .stable (.one 17 .last .nil)))))))))))))))))))))) .reg)))))) (.seq .reg .leaf))))
def F_receiver_begin (r_0 : Int) (r_1 : Int) (r_2 : Int) (r_3 : Int) (r_4 : Int) (r_5 : Int) (r_6 : Int) (r_7 : Int) (r_8 : Int) (r_9 : Int) (r_10 : Int) (r_11 : Int) (r_12 : Bool) (r_13_a : Option Addr) (r_13_l : Nat) (r_13_c : Nat) (w : World) (R : Value → World → Prop) : Prop :=
  (kAlloc w #[(.int .i64 r_0), (.int .i64 r_1), (.int .i64 r_2), (.int .i64 r_3), (.int .i64 r_4), (.int .i64 r_5), (.int .i64 r_6), (.int .i64 r_7), (.int .i64 r_8), (.int .i64 r_9), (.int .i64 r_10), (.int .i64 r_11), (.bool r_12), (.slice r_13_a r_13_l r_13_c)] Ty_api_Receiver fun b w1 =>
  (kLdS w1 ⟨b, 13, none⟩ fun x_a x_l x_c =>
  (Calls Try.prog N_slices_Clone_Sapi_Partial_api_Partial #[(.slice x_a x_l x_c)] w1 fun e_ w2 =>
  ∃ r_a : Option Addr, ∃ r_l r_c : Nat, e_ = .returned (.slice r_a r_l r_c) ∧
  (kSet w2 ⟨b, 13, none⟩ (.slice r_a r_l r_c) fun w3 =>
  (kLdS w3 ⟨b, 13, none⟩ fun _ x_l1 _ =>
  (∃ I : Int → Nat × (World → Prop), (I (0 : Int)).2 w3 ∧
  (∀ (_junk : Env) (x : Int) (w4 : World), (I x).2 w4 →
    (bsplit (decide (x < (x_l1 : Int)))
      ((kLdS w4 ⟨b, 13, none⟩ fun x_a2 x_l2 _ =>
      (kIx x_a2 x_l2 x fun b1 =>
      (kDrew w4 fun w5 =>
      (∃ S : Addr → Prop,
      (kLdS w5 ((b1.add (x.toNat * 5)).add 3) fun x_a3 x_l3 x_c3 =>
      (S ((b1.add (x.toNat * 5)).add 4) ∧
      (kLdS w5 ((b1.add (x.toNat * 5)).add 4) fun x_a4 x_l4 x_c4 =>
      (Calls Try.prog N_slices_Clone_Sbyte_byte #[(.slice x_a3 x_l3 x_c3)] w5 fun e_1 w6 =>
      ∃ r_a1 : Option Addr, ∃ r_l1 r_c1 : Nat, e_1 = .returned (.slice r_a1 r_l1 r_c1) ∧
      (KeepsA S w5 w6 ∧ (Calls Try.prog N_slices_Clone_Sapi_Range_api_Range #[(.slice x_a4 x_l4 x_c4)] w6 fun e_2 w7 =>
      ∃ r_a2 : Option Addr, ∃ r_l2 r_c2 : Nat, e_2 = .returned (.slice r_a2 r_l2 r_c2) ∧
      (KeepsA S w5 w7 ∧ (kSet w7 ((b1.add (x.toNat * 5)).add 3) (.slice r_a1 r_l1 r_c1) fun w8 =>
      (KeepsA S w5 w8 ∧ (kSet w8 ((b1.add (x.toNat * 5)).add 4) (.slice r_a2 r_l2 r_c2) fun w9 =>
      (kW .i64 (x + (1 : Int)) fun x1 =>
      ((I x1).2 w9 ∧ (I x1).1 < (I x).1)))))))))))))))))
      ((∃ x_0 x_1 x_2 x_3 x_4 x_5 x_6 x_7 x_8 x_9 x_10 x_11 : Int, ∃ x_12 : Bool, ∃ x_13_a : Option Addr, ∃ x_13_l x_13_c : Nat, cellsAt w4 ⟨b, 0, none⟩ 0 [(.int .i64 x_0), (.int .i64 x_1), (.int .i64 x_2), (.int .i64 x_3), (.int .i64 x_4), (.int .i64 x_5), (.int .i64 x_6), (.int .i64 x_7), (.int .i64 x_8), (.int .i64 x_9), (.int .i64 x_10), (.int .i64 x_11), (.bool x_12), (.slice x_13_a x_13_l x_13_c)] ∧
      (kAlloc w4 #[(.int .i64 x_0), (.int .i64 x_1), (.int .i64 x_2), (.int .i64 x_3), (.int .i64 x_4), (.int .i64 x_5), (.int .i64 x_6), (.int .i64 x_7), (.int .i64 x_8), (.int .i64 x_9), (.int .i64 x_10), (.int .i64 x_11), (.bool x_12), (.slice x_13_a x_13_l x_13_c)] Ty_receiver_side fun b2 w10 =>
      R (.pointer (some ⟨b2, 0, none⟩)) w10)))))))))))
theorem F_receiver_begin_eq (r_0 : Int) (r_1 : Int) (r_2 : Int) (r_3 : Int) (r_4 : Int) (r_5 : Int) (r_6 : Int) (r_7 : Int) (r_8 : Int) (r_9 : Int) (r_10 : Int) (r_11 : Int) (r_12 : Bool) (r_13_a : Option Addr) (r_13_l : Nat) (r_13_c : Nat) (w : World) (R : Value → World → Prop) : sxFn Try.prog TT h_receiver_begin Try.f30 #[(.agg #[.int .i64 r_0, .int .i64 r_1, .int .i64 r_2, .int .i64 r_3, .int .i64 r_4, .int .i64 r_5, .int .i64 r_6, .int .i64 r_7, .int .i64 r_8, .int .i64 r_9, .int .i64 r_10, .int .i64 r_11, .bool r_12, .slice r_13_a r_13_l r_13_c])] w R = F_receiver_begin r_0 r_1 r_2 r_3 r_4 r_5 r_6 r_7 r_8 r_9 r_10 r_11 r_12 r_13_a r_13_l r_13_c w R := by kernel_rfl
theorem F_receiver_begin_ok {R : Ending → World → Prop} (r_0 : Int) (r_1 : Int) (r_2 : Int) (r_3 : Int) (r_4 : Int) (r_5 : Int) (r_6 : Int) (r_7 : Int) (r_8 : Int) (r_9 : Int) (r_10 : Int) (r_11 : Int) (r_12 : Bool) (r_13_a : Option Addr) (r_13_l : Nat) (r_13_c : Nat) (w : World) (h : F_receiver_begin r_0 r_1 r_2 r_3 r_4 r_5 r_6 r_7 r_8 r_9 r_10 r_11 r_12 r_13_a r_13_l r_13_c w fun v w' => R (.returned v) w') : Calls Try.prog N_receiver_begin #[(.agg #[.int .i64 r_0, .int .i64 r_1, .int .i64 r_2, .int .i64 r_3, .int .i64 r_4, .int .i64 r_5, .int .i64 r_6, .int .i64 r_7, .int .i64 r_8, .int .i64 r_9, .int .i64 r_10, .int .i64 r_11, .bool r_12, .slice r_13_a r_13_l r_13_c])] w R :=
  calls_of (f := 30) follows_ok Try.func30 (Eq.mpr (F_receiver_begin_eq r_0 r_1 r_2 r_3 r_4 r_5 r_6 r_7 r_8 r_9 r_10 r_11 r_12 r_13_a r_13_l r_13_c w _) h)

def h_segment_Decode : H := (.seq .reg (.seq (.block (.seq .reg (.cond (.seq .reg .leaf) (.seq .reg (.cond (.seq .reg .leaf) .leaf))))) (.seq (.draw .no (.one 0 .stable (.one 1 .stable (.one 2 .stable (.one 3 .stable (.one 4 .stable (.one 5 .stable (.one 6 .stable (.one 7 .stable (.one 8 .stable (.one 9 .stable (.one 10 .stable .nil)))))))))))) (.seq .reg (.seq .reg (.seq (.seq .reg (.cond (.seq .reg .leaf) .leaf)) (.cut [] [46, 47, 48, 49, 50, 51, 52, 53, 54, 55, 56, 57, 58] (.seq .reg (.cond (.draw .no (.one 0 .pre (.one 1 .pre (.one 2 .pre (.one 3 .pre (.one 4 .pre (.one 5 .pre (.one 6 .pre (.one 7 .pre (.one 8 .pre (.one 9 .pre (.one 10 .pre (.one 11 .last .nil))))))))))))) .leaf)) (.seq .reg (.seq (.seq .reg (.cond (.seq .reg .leaf) .leaf)) (.seq .reg .leaf))))))))))
def F_segment_Decode (bits : Int) (b_a : Option Addr) (b_l : Nat) (b_c : Nat) (w : World) (R : Value → World → Prop) : Prop :=
  (kAlloc w #[.int .i64 (0 : Int), .int .i64 (0 : Int), .int .i64 (0 : Int), .int .i64 (0 : Int), .slice none 0 0] Ty_api_Piece fun b w1 =>
  (Calls Try.prog N_counter_Bits #[(.int .i64 bits)] w1 fun e_ w2 =>
  ∃ r : Bool, e_ = .returned (.bool r) ∧
  (bsplit (!r)
    ((sxStore w2 ⟨b, 0, none⟩ 0 [(.int .i64 (0 : Int)), (.int .i64 (0 : Int)), (.int .i64 (0 : Int)), (.int .i64 (0 : Int)), (.slice none 0 0)] fun w3 =>
    (∃ r_0 r_1 r_2 r_3 : Int, ∃ r_4_a : Option Addr, ∃ r_4_l r_4_c : Nat, cellsAt w3 ⟨b, 0, none⟩ 0 [(.int .i64 r_0), (.int .i64 r_1), (.int .i64 r_2), (.int .i64 r_3), (.slice r_4_a r_4_l r_4_c)] ∧
    R (.tuple #[(.agg #[.int .i64 r_0, .int .i64 r_1, .int .i64 r_2, .int .i64 r_3, .slice r_4_a r_4_l r_4_c]), (.int .i64 (3 : Int))]) w3)))
    ((kLet (decide ((b_l : Int) < (2 : Int))) fun x =>
    (bsplit x
      ((sxStore w2 ⟨b, 0, none⟩ 0 [(.int .i64 (0 : Int)), (.int .i64 (0 : Int)), (.int .i64 (0 : Int)), (.int .i64 (0 : Int)), (.slice none 0 0)] fun w4 =>
      (∃ r_01 r_11 r_21 r_31 : Int, ∃ r_4_a1 : Option Addr, ∃ r_4_l1 r_4_c1 : Nat, cellsAt w4 ⟨b, 0, none⟩ 0 [(.int .i64 r_01), (.int .i64 r_11), (.int .i64 r_21), (.int .i64 r_31), (.slice r_4_a1 r_4_l1 r_4_c1)] ∧
      R (.tuple #[(.agg #[.int .i64 r_01, .int .i64 r_11, .int .i64 r_21, .int .i64 r_31, .slice r_4_a1 r_4_l1 r_4_c1]), (.int .i64 (5 : Int))]) w4)))
      ((kDrew w2 fun w5 =>
      (kIx b_a b_l (0 : Int) fun b1 =>
      (kLd w5 (b1.add ((0 : Int).toNat * 1)) .u8 fun x1 =>
      (kW .i64 (x1) fun x2 =>
      (kW .i64 (x2 * 2 ^ 8) fun x3 =>
      (kIx b_a b_l (1 : Int) fun b2 =>
      (kLd w5 (b2.add ((1 : Int).toNat * 1)) .u8 fun x4 =>
      (kW .i64 (x4) fun x5 =>
      (kLet (bOr .i64 x3 x5) fun x6 =>
      (kLet (Int.fdiv x6 (2 ^ 14)) fun x7 =>
      (kLet (bAnd .i64 x7 (1 : Int)) fun x8 =>
      (kLet (Int.fdiv x6 (2 ^ 12)) fun x9 =>
      (kLet (bAnd .i64 x9 (3 : Int)) fun x10 =>
      (kLet (bAnd .i64 x6 (4095 : Int)) fun x11 =>
      (kAlloc w5 #[.int .i64 (0 : Int), .int .i64 (0 : Int), .int .i64 (0 : Int), .int .i64 (0 : Int), .slice none 0 0] Ty_api_Piece fun b3 w6 =>
      (sxStore w6 ⟨b3, 0, none⟩ 0 [(.int .i64 x11), (.int .i64 x10), (.int .i64 x8), (.int .i64 (0 : Int)), (.slice none 0 0)] fun w7 =>
      (kLd w7 ⟨b3, 1, none⟩ .i64 fun x12 =>
      (Calls Try.prog N_segment_head #[(.int .i64 x12)] w7 fun e_1 w8 =>
      ∃ r1 : Int, e_1 = .returned (.int .i64 r1) ∧
      (bsplit (decide ((b_l : Int) ≤ r1))
        ((sxStore w8 ⟨b, 0, none⟩ 0 [(.int .i64 (0 : Int)), (.int .i64 (0 : Int)), (.int .i64 (0 : Int)), (.int .i64 (0 : Int)), (.slice none 0 0)] fun w9 =>
        (∃ r_02 r_12 r_22 r_32 : Int, ∃ r_4_a2 : Option Addr, ∃ r_4_l2 r_4_c2 : Nat, cellsAt w9 ⟨b, 0, none⟩ 0 [(.int .i64 r_02), (.int .i64 r_12), (.int .i64 r_22), (.int .i64 r_32), (.slice r_4_a2 r_4_l2 r_4_c2)] ∧
        R (.tuple #[(.agg #[.int .i64 r_02, .int .i64 r_12, .int .i64 r_22, .int .i64 r_32, .slice r_4_a2 r_4_l2 r_4_c2]), (.int .i64 (5 : Int))]) w9)))
        ((∃ J : World → Prop,
        (∀ (_junk : Env)  (w12 : World), J w12 →
          ((0 ≤ r1 ∧ r1 ≤ ((b_l : Nat) : Int)) ∧ (Calls Try.prog N_slices_Clone_Sbyte_byte #[(.slice (slAddr b_c (r1.toNat) 1 b_a) (b_l - r1.toNat) (b_c - r1.toNat))] w12 fun e_2 w13 =>
          ∃ r_a : Option Addr, ∃ r_l r_c : Nat, e_2 = .returned (.slice r_a r_l r_c) ∧
          (kSet w13 ⟨b3, 4, none⟩ (.slice r_a r_l r_c) fun w14 =>
          (kLet (Int.fdiv x6 (2 ^ 15)) fun x19 =>
          (bsplit (decide (x19 = (0 : Int)))
            ((sxStore w14 ⟨b, 0, none⟩ 0 [(.int .i64 (0 : Int)), (.int .i64 (0 : Int)), (.int .i64 (0 : Int)), (.int .i64 (0 : Int)), (.slice none 0 0)] fun w15 =>
              (∃ r_03 r_13 r_23 r_33 : Int, ∃ r_4_a3 : Option Addr, ∃ r_4_l3 r_4_c3 : Nat, cellsAt w15 ⟨b, 0, none⟩ 0 [(.int .i64 r_03), (.int .i64 r_13), (.int .i64 r_23), (.int .i64 r_33), (.slice r_4_a3 r_4_l3 r_4_c3)] ∧
              R (.tuple #[(.agg #[.int .i64 r_03, .int .i64 r_13, .int .i64 r_23, .int .i64 r_33, .slice r_4_a3 r_4_l3 r_4_c3]), (.int .i64 (4 : Int))]) w15)))
            ((∃ x_01 x_11 x_21 x_31 : Int, ∃ x_4_a1 : Option Addr, ∃ x_4_l1 x_4_c1 : Nat, cellsAt w14 ⟨b3, 0, none⟩ 0 [(.int .i64 x_01), (.int .i64 x_11), (.int .i64 x_21), (.int .i64 x_31), (.slice x_4_a1 x_4_l1 x_4_c1)] ∧
            (Calls Try.prog N_segment_Valid #[(.int .i64 bits), (.agg #[.int .i64 x_01, .int .i64 x_11, .int .i64 x_21, .int .i64 x_31, .slice x_4_a1 x_4_l1 x_4_c1])] w14 fun e_3 w17 =>
            ∃ r2 : Bool, e_3 = .returned (.bool r2) ∧
            (bsplit (!r2)
              ((sxStore w17 ⟨b, 0, none⟩ 0 [(.int .i64 (0 : Int)), (.int .i64 (0 : Int)), (.int .i64 (0 : Int)), (.int .i64 (0 : Int)), (.slice none 0 0)] fun w18 =>
              (∃ r_05 r_15 r_25 r_35 : Int, ∃ r_4_a5 : Option Addr, ∃ r_4_l5 r_4_c5 : Nat, cellsAt w18 ⟨b, 0, none⟩ 0 [(.int .i64 r_05), (.int .i64 r_15), (.int .i64 r_25), (.int .i64 r_35), (.slice r_4_a5 r_4_l5 r_4_c5)] ∧
              R (.tuple #[(.agg #[.int .i64 r_05, .int .i64 r_15, .int .i64 r_25, .int .i64 r_35, .slice r_4_a5 r_4_l5 r_4_c5]), (.int .i64 (4 : Int))]) w18)))
              ((∃ x_02 x_12 x_22 x_32 : Int, ∃ x_4_a2 : Option Addr, ∃ x_4_l2 x_4_c2 : Nat, cellsAt w17 ⟨b3, 0, none⟩ 0 [(.int .i64 x_02), (.int .i64 x_12), (.int .i64 x_22), (.int .i64 x_32), (.slice x_4_a2 x_4_l2 x_4_c2)] ∧
              (sxStore w17 ⟨b, 0, none⟩ 0 [(.int .i64 x_02), (.int .i64 x_12), (.int .i64 x_22), (.int .i64 x_32), (.slice x_4_a2 x_4_l2 x_4_c2)] fun w19 =>
              (∃ r_06 r_16 r_26 r_36 : Int, ∃ r_4_a6 : Option Addr, ∃ r_4_l6 r_4_c6 : Nat, cellsAt w19 ⟨b, 0, none⟩ 0 [(.int .i64 r_06), (.int .i64 r_16), (.int .i64 r_26), (.int .i64 r_36), (.slice r_4_a6 r_4_l6 r_4_c6)] ∧
              R (.tuple #[(.agg #[.int .i64 r_06, .int .i64 r_16, .int .i64 r_26, .int .i64 r_36, .slice r_4_a6 r_4_l6 r_4_c6]), (.int .i64 (0 : Int))]) w19)))))))))))))) ∧
        (bsplit (decide (r1 = (4 : Int)))
          ((kDrew w8 fun w10 =>
          (kIx b_a b_l (2 : Int) fun b4 =>
          (kLd w10 (b4.add ((2 : Int).toNat * 1)) .u8 fun x13 =>
          (kW .i64 (x13) fun x14 =>
          (kW .i64 (x14 * 2 ^ 8) fun x15 =>
          (kIx b_a b_l (3 : Int) fun b5 =>
          (kLd w10 (b5.add ((3 : Int).toNat * 1)) .u8 fun x16 =>
          (kW .i64 (x16) fun x17 =>
          (kLet (bOr .i64 x15 x17) fun x18 =>
          (kSet w10 ⟨b3, 3, none⟩ (.int .i64 x18) fun w11 =>
          J w11)))))))))))
          (J w8))))))))))))))))))))))))))))))
theorem F_segment_Decode_eq (bits : Int) (b_a : Option Addr) (b_l : Nat) (b_c : Nat) (w : World) (R : Value → World → Prop) : sxFn Try.prog TT h_segment_Decode Try.f31 #[(.int .i64 bits), (.slice b_a b_l b_c)] w R = F_segment_Decode bits b_a b_l b_c w R := by kernel_rfl
theorem F_segment_Decode_ok {R : Ending → World → Prop} (bits : Int) (b_a : Option Addr) (b_l : Nat) (b_c : Nat) (w : World) (h : F_segment_Decode bits b_a b_l b_c w fun v w' => R (.returned v) w') : Calls Try.prog N_segment_Decode #[(.int .i64 bits), (.slice b_a b_l b_c)] w R :=
  calls_of (f := 31) follows_ok Try.func31 (Eq.mpr (F_segment_Decode_eq bits b_a b_l b_c w _) h)

def h_segment_Ends : H := (.seq .reg (.seq .reg .leaf))
def F_segment_Ends (part : Int) (w : World) (R : Value → World → Prop) : Prop :=
  (bsplit (decide (part = (0 : Int)))
    (R (.bool true) w)
    ((kLet (decide (part = (2 : Int))) fun x =>
    R (.bool x) w)))
theorem F_segment_Ends_eq (part : Int) (w : World) (R : Value → World → Prop) : sxFn Try.prog TT h_segment_Ends Try.f32 #[(.int .i64 part)] w R = F_segment_Ends part w R := by kernel_rfl
theorem F_segment_Ends_ok {R : Ending → World → Prop} (part : Int) (w : World) (h : F_segment_Ends part w fun v w' => R (.returned v) w') : Calls Try.prog N_segment_Ends #[(.int .i64 part)] w R :=
  calls_of (f := 32) follows_ok Try.func32 (Eq.mpr (F_segment_Ends_eq part w _) h)

def h_slices_BinarySearchFunc_Sapi_Partial_api_Partial_int : H := (.seq .reg (.seq .reg (.seq .reg (.seq (.block (.loop [(9, .p (.int .i64)), (10, .p (.int .i64))] [9, 10, 11, 15, 16, 17, 18, 19, 20, 21, 22, 23, 24, 25, 26, 27, 28, 29, 30, 31, 32, 33, 34] (.seq (.seq .reg (.cond .leaf .leaf)) (.block (.seq .reg (.seq .reg (.cond .reg .reg))))))) (.seq .reg .leaf)))))
def F_slices_BinarySearchFunc_Sapi_Partial_api_Partial_int (x_a : Option Addr) (x_l : Nat) (_ : Nat) (target : Int) (cmp_g : Nat) (cmp_f : Array Value) (cmp_c : Array Value) (w : World) (R : Value → World → Prop) : Prop :=
  (∃ I : Int → Int → Nat × (World → Prop), (I (0 : Int) (x_l : Int)).2 w ∧
  (∀ (_junk : Env) (i : Int) (j : Int) (w1 : World), (I i j).2 w1 →
    (bsplit (decide (i < j))
      ((kW .i64 (i + j) fun x =>
      (kW .u64 (x) fun x1 =>
      (kLet (Int.fdiv x1 (2 ^ 1)) fun x2 =>
      (kW .i64 (x2) fun x3 =>
      (kIx x_a x_l x3 fun b =>
      (∃ x_0 : Int, ∃ x_1 : Bool, ∃ x_2 : Int, ∃ x_3_a : Option Addr, ∃ x_3_l x_3_c : Nat, ∃ x_4_a : Option Addr, ∃ x_4_l x_4_c : Nat, cellsAt w1 (b.add (x3.toNat * 5)) 0 [(.int .i64 x_0), (.bool x_1), (.int .i64 x_2), (.slice x_3_a x_3_l x_3_c), (.slice x_4_a x_4_l x_4_c)] ∧
      (okFn Try.prog cmp_g = true ∧ Calls Try.prog cmp_g (cmp_f ++ #[(.agg #[.int .i64 x_0, .bool x_1, .int .i64 x_2, .slice x_3_a x_3_l x_3_c, .slice x_4_a x_4_l x_4_c]), (.int .i64 target)] ++ cmp_c) w1 fun e_ w2 =>
      ∃ r : Int, e_ = .returned (.int .i64 r) ∧
      (bsplit (decide (r < (0 : Int)))
        ((kW .i64 (x3 + (1 : Int)) fun x4 =>
        ((I x4 j).2 w2 ∧ (I x4 j).1 < (I i j).1)))
        (((I i x3).2 w2 ∧ (I i x3).1 < (I i j).1)))))))))))
      ((bsplit (decide (i < (x_l : Int)))
        ((kIx x_a x_l i fun b1 =>
        (∃ x_01 : Int, ∃ x_11 : Bool, ∃ x_21 : Int, ∃ x_3_a1 : Option Addr, ∃ x_3_l1 x_3_c1 : Nat, ∃ x_4_a1 : Option Addr, ∃ x_4_l1 x_4_c1 : Nat, cellsAt w1 (b1.add (i.toNat * 5)) 0 [(.int .i64 x_01), (.bool x_11), (.int .i64 x_21), (.slice x_3_a1 x_3_l1 x_3_c1), (.slice x_4_a1 x_4_l1 x_4_c1)] ∧
        (okFn Try.prog cmp_g = true ∧ Calls Try.prog cmp_g (cmp_f ++ #[(.agg #[.int .i64 x_01, .bool x_11, .int .i64 x_21, .slice x_3_a1 x_3_l1 x_3_c1, .slice x_4_a1 x_4_l1 x_4_c1]), (.int .i64 target)] ++ cmp_c) w1 fun e_1 w3 =>
        ∃ r1 : Int, e_1 = .returned (.int .i64 r1) ∧
        (kLet (decide (r1 = (0 : Int))) fun x5 =>
        R (.tuple #[(.int .i64 i), (.bool x5)]) w3)))))
        (R (.tuple #[(.int .i64 i), (.bool false)]) w1))))))
theorem F_slices_BinarySearchFunc_Sapi_Partial_api_Partial_int_eq (x_a : Option Addr) (x_l : Nat) (x_c : Nat) (target : Int) (cmp_g : Nat) (cmp_f : Array Value) (cmp_c : Array Value) (w : World) (R : Value → World → Prop) : sxFn Try.prog TT h_slices_BinarySearchFunc_Sapi_Partial_api_Partial_int Try.f33 #[(.slice x_a x_l x_c), (.int .i64 target), (.func (.func cmp_g) cmp_f cmp_c)] w R = F_slices_BinarySearchFunc_Sapi_Partial_api_Partial_int x_a x_l x_c target cmp_g cmp_f cmp_c w R := by kernel_rfl
theorem F_slices_BinarySearchFunc_Sapi_Partial_api_Partial_int_ok {R : Ending → World → Prop} (x_a : Option Addr) (x_l : Nat) (x_c : Nat) (target : Int) (cmp_g : Nat) (cmp_f : Array Value) (cmp_c : Array Value) (w : World) (h : F_slices_BinarySearchFunc_Sapi_Partial_api_Partial_int x_a x_l x_c target cmp_g cmp_f cmp_c w fun v w' => R (.returned v) w') : Calls Try.prog N_slices_BinarySearchFunc_Sapi_Partial_api_Partial_int #[(.slice x_a x_l x_c), (.int .i64 target), (.func (.func cmp_g) cmp_f cmp_c)] w R :=
  calls_of (f := 33) follows_ok Try.func33 (Eq.mpr (F_slices_BinarySearchFunc_Sapi_Partial_api_Partial_int_eq x_a x_l x_c target cmp_g cmp_f cmp_c w _) h)

def h_receiver_side_place : H := (.seq .reg (.seq (.draw .blk (.one 0 .pre (.one 1 .pre (.one 2 .pre (.one 3 .pre (.one 4 .pre (.one 5 .pre (.one 6 .pre (.one 7 .pre (.one 8 .pre (.one 9 .pre (.one 10 .pre (.one 11 .pre (.one 12 .keep (.one 13 .stable .nil))))))))))))))) .leaf))
def F_receiver_side_place (s_b : Nat) (s_o : Nat) (n : Int) (w : World) (R : Value → World → Prop) : Prop :=
  (kDrew w fun w1 =>
  (∃ S : Nat → Prop,
  (kLd w1 ⟨s_b, s_o, none⟩ .i64 fun x =>
  (kLd w1 ⟨s_b, s_o + 6, none⟩ .i64 fun x1 =>
  (Calls Try.prog N_serial_Distance #[(.int .i64 x), (.int .i64 x1), (.int .i64 n)] w1 fun e_ w2 =>
  ∃ r : Int, e_ = .returned (.int .i64 r) ∧
  (KeepsB S w1 w2 ∧ R (.int .i64 r) w2))))))
theorem F_receiver_side_place_eq (s_b : Nat) (s_o : Nat) (n : Int) (w : World) (R : Value → World → Prop) : sxFn Try.prog TT h_receiver_side_place Try.f34 #[(.pointer (some ⟨s_b, s_o, none⟩)), (.int .i64 n)] w R = F_receiver_side_place s_b s_o n w R := by kernel_rfl
theorem F_receiver_side_place_ok {R : Ending → World → Prop} (s_b : Nat) (s_o : Nat) (n : Int) (w : World) (h : F_receiver_side_place s_b s_o n w fun v w' => R (.returned v) w') : Calls Try.prog N_receiver_side_place #[(.pointer (some ⟨s_b, s_o, none⟩)), (.int .i64 n)] w R :=
  calls_of (f := 34) follows_ok Try.func34 (Eq.mpr (F_receiver_side_place_eq s_b s_o n w _) h)

def h_receiver_Receive_1 : H := (.seq .reg (.seq .reg .leaf))
def F_receiver_Receive_1 (x_0 : Int) (x_1 : Bool) (x_2 : Int) (x_3_a : Option Addr) (x_3_l : Nat) (x_3_c : Nat) (x_4_a : Option Addr) (x_4_l : Nat) (x_4_c : Nat) (n : Int) (cap0_b : Nat) (cap0_o : Nat) (w : World) (R : Value → World → Prop) : Prop :=
  (kAlloc w #[(.int .i64 x_0), (.bool x_1), (.int .i64 x_2), (.slice x_3_a x_3_l x_3_c), (.slice x_4_a x_4_l x_4_c)] Ty_api_Partial fun b w1 =>
  (∃ x : Option Addr, w1.cell? ⟨cap0_b, cap0_o, none⟩ = some (.pointer x) ∧
  (kLd w1 ⟨b, 0, none⟩ .i64 fun x1 =>
  (Calls Try.prog N_receiver_side_place #[(.pointer x), (.int .i64 x1)] w1 fun e_ w2 =>
  ∃ r : Int, e_ = .returned (.int .i64 r) ∧
  (kW .i64 (r - n) fun x2 =>
  R (.int .i64 x2) w2)))))
theorem F_receiver_Receive_1_eq (x_0 : Int) (x_1 : Bool) (x_2 : Int) (x_3_a : Option Addr) (x_3_l : Nat) (x_3_c : Nat) (x_4_a : Option Addr) (x_4_l : Nat) (x_4_c : Nat) (n : Int) (cap0_b : Nat) (cap0_o : Nat) (w : World) (R : Value → World → Prop) : sxFn Try.prog TT h_receiver_Receive_1 Try.f35 #[(.agg #[.int .i64 x_0, .bool x_1, .int .i64 x_2, .slice x_3_a x_3_l x_3_c, .slice x_4_a x_4_l x_4_c]), (.int .i64 n), (.pointer (some ⟨cap0_b, cap0_o, none⟩))] w R = F_receiver_Receive_1 x_0 x_1 x_2 x_3_a x_3_l x_3_c x_4_a x_4_l x_4_c n cap0_b cap0_o w R := by kernel_rfl
theorem F_receiver_Receive_1_ok {R : Ending → World → Prop} (x_0 : Int) (x_1 : Bool) (x_2 : Int) (x_3_a : Option Addr) (x_3_l : Nat) (x_3_c : Nat) (x_4_a : Option Addr) (x_4_l : Nat) (x_4_c : Nat) (n : Int) (cap0_b : Nat) (cap0_o : Nat) (w : World) (h : F_receiver_Receive_1 x_0 x_1 x_2 x_3_a x_3_l x_3_c x_4_a x_4_l x_4_c n cap0_b cap0_o w fun v w' => R (.returned v) w') : Calls Try.prog N_receiver_Receive_1 #[(.agg #[.int .i64 x_0, .bool x_1, .int .i64 x_2, .slice x_3_a x_3_l x_3_c, .slice x_4_a x_4_l x_4_c]), (.int .i64 n), (.pointer (some ⟨cap0_b, cap0_o, none⟩))] w R :=
  calls_of (f := 35) follows_ok Try.func35 (Eq.mpr (F_receiver_Receive_1_eq x_0 x_1 x_2 x_3_a x_3_l x_3_c x_4_a x_4_l x_4_c n cap0_b cap0_o w _) h)

def h_receiver_side_refused : H := (.seq .reg (.seq (.block (.seq (.draw .blk (.one 0 .pre (.one 1 .pre (.one 2 .pre (.one 3 .pre (.one 5 .stable (.one 6 .stable (.one 7 .stable (.one 8 .stable (.one 9 .stable (.one 10 .stable (.one 11 .stable (.one 12 .stable (.one 4 .keep (.one 13 .stable (.one 14 .stable .nil)))))))))))))))) (.cond (.seq .reg .leaf) (.seq .reg (.cond (.seq .reg .leaf) (.seq .reg (.cond (.seq .reg .leaf) (.seq (.draw .blk (.one 0 .pre (.one 1 .pre (.one 2 .pre (.one 3 .pre (.one 4 .pre (.one 5 .pre (.one 6 .pre (.one 7 .pre (.one 8 .pre (.one 9 .keep (.one 10 .stable .nil)))))))))))) (.cond (.seq .reg .leaf) (.seq (.draw .blk (.one 0 .pre (.one 1 .pre (.one 2 .pre (.one 3 .pre (.one 4 .pre (.one 5 .pre (.one 6 .pre (.one 7 .pre (.one 8 .pre (.one 9 .keep (.one 10 .stable .nil)))))))))))) (.cond (.seq .reg .leaf) .leaf))))))))))) (.seq .reg .leaf)))
def F_receiver_side_refused (s_b : Nat) (s_o : Nat) (p_0 : Int) (p_1 : Int) (p_2 : Int) (p_3 : Int) (p_4_a : Option Addr) (p_4_l : Nat) (p_4_c : Nat) (p_5 : Int) (p_6 : Bool) (at1 : Int) (found : Bool) (w : World) (R : Value → World → Prop) : Prop :=
  (kAlloc w #[(.int .i64 p_0), (.int .i64 p_1), (.int .i64 p_2), (.int .i64 p_3), (.slice p_4_a p_4_l p_4_c), (.int .i64 p_5), (.bool p_6)] Ty_receiver_piece fun b w1 =>
  (kDrew w1 fun w2 =>
  (∃ S : Nat → Prop,
  (kLd w2 ⟨b, 0, none⟩ .i64 fun x =>
  (S s_b ∧
  (kLd w2 ⟨s_b, s_o, none⟩ .i64 fun x1 =>
  (kW .i64 (x1 - (1 : Int)) fun x2 =>
  (0 ≤ x2 ∧ (kW .i64 ((1 : Int) * 2 ^ (min x2.toNat (IntKind.bits .i64))) fun x3 =>
  (Calls Try.prog N_receiver_side_place #[(.pointer (some ⟨s_b, s_o, none⟩)), (.int .i64 x)] w2 fun e_ w3 =>
  ∃ r : Int, e_ = .returned (.int .i64 r) ∧
  (KeepsB S w2 w3 ∧ (kLet (decide (r ≥ x3)) fun x4 =>
  (bsplit x4
    (R (.int .i64 (11 : Int)) w3)
    ((bsplit (!found)
      (R (.int .i64 (0 : Int)) w3)
      ((kLdS w3 ⟨s_b, s_o + 13, none⟩ fun x_a x_l _ =>
      (kIx x_a x_l at1 fun b1 =>
      (kLdB w3 ((b1.add (at1.toNat * 5)).add 1) fun x5 =>
      (bsplit x5
        (R (.int .i64 (12 : Int)) w3)
        ((kDrew w3 fun w4 =>
        (∃ S1 : Nat → Prop,
        (∃ x_0 x_1 x_2 x_3 : Int, ∃ x_4_a : Option Addr, ∃ x_4_l x_4_c : Nat, ∃ x_5 : Int, ∃ x_6 : Bool, cellsAt w4 ⟨b, 0, none⟩ 0 [(.int .i64 x_0), (.int .i64 x_1), (.int .i64 x_2), (.int .i64 x_3), (.slice x_4_a x_4_l x_4_c), (.int .i64 x_5), (.bool x_6)] ∧
        (kLdS w4 ⟨s_b, s_o + 13, none⟩ fun x_a1 x_l1 _ =>
        (kIx x_a1 x_l1 at1 fun b2 =>
        (∃ x_01 : Int, ∃ x_11 : Bool, ∃ x_21 : Int, ∃ x_3_a : Option Addr, ∃ x_3_l x_3_c : Nat, ∃ x_4_a1 : Option Addr, ∃ x_4_l1 x_4_c1 : Nat, cellsAt w4 (b2.add (at1.toNat * 5)) 0 [(.int .i64 x_01), (.bool x_11), (.int .i64 x_21), (.slice x_3_a x_3_l x_3_c), (.slice x_4_a1 x_4_l1 x_4_c1)] ∧
        (Calls Try.prog N_receiver_piece_contradicts #[(.agg #[.int .i64 x_0, .int .i64 x_1, .int .i64 x_2, .int .i64 x_3, .slice x_4_a x_4_l x_4_c, .int .i64 x_5, .bool x_6]), (.agg #[.int .i64 x_01, .bool x_11, .int .i64 x_21, .slice x_3_a x_3_l x_3_c, .slice x_4_a1 x_4_l1 x_4_c1])] w4 fun e_1 w5 =>
        ∃ r1 : Bool, e_1 = .returned (.bool r1) ∧
        (KeepsB S1 w4 w5 ∧ (bsplit r1
          (R (.int .i64 (4 : Int)) w5)
          ((kDrew w5 fun w6 =>
          (∃ S2 : Nat → Prop,
          (∃ x_02 x_12 x_22 x_31 : Int, ∃ x_4_a2 : Option Addr, ∃ x_4_l2 x_4_c2 : Nat, ∃ x_51 : Int, ∃ x_61 : Bool, cellsAt w6 ⟨b, 0, none⟩ 0 [(.int .i64 x_02), (.int .i64 x_12), (.int .i64 x_22), (.int .i64 x_31), (.slice x_4_a2 x_4_l2 x_4_c2), (.int .i64 x_51), (.bool x_61)] ∧
          (kLdS w6 ⟨s_b, s_o + 13, none⟩ fun x_a2 x_l2 _ =>
          (kIx x_a2 x_l2 at1 fun b3 =>
          (∃ x_03 : Int, ∃ x_13 : Bool, ∃ x_23 : Int, ∃ x_3_a1 : Option Addr, ∃ x_3_l1 x_3_c1 : Nat, ∃ x_4_a3 : Option Addr, ∃ x_4_l3 x_4_c3 : Nat, cellsAt w6 (b3.add (at1.toNat * 5)) 0 [(.int .i64 x_03), (.bool x_13), (.int .i64 x_23), (.slice x_3_a1 x_3_l1 x_3_c1), (.slice x_4_a3 x_4_l3 x_4_c3)] ∧
          (Calls Try.prog N_receiver_piece_known #[(.agg #[.int .i64 x_02, .int .i64 x_12, .int .i64 x_22, .int .i64 x_31, .slice x_4_a2 x_4_l2 x_4_c2, .int .i64 x_51, .bool x_61]), (.agg #[.int .i64 x_03, .bool x_13, .int .i64 x_23, .slice x_3_a1 x_3_l1 x_3_c1, .slice x_4_a3 x_4_l3 x_4_c3])] w6 fun e_2 w7 =>
          ∃ r2 : Bool, e_2 = .returned (.bool r2) ∧
          (KeepsB S2 w6 w7 ∧ (bsplit r2
            (R (.int .i64 (12 : Int)) w7)
            (R (.int .i64 (0 : Int)) w7)))))))))))))))))))))))))))))))))))))))))
theorem F_receiver_side_refused_eq (s_b : Nat) (s_o : Nat) (p_0 : Int) (p_1 : Int) (p_2 : Int) (p_3 : Int) (p_4_a : Option Addr) (p_4_l : Nat) (p_4_c : Nat) (p_5 : Int) (p_6 : Bool) (at1 : Int) (found : Bool) (w : World) (R : Value → World → Prop) : sxFn Try.prog TT h_receiver_side_refused Try.f36 #[(.pointer (some ⟨s_b, s_o, none⟩)), (.agg #[.int .i64 p_0, .int .i64 p_1, .int .i64 p_2, .int .i64 p_3, .slice p_4_a p_4_l p_4_c, .int .i64 p_5, .bool p_6]), (.int .i64 at1), (.bool found)] w R = F_receiver_side_refused s_b s_o p_0 p_1 p_2 p_3 p_4_a p_4_l p_4_c p_5 p_6 at1 found w R := by kernel_rfl
theorem F_receiver_side_refused_ok {R : Ending → World → Prop} (s_b : Nat) (s_o : Nat) (p_0 : Int) (p_1 : Int) (p_2 : Int) (p_3 : Int) (p_4_a : Option Addr) (p_4_l : Nat) (p_4_c : Nat) (p_5 : Int) (p_6 : Bool) (at1 : Int) (found : Bool) (w : World) (h : F_receiver_side_refused s_b s_o p_0 p_1 p_2 p_3 p_4_a p_4_l p_4_c p_5 p_6 at1 found w fun v w' => R (.returned v) w') : Calls Try.prog N_receiver_side_refused #[(.pointer (some ⟨s_b, s_o, none⟩)), (.agg #[.int .i64 p_0, .int .i64 p_1, .int .i64 p_2, .int .i64 p_3, .slice p_4_a p_4_l p_4_c, .int .i64 p_5, .bool p_6]), (.int .i64 at1), (.bool found)] w R :=
  calls_of (f := 36) follows_ok Try.func36 (Eq.mpr (F_receiver_side_refused_eq s_b s_o p_0 p_1 p_2 p_3 p_4_a p_4_l p_4_c p_5 p_6 at1 found w _) h)

def h_receiver_side_poll : H := (.seq .reg (.seq .reg (.cond .reg .leaf)))
def F_receiver_side_poll (s_b : Nat) (s_o : Nat) (p_0 : Int) (p_1 : Int) (p_2 : Int) (p_3 : Int) (p_4_a : Option Addr) (p_4_l : Nat) (p_4_c : Nat) (w : World) (R : Value → World → Prop) : Prop :=
  (kAlloc w #[(.int .i64 p_0), (.int .i64 p_1), (.int .i64 p_2), (.int .i64 p_3), (.slice p_4_a p_4_l p_4_c)] Ty_api_Piece fun b w1 =>
  (kLd w1 ⟨b, 2, none⟩ .i64 fun x =>
  (bsplit (decide (x = (1 : Int)))
    ((kLd w1 ⟨s_b, s_o + 7, none⟩ .i64 fun x1 =>
    (kSet w1 ⟨s_b, s_o + 12, none⟩ (.bool true) fun w2 =>
    (kSet w2 ⟨s_b, s_o + 8, none⟩ (.int .i64 x1) fun w3 =>
    R (.tuple #[]) w3))))
    (R (.tuple #[]) w1))))
theorem F_receiver_side_poll_eq (s_b : Nat) (s_o : Nat) (p_0 : Int) (p_1 : Int) (p_2 : Int) (p_3 : Int) (p_4_a : Option Addr) (p_4_l : Nat) (p_4_c : Nat) (w : World) (R : Value → World → Prop) : sxFn Try.prog TT h_receiver_side_poll Try.f37 #[(.pointer (some ⟨s_b, s_o, none⟩)), (.agg #[.int .i64 p_0, .int .i64 p_1, .int .i64 p_2, .int .i64 p_3, .slice p_4_a p_4_l p_4_c])] w R = F_receiver_side_poll s_b s_o p_0 p_1 p_2 p_3 p_4_a p_4_l p_4_c w R := by kernel_rfl
theorem F_receiver_side_poll_ok {R : Ending → World → Prop} (s_b : Nat) (s_o : Nat) (p_0 : Int) (p_1 : Int) (p_2 : Int) (p_3 : Int) (p_4_a : Option Addr) (p_4_l : Nat) (p_4_c : Nat) (w : World) (h : F_receiver_side_poll s_b s_o p_0 p_1 p_2 p_3 p_4_a p_4_l p_4_c w fun v w' => R (.returned v) w') : Calls Try.prog N_receiver_side_poll #[(.pointer (some ⟨s_b, s_o, none⟩)), (.agg #[.int .i64 p_0, .int .i64 p_1, .int .i64 p_2, .int .i64 p_3, .slice p_4_a p_4_l p_4_c])] w R :=
  calls_of (f := 37) follows_ok Try.func37 (Eq.mpr (F_receiver_side_poll_eq s_b s_o p_0 p_1 p_2 p_3 p_4_a p_4_l p_4_c w _) h)

def h_slices_Insert_Sapi_Partial_api_Partial : H := (.seq .reg (.seq .reg (.seq .reg (.seq (.seq .reg (.cond (.seq .reg .leaf) .leaf)) (.seq .reg (.seq (.seq .reg (.cond (.seq .reg .leaf) .leaf)) (.seq (.seq .reg (.cond (.seq .reg (.seq .reg (.seq (.draw .no (.one 0 .pre (.one 1 .pre (.one 2 .pre (.one 3 .pre (.one 4 .pre (.one 5 .pre (.one 6 .pre (.one 7 .pre (.one 8 .last .nil)))))))))) (.seq .reg .leaf)))) .leaf)) (.seq .reg (.seq (.seq .reg (.cond (.seq (.draw .no (.one 0 .pre (.one 1 .pre (.one 2 .pre (.one 3 .pre (.one 4 .pre (.one 5 .pre (.one 6 .pre (.one 7 .pre (.one 8 .last .nil)))))))))) (.seq .reg (.seq .reg .leaf))) .leaf)) (.seq .reg (.seq .reg (.seq .reg .leaf))))))))))))
def F_slices_Insert_Sapi_Partial_api_Partial (s_a : Option Addr) (s_l : Nat) (s_c : Nat) (i : Int) (v_a : Option Addr) (v_l : Nat) (v_c : Nat) (w : World) (R : Value → World → Prop) : Prop :=
  ((0 ≤ i ∧ i ≤ ((s_l : Nat) : Int)) ∧ (bsplit (decide ((v_l : Int) = (0 : Int)))
    (R (.slice s_a s_l s_c) w)
    ((bsplit (decide (i = (s_l : Int)))
      ((AppP Try.prog #[Ty_S_api_Partial, Ty_S_api_Partial] Ty_S_api_Partial #[(.slice s_a s_l s_c), (.slice v_a v_l v_c)] w fun x_a x_l x_c w1 =>
      R (.slice x_a x_l x_c) w1))
      ((kW .i64 ((s_l : Int) + (v_l : Int)) fun x =>
      (bsplit (decide (x > (s_c : Int)))
        (((0 ≤ i ∧ i ≤ ((s_c : Nat) : Int)) ∧ (kW .i64 ((s_l : Int) + (v_l : Int)) fun x1 =>
        (kW .i64 (x1 - i) fun x2 =>
        (AppP Try.prog #[Ty_S_api_Partial, Ty_int] Ty_S_api_Partial #[(.slice (slAddr s_c 0 5 s_a) (i.toNat - 0) (s_c - 0)), (.int .i64 x2)] w fun x_a1 x_l1 x_c1 w2 =>
        ((0 ≤ i ∧ i ≤ ((x_l1 : Nat) : Int)) ∧ (CopyP Try.prog #[Ty_S_api_Partial, Ty_S_api_Partial] Ty_int #[(.slice (slAddr x_c1 (i.toNat) 5 x_a1) (x_l1 - i.toNat) (x_c1 - i.toNat)), (.slice v_a v_l v_c)] w2 fun _ w3 =>
        (kDrew w3 fun w4 =>
        (kW .i64 (i + (v_l : Int)) fun x3 =>
        ((0 ≤ x3 ∧ x3 ≤ ((x_l1 : Nat) : Int)) ∧ ((0 ≤ i ∧ i ≤ ((s_l : Nat) : Int)) ∧ (CopyP Try.prog #[Ty_S_api_Partial, Ty_S_api_Partial] Ty_int #[(.slice (slAddr x_c1 (x3.toNat) 5 x_a1) (x_l1 - x3.toNat) (x_c1 - x3.toNat)), (.slice (slAddr s_c (i.toNat) 5 s_a) (s_l - i.toNat) (s_c - i.toNat))] w4 fun _ w5 =>
        R (.slice x_a1 x_l1 x_c1) w5))))))))))))
        ((kW .i64 ((s_l : Int) + (v_l : Int)) fun x4 =>
        ((0 ≤ x4 ∧ x4 ≤ ((s_c : Nat) : Int)) ∧ (kW .i64 (i + (v_l : Int)) fun x5 =>
        ((0 ≤ x5 ∧ x5 ≤ (((x4.toNat - 0) : Nat) : Int)) ∧ (ExtC Try.prog N_slices_overlaps_api_Partial #[(.slice v_a v_l v_c), (.slice (slAddr (s_c - 0) (x5.toNat) 5 (slAddr s_c 0 5 s_a)) ((x4.toNat - 0) - x5.toNat) ((s_c - 0) - x5.toNat))] w fun e_ w6 =>
        ∃ r : Bool, e_ = .returned (.bool r) ∧
        (bsplit (!r)
          ((kDrew w6 fun w7 =>
          (kW .i64 (i + (v_l : Int)) fun x6 =>
          ((0 ≤ x6 ∧ x6 ≤ (((x4.toNat - 0) : Nat) : Int)) ∧ ((0 ≤ i ∧ i ≤ (((x4.toNat - 0) : Nat) : Int)) ∧ (CopyP Try.prog #[Ty_S_api_Partial, Ty_S_api_Partial] Ty_int #[(.slice (slAddr (s_c - 0) (x6.toNat) 5 (slAddr s_c 0 5 s_a)) ((x4.toNat - 0) - x6.toNat) ((s_c - 0) - x6.toNat)), (.slice (slAddr (s_c - 0) (i.toNat) 5 (slAddr s_c 0 5 s_a)) ((x4.toNat - 0) - i.toNat) ((s_c - 0) - i.toNat))] w7 fun _ w8 =>
          ((0 ≤ i ∧ i ≤ (((x4.toNat - 0) : Nat) : Int)) ∧ (CopyP Try.prog #[Ty_S_api_Partial, Ty_S_api_Partial] Ty_int #[(.slice (slAddr (s_c - 0) (i.toNat) 5 (slAddr s_c 0 5 s_a)) ((x4.toNat - 0) - i.toNat) ((s_c - 0) - i.toNat)), (.slice v_a v_l v_c)] w8 fun _ w9 =>
          R (.slice (slAddr s_c 0 5 s_a) (x4.toNat - 0) (s_c - 0)) w9))))))))
          (((0 ≤ (s_l : Int) ∧ (s_l : Int) ≤ (((x4.toNat - 0) : Nat) : Int)) ∧ (CopyP Try.prog #[Ty_S_api_Partial, Ty_S_api_Partial] Ty_int #[(.slice (slAddr (s_c - 0) ((s_l : Int).toNat) 5 (slAddr s_c 0 5 s_a)) ((x4.toNat - 0) - (s_l : Int).toNat) ((s_c - 0) - (s_l : Int).toNat)), (.slice v_a v_l v_c)] w6 fun _ w10 =>
          ((0 ≤ i ∧ i ≤ (((x4.toNat - 0) : Nat) : Int)) ∧ (Calls Try.prog N_slices_rotateRight_api_Partial #[(.slice (slAddr (s_c - 0) (i.toNat) 5 (slAddr s_c 0 5 s_a)) ((x4.toNat - 0) - i.toNat) ((s_c - 0) - i.toNat)), (.int .i64 (v_l : Int))] w10 fun e_1 w11 =>
          e_1 = .returned (.tuple #[]) ∧
          R (.slice (slAddr s_c 0 5 s_a) (x4.toNat - 0) (s_c - 0)) w11)))))))))))))))))))
theorem F_slices_Insert_Sapi_Partial_api_Partial_eq (s_a : Option Addr) (s_l : Nat) (s_c : Nat) (i : Int) (v_a : Option Addr) (v_l : Nat) (v_c : Nat) (w : World) (R : Value → World → Prop) : sxFn Try.prog TT h_slices_Insert_Sapi_Partial_api_Partial Try.f38 #[(.slice s_a s_l s_c), (.int .i64 i), (.slice v_a v_l v_c)] w R = F_slices_Insert_Sapi_Partial_api_Partial s_a s_l s_c i v_a v_l v_c w R := by kernel_rfl
theorem F_slices_Insert_Sapi_Partial_api_Partial_ok {R : Ending → World → Prop} (s_a : Option Addr) (s_l : Nat) (s_c : Nat) (i : Int) (v_a : Option Addr) (v_l : Nat) (v_c : Nat) (w : World) (h : F_slices_Insert_Sapi_Partial_api_Partial s_a s_l s_c i v_a v_l v_c w fun v w' => R (.returned v) w') : Calls Try.prog N_slices_Insert_Sapi_Partial_api_Partial #[(.slice s_a s_l s_c), (.int .i64 i), (.slice v_a v_l v_c)] w R :=
  calls_of (f := 38) follows_ok Try.func38 (Eq.mpr (F_slices_Insert_Sapi_Partial_api_Partial_eq s_a s_l s_c i v_a v_l v_c w _) h)

def h_receiver_side_behind : H := (.seq .reg (.seq .reg .leaf))
def F_receiver_side_behind (s_b : Nat) (s_o : Nat) (n : Int) (w : World) (R : Value → World → Prop) : Prop :=
  (kLd w ⟨s_b, s_o, none⟩ .i64 fun x =>
  (kW .i64 (n + (1 : Int)) fun x1 =>
  (Calls Try.prog N_serial_Low #[(.int .i64 x), (.int .i64 x1)] w fun e_ w1 =>
  ∃ r : Int, e_ = .returned (.int .i64 r) ∧
  R (.int .i64 r) w1)))
theorem F_receiver_side_behind_eq (s_b : Nat) (s_o : Nat) (n : Int) (w : World) (R : Value → World → Prop) : sxFn Try.prog TT h_receiver_side_behind Try.f39 #[(.pointer (some ⟨s_b, s_o, none⟩)), (.int .i64 n)] w R = F_receiver_side_behind s_b s_o n w R := by kernel_rfl
theorem F_receiver_side_behind_ok {R : Ending → World → Prop} (s_b : Nat) (s_o : Nat) (n : Int) (w : World) (h : F_receiver_side_behind s_b s_o n w fun v w' => R (.returned v) w') : Calls Try.prog N_receiver_side_behind #[(.pointer (some ⟨s_b, s_o, none⟩)), (.int .i64 n)] w R :=
  calls_of (f := 39) follows_ok Try.func39 (Eq.mpr (F_receiver_side_behind_eq s_b s_o n w _) h)

def h_receiver_piece_put : H := (.seq .reg (.cut [] [4, 5, 6, 7, 8, 9, 10, 11, 12, 13, 14, 15, 16, 17, 18, 19, 20, 21, 22, 23] (.seq (.draw .no (.one 0 .pur (.one 1 .stable (.one 2 .pur (.one 3 .pur (.one 4 .pur (.one 5 .stable (.one 6 .pur (.one 7 .pur (.one 8 .pur .nil)))))))))) (.seq .reg (.cond .reg .leaf))) (.seq (.draw .no (.one 0 .pur (.one 1 .pur (.one 2 .pur (.one 3 .pre (.one 4 .pur (.one 5 .pur (.one 6 .pre (.one 7 .pur (.one 8 .pur (.one 9 .pur (.one 10 .pre (.one 11 .last .nil))))))))))))) (.seq (.draw .blk (.one 0 .pur (.one 1 .pur (.one 2 .pur (.one 3 .pur (.one 4 .stable (.one 5 .pur (.one 6 .pur (.one 7 .pre (.one 8 .pur (.one 9 .pur (.one 10 .pre (.one 11 .pur (.one 12 .pre (.one 13 .keep (.one 14 .last (.one 15 .pur (.one 16 .pur (.one 17 .pur (.one 18 .pur (.one 19 .pur (.one 20 .last .nil)))))))))))))))))))))) (.seq .reg (.cond .reg .leaf))))))
def F_receiver_piece_put (p_0 : Int) (p_1 : Int) (p_2 : Int) (p_3 : Int) (p_4_a : Option Addr) (p_4_l : Nat) (p_4_c : Nat) (p_5 : Int) (p_6 : Bool) (x_b : Nat) (x_o : Nat) (w : World) (R : Value → World → Prop) : Prop :=
  (kAlloc w #[(.int .i64 p_0), (.int .i64 p_1), (.int .i64 p_2), (.int .i64 p_3), (.slice p_4_a p_4_l p_4_c), (.int .i64 p_5), (.bool p_6)] Ty_receiver_piece fun b w1 =>
  (∃ J : World → Prop,
  (∀ (_junk : Env)  (w5 : World), J w5 →
    (kDrew w5 fun w6 =>
    (kLdS w6 ⟨x_b, x_o + 3, none⟩ fun x_a3 x_l3 x_c3 =>
    (kLd w6 ⟨b, 3, none⟩ .i64 fun x2 =>
    ((0 ≤ x2 ∧ x2 ≤ ((x_l3 : Nat) : Int)) ∧ (kLdS w6 ⟨b, 4, none⟩ fun x_a4 x_l4 x_c4 =>
    (CopyP Try.prog #[Ty_S_uint8, Ty_S_uint8] Ty_int #[(.slice (slAddr x_c3 (x2.toNat) 1 x_a3) (x_l3 - x2.toNat) (x_c3 - x2.toNat)), (.slice x_a4 x_l4 x_c4)] w6 fun _ w7 =>
    (kDrew w7 fun w8 =>
    (∃ S : Nat → Prop,
    (S x_b ∧
    (kLdS w8 ⟨x_b, x_o + 4, none⟩ fun x_a5 x_l5 x_c5 =>
    (kLd w8 ⟨b, 0, none⟩ .i64 fun x3 =>
    (kLd w8 ⟨b, 3, none⟩ .i64 fun x4 =>
    (kLd w8 ⟨b, 5, none⟩ .i64 fun x5 =>
    (KeepsB S w8 w8 ∧ (Calls Try.prog N_segment_Union #[(.slice x_a5 x_l5 x_c5), (.agg #[.int .i64 x3, .int .i64 x4, .int .i64 x5])] w8 fun e_ w9 =>
    ∃ r_a : Option Addr, ∃ r_l r_c : Nat, ∃ r : Int, e_ = .returned (.tuple #[(.slice r_a r_l r_c), (.int .i64 r)]) ∧
    (kSet w9 ⟨x_b, x_o + 4, none⟩ (.slice r_a r_l r_c) fun w10 =>
    (kLdB w10 ⟨b, 6, none⟩ fun x6 =>
    (bsplit x6
      ((kLd w10 ⟨b, 5, none⟩ .i64 fun x7 =>
      (kSet w10 ⟨x_b, x_o + 2, none⟩ (.int .i64 x7) fun w11 =>
      R (.tuple #[]) w11)))
      (R (.tuple #[]) w10)))))))))))))))))))) ∧
  (kDrew w1 fun w2 =>
  (kLd w2 ⟨b, 5, none⟩ .i64 fun x =>
  (kLdS w2 ⟨x_b, x_o + 3, none⟩ fun _ x_l _ =>
  (kW .i64 (x - (x_l : Int)) fun x1 =>
  (bsplit (decide (x1 > (0 : Int)))
    ((kLdS w2 ⟨x_b, x_o + 3, none⟩ fun x_a1 x_l1 x_c1 =>
    (AppP Try.prog #[Ty_S_uint8, Ty_int] Ty_S_uint8 #[(.slice x_a1 x_l1 x_c1), (.int .i64 x1)] w2 fun x_a2 x_l2 x_c2 w3 =>
    (kSet w3 ⟨x_b, x_o + 3, none⟩ (.slice x_a2 x_l2 x_c2) fun w4 =>
    J w4))))
    (J w2))))))))
theorem F_receiver_piece_put_eq (p_0 : Int) (p_1 : Int) (p_2 : Int) (p_3 : Int) (p_4_a : Option Addr) (p_4_l : Nat) (p_4_c : Nat) (p_5 : Int) (p_6 : Bool) (x_b : Nat) (x_o : Nat) (w : World) (R : Value → World → Prop) : sxFn Try.prog TT h_receiver_piece_put Try.f40 #[(.agg #[.int .i64 p_0, .int .i64 p_1, .int .i64 p_2, .int .i64 p_3, .slice p_4_a p_4_l p_4_c, .int .i64 p_5, .bool p_6]), (.pointer (some ⟨x_b, x_o, none⟩))] w R = F_receiver_piece_put p_0 p_1 p_2 p_3 p_4_a p_4_l p_4_c p_5 p_6 x_b x_o w R := by kernel_rfl
theorem F_receiver_piece_put_ok {R : Ending → World → Prop} (p_0 : Int) (p_1 : Int) (p_2 : Int) (p_3 : Int) (p_4_a : Option Addr) (p_4_l : Nat) (p_4_c : Nat) (p_5 : Int) (p_6 : Bool) (x_b : Nat) (x_o : Nat) (w : World) (h : F_receiver_piece_put p_0 p_1 p_2 p_3 p_4_a p_4_l p_4_c p_5 p_6 x_b x_o w fun v w' => R (.returned v) w') : Calls Try.prog N_receiver_piece_put #[(.agg #[.int .i64 p_0, .int .i64 p_1, .int .i64 p_2, .int .i64 p_3, .slice p_4_a p_4_l p_4_c, .int .i64 p_5, .bool p_6]), (.pointer (some ⟨x_b, x_o, none⟩))] w R :=
  calls_of (f := 40) follows_ok Try.func40 (Eq.mpr (F_receiver_piece_put_eq p_0 p_1 p_2 p_3 p_4_a p_4_l p_4_c p_5 p_6 x_b x_o w _) h)

def h_receiver_complete : H := (.seq .reg (.seq (.draw .no (.one 0 .stable (.one 1 .stable (.one 2 .stable (.one 3 .stable (.one 4 .stable (.one 5 .stable (.one 6 .stable (.one 7 .stable (.one 8 .stable (.one 9 .stable (.one 10 .stable (.one 11 .stable (.one 12 .stable (.one 13 .stable (.one 14 .stable (.one 15 .stable (.one 16 .stable (.one 17 .stable (.one 18 .stable (.one 19 .stable (.one 20 .stable (.one 21 .stable (.one 22 .stable (.one 23 .stable (.one 24 .stable (.one 25 .stable (.one 26 .stable (.one 27 .stable .nil))))))))))))))))))))))))))))) .leaf))
def F_receiver_complete (p_0 : Int) (p_1 : Bool) (p_2 : Int) (p_3_a : Option Addr) (p_3_l : Nat) (p_3_c : Nat) (p_4_a : Option Addr) (p_4_l : Nat) (p_4_c : Nat) (w : World) (R : Value → World → Prop) : Prop :=
  (kAlloc w #[(.int .i64 p_0), (.bool p_1), (.int .i64 p_2), (.slice p_3_a p_3_l p_3_c), (.slice p_4_a p_4_l p_4_c)] Ty_api_Partial fun b w1 =>
  (kDrew w1 fun w2 =>
  (kLd w2 ⟨b, 2, none⟩ .i64 fun x =>
  (bsplit (decide (x > (0 : Int)))
    ((kLdS w2 ⟨b, 4, none⟩ fun _ x_l _ =>
    (bsplit (decide ((x_l : Int) = (1 : Int)))
      ((kLdS w2 ⟨b, 4, none⟩ fun x_a1 x_l1 _ =>
      (kIx x_a1 x_l1 (0 : Int) fun b1 =>
      (kLd w2 ((b1.add ((0 : Int).toNat * 3)).add 1) .i64 fun x1 =>
      (bsplit (decide (x1 = (0 : Int)))
        ((kLdS w2 ⟨b, 4, none⟩ fun x_a2 x_l2 _ =>
        (kIx x_a2 x_l2 (0 : Int) fun b2 =>
        (kLd w2 ((b2.add ((0 : Int).toNat * 3)).add 2) .i64 fun x2 =>
        (kLd w2 ⟨b, 2, none⟩ .i64 fun x3 =>
        (kLet (decide (x2 = x3)) fun x4 =>
        R (.bool x4) w2))))))
        (R (.bool false) w2))))))
      (R (.bool false) w2))))
    (R (.bool false) w2)))))
theorem F_receiver_complete_eq (p_0 : Int) (p_1 : Bool) (p_2 : Int) (p_3_a : Option Addr) (p_3_l : Nat) (p_3_c : Nat) (p_4_a : Option Addr) (p_4_l : Nat) (p_4_c : Nat) (w : World) (R : Value → World → Prop) : sxFn Try.prog TT h_receiver_complete Try.f41 #[(.agg #[.int .i64 p_0, .bool p_1, .int .i64 p_2, .slice p_3_a p_3_l p_3_c, .slice p_4_a p_4_l p_4_c])] w R = F_receiver_complete p_0 p_1 p_2 p_3_a p_3_l p_3_c p_4_a p_4_l p_4_c w R := by kernel_rfl
theorem F_receiver_complete_ok {R : Ending → World → Prop} (p_0 : Int) (p_1 : Bool) (p_2 : Int) (p_3_a : Option Addr) (p_3_l : Nat) (p_3_c : Nat) (p_4_a : Option Addr) (p_4_l : Nat) (p_4_c : Nat) (w : World) (h : F_receiver_complete p_0 p_1 p_2 p_3_a p_3_l p_3_c p_4_a p_4_l p_4_c w fun v w' => R (.returned v) w') : Calls Try.prog N_receiver_complete #[(.agg #[.int .i64 p_0, .bool p_1, .int .i64 p_2, .slice p_3_a p_3_l p_3_c, .slice p_4_a p_4_l p_4_c])] w R :=
  calls_of (f := 41) follows_ok Try.func41 (Eq.mpr (F_receiver_complete_eq p_0 p_1 p_2 p_3_a p_3_l p_3_c p_4_a p_4_l p_4_c w _) h)

def h_receiver_side_advance : H := (.cut [] [2, 3, 4, 5, 6, 7, 8, 9, 10, 11, 12, 13, 14, 15, 16, 17, 18, 19, 20, 21, 22, 23, 24, 25, 26, 27, 28, 29, 30, 31, 32, 33, 34, 35, 36, 37, 38, 39, 40, 41, 42, 43, 44, 45, 46, 47, 48, 49, 50, 51, 52, 53, 54, 55] (.block (.loopG [] [2, 3, 4, 5, 6, 7, 8, 9, 10, 11, 12, 13, 14, 15, 16, 17, 18, 19, 20, 21, 22, 23, 24, 25, 26, 27, 28, 29, 30, 31, 32, 33, 34, 35, 36, 37, 38, 39, 40, 41, 42, 43, 44, 45, 46, 47, 48, 49, 50, 51, 52, 53, 54, 55] (.cut [] [2, 3, 4, 5, 6, 7, 8, 9, 10, 11, 12, 13, 14, 15, 16, 17, 18, 19, 20, 21, 22, 23, 24, 25, 26, 27, 28, 29, 30, 31, 32, 33, 34] (.seq (.draw .no (.one 0 .stable (.one 1 .stable (.one 2 .stable (.one 3 .stable (.one 4 .stable (.one 5 .stable (.one 6 .stable (.one 7 .stable (.one 8 .stable (.one 9 .stable (.one 10 .stable (.one 11 .stable (.one 12 .stable (.one 13 .stable (.one 14 .stable (.one 15 .stable (.one 16 .stable (.one 17 .stable (.one 18 .stable (.one 19 .stable (.one 20 .stable (.one 21 .stable (.one 22 .stable (.one 23 .stable (.one 24 .stable (.one 25 .stable (.one 26 .stable (.one 27 .stable (.one 28 .stable (.one 29 .stable (.one 30 .stable (.one 31 .stable (.one 32 .stable .nil)))))))))))))))))))))))))))))))))) (.cond .leaf .leaf)) (.block (.seq .reg .reg))))) (.seq (.draw .blk (.one 0 .pre (.one 1 .pre (.one 2 .pre (.one 3 .pre (.one 4 .pre (.one 5 .pre (.one 7 .stable (.one 8 .stable (.one 9 .stable (.one 10 .stable (.one 11 .stable (.one 12 .stable (.one 6 .keep (.one 13 .keep (.one 14 .stable .nil)))))))))))))))) (.cond .reg .leaf)))
def F_receiver_side_advance (s_b : Nat) (s_o : Nat) (w : World) (R : Value → World → Prop) : Prop :=
  (∃ J : World → Prop,
  (∀ (_junk : Env)  (w7 : World), J w7 →
    (kDrew w7 fun w8 =>
    (∃ S : Nat → Prop,
    (kLd w8 ⟨s_b, s_o + 8, none⟩ .i64 fun x4 =>
    (S s_b ∧
    (kLd w8 ⟨s_b, s_o + 7, none⟩ .i64 fun x5 =>
    (Calls Try.prog N_receiver_side_place #[(.pointer (some ⟨s_b, s_o, none⟩)), (.int .i64 x4)] w8 fun e_1 w9 =>
    ∃ r1 : Int, e_1 = .returned (.int .i64 r1) ∧
    (KeepsB S w8 w9 ∧ (Calls Try.prog N_receiver_side_place #[(.pointer (some ⟨s_b, s_o, none⟩)), (.int .i64 x5)] w9 fun e_2 w10 =>
    ∃ r2 : Int, e_2 = .returned (.int .i64 r2) ∧
    (KeepsB S w8 w10 ∧ (bsplit (decide (r1 > r2))
      ((kLd w10 ⟨s_b, s_o + 6, none⟩ .i64 fun x6 =>
      (kSet w10 ⟨s_b, s_o + 8, none⟩ (.int .i64 x6) fun w11 =>
      R (.tuple #[]) w11)))
      (R (.tuple #[]) w10)))))))))))) ∧
  (∃ I : Nat → World → Prop, (∃ m' : Nat, I m' w) ∧
  (∀ (_junk : Env)  (m : Nat) (w1 : World), I m w1 →
    (∃ J1 : World → Prop,
    (∀ (_junk : Env)  (w3 : World), J1 w3 →
      (kLdS w3 ⟨s_b, s_o + 13, none⟩ fun x_a3 x_l3 x_c3 =>
      ((0 ≤ (1 : Int) ∧ (1 : Int) ≤ ((x_l3 : Nat) : Int)) ∧ (kSet w3 ⟨s_b, s_o + 13, none⟩ (.slice (slAddr x_c3 ((1 : Int).toNat) 5 x_a3) (x_l3 - (1 : Int).toNat) (x_c3 - (1 : Int).toNat)) fun w4 =>
      (kLd w4 ⟨s_b, s_o + 6, none⟩ .i64 fun x3 =>
      (Calls Try.prog N_receiver_side_behind #[(.pointer (some ⟨s_b, s_o, none⟩)), (.int .i64 x3)] w4 fun e_ w5 =>
      ∃ r : Int, e_ = .returned (.int .i64 r) ∧
      (kSet w5 ⟨s_b, s_o + 6, none⟩ (.int .i64 r) fun w6 =>
      (∃ m' : Nat, m' < m ∧ I m' w6)))))))) ∧
    (kDrew w1 fun w2 =>
    (kLdS w2 ⟨s_b, s_o + 13, none⟩ fun _ x_l _ =>
    (bsplit (decide ((x_l : Int) > (0 : Int)))
      ((kLdS w2 ⟨s_b, s_o + 13, none⟩ fun x_a1 x_l1 _ =>
      (kIx x_a1 x_l1 (0 : Int) fun b =>
      (kLd w2 (b.add ((0 : Int).toNat * 5)) .i64 fun x =>
      (kLd w2 ⟨s_b, s_o + 6, none⟩ .i64 fun x1 =>
      (bsplit (decide (x = x1))
        ((kLdS w2 ⟨s_b, s_o + 13, none⟩ fun x_a2 x_l2 _ =>
        (kIx x_a2 x_l2 (0 : Int) fun b1 =>
        (kLdB w2 ((b1.add ((0 : Int).toNat * 5)).add 1) fun x2 =>
        (bsplit x2
          (J1 w2)
          (J w2))))))
        (J w2)))))))
      (J w2))))))))
theorem F_receiver_side_advance_eq (s_b : Nat) (s_o : Nat) (w : World) (R : Value → World → Prop) : sxFn Try.prog TT h_receiver_side_advance Try.f42 #[(.pointer (some ⟨s_b, s_o, none⟩))] w R = F_receiver_side_advance s_b s_o w R := by kernel_rfl
theorem F_receiver_side_advance_ok {R : Ending → World → Prop} (s_b : Nat) (s_o : Nat) (w : World) (h : F_receiver_side_advance s_b s_o w fun v w' => R (.returned v) w') : Calls Try.prog N_receiver_side_advance #[(.pointer (some ⟨s_b, s_o, none⟩))] w R :=
  calls_of (f := 42) follows_ok Try.func42 (Eq.mpr (F_receiver_side_advance_eq s_b s_o w _) h)

def h_receiver_side_start : H := (.cut [] [2, 3, 4, 5, 6, 7, 8, 9, 10, 11, 12, 13, 14, 15, 16, 17, 18, 19, 20, 21, 22, 23, 24, 25, 26, 27, 28, 29, 30, 31, 32, 33, 34, 35, 36, 37, 38, 39, 40, 41, 42] (.cut [(34, .p .bool)] [2, 3, 4, 5, 6, 7, 8, 9, 10, 11, 12, 13, 14, 15, 16, 17, 18, 19, 20, 21, 22, 23, 24, 25, 26, 27, 28, 29, 30, 31, 32, 33, 34] (.draw .blk (.one 0 .pre (.one 1 .pre (.one 2 .pre (.one 3 .pre (.one 4 .pre (.one 5 .pre (.one 6 .pre (.one 7 .pre (.one 8 .pre (.one 9 .pre (.one 10 .pre (.one 11 .pre (.one 12 .pre (.one 13 .keep (.one 14 .stable (.one 15 .stable (.one 16 .stable (.one 17 .stable (.one 18 .stable (.one 19 .stable (.one 20 .stable (.one 21 .stable (.one 23 .stable (.one 24 .stable (.one 25 .stable (.one 26 .stable (.one 27 .stable (.one 28 .stable (.one 22 .keep (.one 29 .keep (.one 30 .stable (.one 31 .stable (.one 32 .stable .nil)))))))))))))))))))))))))))))))))) (.cond .reg .leaf)) (.cut [(61, .p .bool)] [43, 44, 45, 46, 47, 48, 49, 50, 51, 52, 53, 54, 55, 56, 57, 58, 59, 60, 61] (.draw .no (.one 0 .stable (.one 1 .stable (.one 2 .stable (.one 3 .stable (.one 4 .stable (.one 5 .stable (.one 6 .stable (.one 7 .stable (.one 8 .stable (.one 9 .stable (.one 10 .stable (.one 11 .stable (.one 12 .stable (.one 13 .stable (.one 14 .stable (.one 15 .stable (.one 16 .stable (.one 17 .stable (.one 18 .stable .nil)))))))))))))))))))) (.cond (.draw .blk (.one 0 .pre (.one 1 .stable (.one 2 .pre (.one 3 .pre (.one 4 .pre (.one 5 .pre (.one 6 .pre (.one 7 .pre (.one 8 .pre (.one 9 .pre (.one 10 .pre (.one 11 .pre (.one 12 .pre (.one 13 .pre (.one 14 .pre (.one 15 .pre (.one 16 .keep (.one 17 .stable (.one 18 .stable (.one 19 .stable (.one 20 .last .nil)))))))))))))))))))))) .leaf)))
def F_receiver_side_start (s_b : Nat) (s_o : Nat) (w : World) (R : Value → World → Prop) : Prop :=
  (∃ J : World → Prop,
  (∀ (_junk : Env)  (w8 : World), J w8 →
    (∃ J2 : Bool → World → Prop,
    (∀ (_junk : Env) (x8 : Bool) (w10 : World), J2 x8 w10 →
      (bsplit x8
        ((kDrew w10 fun w11 =>
        (∃ S1 : Nat → Prop,
        (kLd w11 ⟨s_b, s_o + 7, none⟩ .i64 fun x9 =>
        (kLd w11 ⟨s_b, s_o + 3, none⟩ .i64 fun x10 =>
        (kSet w11 ⟨s_b, s_o + 9, none⟩ (.int .i64 x9) fun w12 =>
        (KeepsB S1 w11 w12 ∧ (kSet w12 ⟨s_b, s_o + 10, none⟩ (.int .i64 x10) fun w13 =>
        R (.tuple #[]) w13))))))))
        (R (.tuple #[]) w10))) ∧
    (kDrew w8 fun w9 =>
    (kLd w9 ⟨s_b, s_o + 9, none⟩ .i64 fun x5 =>
    (bsplit (decide (x5 = (-1 : Int)))
      ((kLd w9 ⟨s_b, s_o + 6, none⟩ .i64 fun x6 =>
      (kLd w9 ⟨s_b, s_o + 7, none⟩ .i64 fun x7 =>
      J2 (!decide (x6 = x7)) w9)))
      (J2 false w9)))))) ∧
  (∃ J1 : Bool → World → Prop,
  (∀ (_junk : Env) (x4 : Bool) (w5 : World), J1 x4 w5 →
    (bsplit x4
      ((kSet w5 ⟨s_b, s_o + 9, none⟩ (.int .i64 (-1 : Int)) fun w6 =>
      (kSet w6 ⟨s_b, s_o + 10, none⟩ (.int .i64 (0 : Int)) fun w7 =>
      J w7)))
      (J w5))) ∧
  (kDrew w fun w1 =>
  (∃ S : Nat → Prop,
  (kLd w1 ⟨s_b, s_o + 9, none⟩ .i64 fun x =>
  (bsplit (!decide (x = (-1 : Int)))
    ((kLd w1 ⟨s_b, s_o + 9, none⟩ .i64 fun x1 =>
    (Calls Try.prog N_receiver_side_place #[(.pointer (some ⟨s_b, s_o, none⟩)), (.int .i64 x1)] w1 fun e_ w2 =>
    ∃ r : Int, e_ = .returned (.int .i64 r) ∧
    (KeepsB S w1 w2 ∧ (bsplit (decide (r = (0 : Int)))
      (J1 true w2)
      ((S s_b ∧
      (kLd w1 ⟨s_b, s_o + 9, none⟩ .i64 fun x2 =>
      (S s_b ∧
      (kLd w1 ⟨s_b, s_o + 7, none⟩ .i64 fun x3 =>
      (Calls Try.prog N_receiver_side_place #[(.pointer (some ⟨s_b, s_o, none⟩)), (.int .i64 x2)] w2 fun e_1 w3 =>
      ∃ r1 : Int, e_1 = .returned (.int .i64 r1) ∧
      (KeepsB S w1 w3 ∧ (Calls Try.prog N_receiver_side_place #[(.pointer (some ⟨s_b, s_o, none⟩)), (.int .i64 x3)] w3 fun e_2 w4 =>
      ∃ r2 : Int, e_2 = .returned (.int .i64 r2) ∧
      (KeepsB S w1 w4 ∧ J1 (decide (r1 > r2)) w4))))))))))))))
    (J1 false w1)))))))
theorem F_receiver_side_start_eq (s_b : Nat) (s_o : Nat) (w : World) (R : Value → World → Prop) : sxFn Try.prog TT h_receiver_side_start Try.f43 #[(.pointer (some ⟨s_b, s_o, none⟩))] w R = F_receiver_side_start s_b s_o w R := by kernel_rfl
theorem F_receiver_side_start_ok {R : Ending → World → Prop} (s_b : Nat) (s_o : Nat) (w : World) (h : F_receiver_side_start s_b s_o w fun v w' => R (.returned v) w') : Calls Try.prog N_receiver_side_start #[(.pointer (some ⟨s_b, s_o, none⟩))] w R :=
  calls_of (f := 43) follows_ok Try.func43 (Eq.mpr (F_receiver_side_start_eq s_b s_o w _) h)

def h_receiver_side_number : H := (.seq .reg (.seq .reg .leaf))
def F_receiver_side_number (s_b : Nat) (s_o : Nat) (n : Int) (w : World) (R : Value → World → Prop) : Prop :=
  (bsplit (decide (n ≥ (0 : Int)))
    ((kLd w ⟨s_b, s_o, none⟩ .i64 fun x =>
    (0 ≤ x ∧ (kW .i64 ((1 : Int) * 2 ^ (min x.toNat (IntKind.bits .i64))) fun x1 =>
    (kLet (decide (n < x1)) fun x2 =>
    R (.bool x2) w)))))
    (R (.bool false) w))
theorem F_receiver_side_number_eq (s_b : Nat) (s_o : Nat) (n : Int) (w : World) (R : Value → World → Prop) : sxFn Try.prog TT h_receiver_side_number Try.f44 #[(.pointer (some ⟨s_b, s_o, none⟩)), (.int .i64 n)] w R = F_receiver_side_number s_b s_o n w R := by kernel_rfl
theorem F_receiver_side_number_ok {R : Ending → World → Prop} (s_b : Nat) (s_o : Nat) (n : Int) (w : World) (h : F_receiver_side_number s_b s_o n w fun v w' => R (.returned v) w') : Calls Try.prog N_receiver_side_number #[(.pointer (some ⟨s_b, s_o, none⟩)), (.int .i64 n)] w R :=
  calls_of (f := 44) follows_ok Try.func44 (Eq.mpr (F_receiver_side_number_eq s_b s_o n w _) h)

def h_receiver_side_partials : H := (.seq .reg (.seq .reg (.seq (.seq .reg (.cond (.seq (.draw .no (.one 0 .stable (.one 1 .stable (.one 2 .stable (.one 3 .stable (.one 4 .stable (.one 5 .stable (.one 6 .stable (.one 7 .stable (.one 8 .stable (.one 9 .stable (.one 10 .stable (.one 11 .stable .nil))))))))))))) .leaf) .leaf)) (.seq (.seq .reg (.block (.loop [(32, .p (.int .i64))] [2, 4, 5, 32, 33, 34, 35, 36, 37, 38, 39, 40, 41, 42, 43, 44, 45, 46, 47, 48, 49, 50, 51, 52, 53, 54, 55, 56, 57, 58, 59, 60, 61, 62, 63, 64, 65, 66, 67, 68, 69, 70, 71, 72, 73, 74, 75, 76, 77, 78, 79, 80, 81, 82, 83, 84] (.seq .reg (.seq (.cond .leaf .leaf) (.seq (.block (.seq .reg (.cut [(83, .p .bool)] [37, 38, 39, 40, 41, 42, 43, 44, 45, 46, 47, 48, 49, 50, 51, 52, 53, 54, 55, 56, 57, 58, 59, 60, 61, 62, 63, 64, 65, 66, 67, 68, 69, 70, 71, 72, 73, 74, 75, 76, 77, 78, 79, 80, 81, 82, 83] (.draw .blk (.one 0 .pre (.one 1 .pre (.one 2 .pre (.one 3 .keep (.one 4 .stable (.one 5 .stable (.one 6 .stable (.one 7 .keep (.one 8 .stable (.one 9 .stable (.one 10 .stable (.one 11 .stable (.one 12 .stable (.one 13 .stable (.one 15 .stable (.one 16 .stable (.one 17 .stable (.one 18 .stable (.one 19 .stable (.one 20 .stable (.one 14 .keep (.one 21 .keep (.one 22 .stable (.one 23 .stable (.one 24 .stable (.one 25 .stable (.one 26 .stable (.one 27 .stable (.one 28 .stable (.one 29 .stable (.one 30 .stable (.one 32 .stable (.one 33 .stable (.one 34 .stable (.one 35 .stable (.one 36 .stable (.one 37 .stable (.one 38 .stable (.one 39 .stable (.one 40 .stable (.one 41 .stable (.one 42 .stable (.one 31 .keep (.one 43 .keep (.one 44 .stable (.one 45 .stable (.one 46 .stable .nil)))))))))))))))))))))))))))))))))))))))))))))))) (.cond (.seq .reg .leaf) .leaf)))) .reg)))))) (.seq .reg (.seq (.draw .blk (.one 0 .pre (.one 1 .pre (.one 2 .pre (.one 3 .pre (.one 4 .pre (.one 5 .pre (.one 6 .pre (.one 7 .pre (.one 8 .pre (.one 9 .pre (.one 10 .pre (.one 11 .pre (.one 12 .pre (.one 13 .pre (.one 14 .pre (.one 15 .pre (.one 16 .pre (.one 17 .pre (.one 18 .pre (.one 19 .pre (.one 20 .pre (.one 21 .pre (.one 22 .pre (.one 23 .pre (.one 24 .pre (.one 26 .stable (.one 27 .stable (.one 28 .stable (.one 29 .stable (.one 30 .stable (.one 25 .keep (.one 31 .stable (.one 32 .stable (.one 33 .stable .nil))))))))))))))))))))))))))))))))))) .leaf))))))
def F_receiver_side_partials (s_b : Nat) (s_o : Nat) (w : World) (R : Value → World → Prop) : Prop :=
  (kLdS w ⟨s_b, s_o + 13, none⟩ fun _ x_l _ =>
  (bsplit (decide ((x_l : Int) = (0 : Int)))
    ((kDrew w fun w1 =>
    (kLd w1 ⟨s_b, s_o + 7, none⟩ .i64 fun x =>
    (kLd w1 ⟨s_b, s_o + 6, none⟩ .i64 fun x1 =>
    (kLet (decide (x = x1)) fun x2 =>
    R (.bool x2) w1)))))
    ((kLdS w ⟨s_b, s_o + 13, none⟩ fun x_a1 x_l1 _ =>
    (∃ I : Int → Nat × (World → Prop), (I (0 : Int)).2 w ∧
    (∀ (_junk : Env) (x3 : Int) (w2 : World), (I x3).2 w2 →
      (bsplit (decide (x3 < (x_l1 : Int)))
        ((kIx x_a1 x_l1 x3 fun b =>
        (∃ x_0 : Int, ∃ x_1 : Bool, ∃ x_2 : Int, ∃ x_3_a : Option Addr, ∃ x_3_l x_3_c : Nat, ∃ x_4_a : Option Addr, ∃ x_4_l x_4_c : Nat, cellsAt w2 (b.add (x3.toNat * 5)) 0 [(.int .i64 x_0), (.bool x_1), (.int .i64 x_2), (.slice x_3_a x_3_l x_3_c), (.slice x_4_a x_4_l x_4_c)] ∧
        (kAlloc w2 #[.int .i64 (0 : Int), .bool false, .int .i64 (0 : Int), .slice none 0 0, .slice none 0 0] Ty_api_Partial fun b1 w3 =>
        (sxStore w3 ⟨b1, 0, none⟩ 0 [(.int .i64 x_0), (.bool x_1), (.int .i64 x_2), (.slice x_3_a x_3_l x_3_c), (.slice x_4_a x_4_l x_4_c)] fun w4 =>
        (∃ J : Bool → World → Prop,
        (∀ (_junk : Env) (x10 : Bool) (w12 : World), J x10 w12 →
          (bsplit x10
            (R (.bool false) w12)
            ((kW .i64 (x3 + (1 : Int)) fun x11 =>
            ((I x11).2 w12 ∧ (I x11).1 < (I x3).1))))) ∧
        (kDrew w4 fun w5 =>
        (∃ S : Nat → Prop,
        (kLd w5 ⟨b1, 0, none⟩ .i64 fun x4 =>
        (Calls Try.prog N_receiver_side_number #[(.pointer (some ⟨s_b, s_o, none⟩)), (.int .i64 x4)] w5 fun e_ w6 =>
        ∃ r : Bool, e_ = .returned (.bool r) ∧
        (KeepsB S w5 w6 ∧ (bsplit (!r)
          (J true w6)
          ((S b1 ∧
          (∃ x_01 : Int, ∃ x_11 : Bool, ∃ x_21 : Int, ∃ x_3_a1 : Option Addr, ∃ x_3_l1 x_3_c1 : Nat, ∃ x_4_a1 : Option Addr, ∃ x_4_l1 x_4_c1 : Nat, cellsAt w5 ⟨b1, 0, none⟩ 0 [(.int .i64 x_01), (.bool x_11), (.int .i64 x_21), (.slice x_3_a1 x_3_l1 x_3_c1), (.slice x_4_a1 x_4_l1 x_4_c1)] ∧
          (Calls Try.prog N_receiver_partial #[(.agg #[.int .i64 x_01, .bool x_11, .int .i64 x_21, .slice x_3_a1 x_3_l1 x_3_c1, .slice x_4_a1 x_4_l1 x_4_c1])] w6 fun e_1 w7 =>
          ∃ r1 : Bool, e_1 = .returned (.bool r1) ∧
          (KeepsB S w5 w7 ∧ (bsplit (!r1)
            (J true w7)
            ((S b1 ∧
            (kLd w5 ⟨b1, 0, none⟩ .i64 fun x5 =>
            (S s_b ∧
            (kLd w5 ⟨s_b, s_o + 7, none⟩ .i64 fun x6 =>
            (Calls Try.prog N_receiver_side_place #[(.pointer (some ⟨s_b, s_o, none⟩)), (.int .i64 x5)] w7 fun e_2 w8 =>
            ∃ r2 : Int, e_2 = .returned (.int .i64 r2) ∧
            (KeepsB S w5 w8 ∧ (Calls Try.prog N_receiver_side_place #[(.pointer (some ⟨s_b, s_o, none⟩)), (.int .i64 x6)] w8 fun e_3 w9 =>
            ∃ r3 : Int, e_3 = .returned (.int .i64 r3) ∧
            (KeepsB S w5 w9 ∧ (bsplit (decide (r2 ≥ r3))
              (J true w9)
              ((bsplit (decide (x3 > (0 : Int)))
                ((S b1 ∧
                (kLd w5 ⟨b1, 0, none⟩ .i64 fun x7 =>
                (S s_b ∧
                (kLdS w5 ⟨s_b, s_o + 13, none⟩ fun x_a2 x_l2 _ =>
                (kW .i64 (x3 - (1 : Int)) fun x8 =>
                (kIx x_a2 x_l2 x8 fun b2 =>
                (S (b2.add (x8.toNat * 5)).block ∧
                (kLd w5 (b2.add (x8.toNat * 5)) .i64 fun x9 =>
                (Calls Try.prog N_receiver_side_place #[(.pointer (some ⟨s_b, s_o, none⟩)), (.int .i64 x7)] w9 fun e_4 w10 =>
                ∃ r4 : Int, e_4 = .returned (.int .i64 r4) ∧
                (KeepsB S w5 w10 ∧ (Calls Try.prog N_receiver_side_place #[(.pointer (some ⟨s_b, s_o, none⟩)), (.int .i64 x9)] w10 fun e_5 w11 =>
                ∃ r5 : Int, e_5 = .returned (.int .i64 r5) ∧
                (KeepsB S w5 w11 ∧ J (decide (r4 ≤ r5)) w11)))))))))))))
                (J false w9)))))))))))))))))))))))))))))))
        ((kLdS w2 ⟨s_b, s_o + 13, none⟩ fun x_a3 x_l3 _ =>
        (kIx x_a3 x_l3 (0 : Int) fun b3 =>
        (∃ x_02 : Int, ∃ x_12 : Bool, ∃ x_22 : Int, ∃ x_3_a2 : Option Addr, ∃ x_3_l2 x_3_c2 : Nat, ∃ x_4_a2 : Option Addr, ∃ x_4_l2 x_4_c2 : Nat, cellsAt w2 (b3.add ((0 : Int).toNat * 5)) 0 [(.int .i64 x_02), (.bool x_12), (.int .i64 x_22), (.slice x_3_a2 x_3_l2 x_3_c2), (.slice x_4_a2 x_4_l2 x_4_c2)] ∧
        (kAlloc w2 #[.int .i64 (0 : Int), .bool false, .int .i64 (0 : Int), .slice none 0 0, .slice none 0 0] Ty_api_Partial fun b4 w13 =>
        (sxStore w13 ⟨b4, 0, none⟩ 0 [(.int .i64 x_02), (.bool x_12), (.int .i64 x_22), (.slice x_3_a2 x_3_l2 x_3_c2), (.slice x_4_a2 x_4_l2 x_4_c2)] fun w14 =>
        (kDrew w14 fun w15 =>
        (∃ S1 : Nat → Prop,
        (kLdB w15 ⟨b4, 1, none⟩ fun x12 =>
        (bsplit x12
          ((kLd w15 ⟨b4, 0, none⟩ .i64 fun x13 =>
          (kLd w15 ⟨s_b, s_o + 6, none⟩ .i64 fun x14 =>
          (bsplit (!(decide (x13 = x14)))
            ((kLdS w15 ⟨s_b, s_o + 13, none⟩ fun x_a4 x_l4 _ =>
            (kW .i64 ((x_l : Int) - (1 : Int)) fun x15 =>
            (kIx x_a4 x_l4 x15 fun b5 =>
            (kLd w15 (b5.add (x15.toNat * 5)) .i64 fun x16 =>
            (S1 s_b ∧
            (kLd w15 ⟨s_b, s_o + 7, none⟩ .i64 fun x17 =>
            (Calls Try.prog N_receiver_side_behind #[(.pointer (some ⟨s_b, s_o, none⟩)), (.int .i64 x16)] w15 fun e_6 w16 =>
            ∃ r6 : Int, e_6 = .returned (.int .i64 r6) ∧
            (KeepsB S1 w15 w16 ∧ (kLet (decide (r6 = x17)) fun x18 =>
            R (.bool x18) w16))))))))))
            (R (.bool false) w15)))))
          ((kLdS w15 ⟨s_b, s_o + 13, none⟩ fun x_a5 x_l5 _ =>
          (kW .i64 ((x_l : Int) - (1 : Int)) fun x19 =>
          (kIx x_a5 x_l5 x19 fun b6 =>
          (kLd w15 (b6.add (x19.toNat * 5)) .i64 fun x20 =>
          (S1 s_b ∧
          (kLd w15 ⟨s_b, s_o + 7, none⟩ .i64 fun x21 =>
          (Calls Try.prog N_receiver_side_behind #[(.pointer (some ⟨s_b, s_o, none⟩)), (.int .i64 x20)] w15 fun e_7 w17 =>
          ∃ r7 : Int, e_7 = .returned (.int .i64 r7) ∧
          (KeepsB S1 w15 w17 ∧ (kLet (decide (r7 = x21)) fun x22 =>
          R (.bool x22) w17)))))))))))))))))))))))))))
theorem F_receiver_side_partials_eq (s_b : Nat) (s_o : Nat) (w : World) (R : Value → World → Prop) : sxFn Try.prog TT h_receiver_side_partials Try.f45 #[(.pointer (some ⟨s_b, s_o, none⟩))] w R = F_receiver_side_partials s_b s_o w R := by kernel_rfl
theorem F_receiver_side_partials_ok {R : Ending → World → Prop} (s_b : Nat) (s_o : Nat) (w : World) (h : F_receiver_side_partials s_b s_o w fun v w' => R (.returned v) w') : Calls Try.prog N_receiver_side_partials #[(.pointer (some ⟨s_b, s_o, none⟩))] w R :=
  calls_of (f := 45) follows_ok Try.func45 (Eq.mpr (F_receiver_side_partials_eq s_b s_o w _) h)

def h_receiver_side_missing : H := (.seq .reg (.seq .reg (.seq (.seq .reg (.cond (.seq .reg .leaf) .leaf)) (.seq .reg (.seq (.seq .reg (.cond (.seq .reg .leaf) .leaf)) (.seq .reg (.cut [(7, .p (.int .i64))] [7, 34, 35] (.seq .reg (.cond .reg .leaf)) (.seq .reg (.seq .reg .leaf)))))))))
def F_receiver_side_missing (s_b : Nat) (s_o : Nat) (n : Int) (w : World) (R : Value → World → Prop) : Prop :=
  (kAlloc w #[(.int .i64 n)] Ty_int fun b w1 =>
  (kLdS w1 ⟨s_b, s_o + 13, none⟩ fun x_a x_l x_c =>
  (Calls Try.prog N_slices_IndexFunc_Sapi_Partial_api_Partial #[(.slice x_a x_l x_c), (.func (.func N_receiver_side_missing_1) #[] #[(.pointer (some ⟨b, 0, none⟩))])] w1 fun e_ w2 =>
  ∃ r : Int, e_ = .returned (.int .i64 r) ∧
  (bsplit (decide (r < (0 : Int)))
    ((kLd w2 ⟨b, 0, none⟩ .i64 fun x =>
    (kAlloc w2 #[(.int .i64 x), (.int .i64 (0 : Int)), (.int .i64 (0 : Int))] Ty_api_Range fun b1 w3 =>
    R (.slice (some ⟨b1, 0, none⟩) 1 1) w3)))
    ((kLdS w2 ⟨s_b, s_o + 13, none⟩ fun x_a1 x_l1 _ =>
    (kIx x_a1 x_l1 r fun b2 =>
    (∃ x_0 : Int, ∃ x_1 : Bool, ∃ x_2 : Int, ∃ x_3_a : Option Addr, ∃ x_3_l x_3_c : Nat, ∃ x_4_a : Option Addr, ∃ x_4_l x_4_c : Nat, cellsAt w2 (b2.add (r.toNat * 5)) 0 [(.int .i64 x_0), (.bool x_1), (.int .i64 x_2), (.slice x_3_a x_3_l x_3_c), (.slice x_4_a x_4_l x_4_c)] ∧
    (kAlloc w2 #[.int .i64 (0 : Int), .bool false, .int .i64 (0 : Int), .slice none 0 0, .slice none 0 0] Ty_api_Partial fun b3 w4 =>
    (sxStore w4 ⟨b3, 0, none⟩ 0 [(.int .i64 x_0), (.bool x_1), (.int .i64 x_2), (.slice x_3_a x_3_l x_3_c), (.slice x_4_a x_4_l x_4_c)] fun w5 =>
    (kLdB w5 ⟨b3, 1, none⟩ fun x1 =>
    (bsplit x1
      (R (.slice none 0 0) w5)
      ((kLd w5 ⟨b3, 2, none⟩ .i64 fun x2 =>
      (∃ J : Int → World → Prop,
      (∀ (_junk : Env) (length : Int) (w6 : World), J length w6 →
        (kLdS w6 ⟨b3, 4, none⟩ fun x_a2 x_l2 x_c2 =>
        (kLd w6 ⟨b, 0, none⟩ .i64 fun x3 =>
        (Calls Try.prog N_segment_Gaps #[(.slice x_a2 x_l2 x_c2), (.int .i64 x3), (.int .i64 length)] w6 fun e_1 w7 =>
        ∃ r_a : Option Addr, ∃ r_l r_c : Nat, ∃ r1 : Int, e_1 = .returned (.tuple #[(.slice r_a r_l r_c), (.int .i64 r1)]) ∧
        R (.slice r_a r_l r_c) w7)))) ∧
      (bsplit (decide (x2 = (-1 : Int)))
        (J (65535 : Int) w5)
        (J x2 w5)))))))))))))))))
theorem F_receiver_side_missing_eq (s_b : Nat) (s_o : Nat) (n : Int) (w : World) (R : Value → World → Prop) : sxFn Try.prog TT h_receiver_side_missing Try.f46 #[(.pointer (some ⟨s_b, s_o, none⟩)), (.int .i64 n)] w R = F_receiver_side_missing s_b s_o n w R := by kernel_rfl
theorem F_receiver_side_missing_ok {R : Ending → World → Prop} (s_b : Nat) (s_o : Nat) (n : Int) (w : World) (h : F_receiver_side_missing s_b s_o n w fun v w' => R (.returned v) w') : Calls Try.prog N_receiver_side_missing #[(.pointer (some ⟨s_b, s_o, none⟩)), (.int .i64 n)] w R :=
  calls_of (f := 46) follows_ok Try.func46 (Eq.mpr (F_receiver_side_missing_eq s_b s_o n w _) h)

def h_ref15_Bits : H := (.seq .reg (.seq .reg .leaf))
def F_ref15_Bits (n : Int) (w : World) (R : Value → World → Prop) : Prop :=
  (bsplit (decide (n ≥ (5 : Int)))
    ((kLet (decide (n ≤ (9 : Int))) fun x =>
    R (.bool x) w))
    (R (.bool false) w))
theorem F_ref15_Bits_eq (n : Int) (w : World) (R : Value → World → Prop) : sxFn Try.prog TT h_ref15_Bits Try.f47 #[(.int .i64 n)] w R = F_ref15_Bits n w R := by kernel_rfl
theorem F_ref15_Bits_ok {R : Ending → World → Prop} (n : Int) (w : World) (h : F_ref15_Bits n w fun v w' => R (.returned v) w') : Calls Try.prog N_ref15_Bits #[(.int .i64 n)] w R :=
  calls_of (f := 47) follows_ok Try.func47 (Eq.mpr (F_ref15_Bits_eq n w _) h)

def h_sender_between : H := (.seq .reg (.seq .reg .leaf))
def F_sender_between (x : Int) (least : Int) (most : Int) (w : World) (R : Value → World → Prop) : Prop :=
  (bsplit (decide (x ≥ least))
    ((kLet (decide (x ≤ most)) fun x1 =>
    R (.bool x1) w))
    (R (.bool false) w))
theorem F_sender_between_eq (x : Int) (least : Int) (most : Int) (w : World) (R : Value → World → Prop) : sxFn Try.prog TT h_sender_between Try.f48 #[(.int .i64 x), (.int .i64 least), (.int .i64 most)] w R = F_sender_between x least most w R := by kernel_rfl
theorem F_sender_between_ok {R : Ending → World → Prop} (x : Int) (least : Int) (most : Int) (w : World) (h : F_sender_between x least most w fun v w' => R (.returned v) w') : Calls Try.prog N_sender_between #[(.int .i64 x), (.int .i64 least), (.int .i64 most)] w R :=
  calls_of (f := 48) follows_ok Try.func48 (Eq.mpr (F_sender_between_eq x least most w _) h)

def h_counter_Bits : H := (.seq .reg (.seq .reg .leaf))
def F_counter_Bits (bits : Int) (w : World) (R : Value → World → Prop) : Prop :=
  (bsplit (decide (bits ≥ (5 : Int)))
    ((kLet (decide (bits ≤ (9 : Int))) fun x =>
    R (.bool x) w))
    (R (.bool false) w))
theorem F_counter_Bits_eq (bits : Int) (w : World) (R : Value → World → Prop) : sxFn Try.prog TT h_counter_Bits Try.f49 #[(.int .i64 bits)] w R = F_counter_Bits bits w R := by kernel_rfl
theorem F_counter_Bits_ok {R : Ending → World → Prop} (bits : Int) (w : World) (h : F_counter_Bits bits w fun v w' => R (.returned v) w') : Calls Try.prog N_counter_Bits #[(.int .i64 bits)] w R :=
  calls_of (f := 49) follows_ok Try.func49 (Eq.mpr (F_counter_Bits_eq bits w _) h)

def h_slices_Clone_Sapi_Partial_api_Partial : H := (.seq .reg (.seq (.seq .reg (.cond (.seq .reg .leaf) .leaf)) (.seq .reg .leaf)))
def F_slices_Clone_Sapi_Partial_api_Partial (s_a : Option Addr) (s_l : Nat) (s_c : Nat) (w : World) (R : Value → World → Prop) : Prop :=
  (bsplit s_a.isNone
    (R (.slice none 0 0) w)
    ((kAlloc w #[] Ty_api_Partial fun b w1 =>
    (AppP Try.prog #[Ty_S_api_Partial, Ty_S_api_Partial] Ty_S_api_Partial #[(.slice (some ⟨b, 0, none⟩) 0 0), (.slice s_a s_l s_c)] w1 fun x_a x_l x_c w2 =>
    R (.slice x_a x_l x_c) w2))))
theorem F_slices_Clone_Sapi_Partial_api_Partial_eq (s_a : Option Addr) (s_l : Nat) (s_c : Nat) (w : World) (R : Value → World → Prop) : sxFn Try.prog TT h_slices_Clone_Sapi_Partial_api_Partial Try.f50 #[(.slice s_a s_l s_c)] w R = F_slices_Clone_Sapi_Partial_api_Partial s_a s_l s_c w R := by kernel_rfl
theorem F_slices_Clone_Sapi_Partial_api_Partial_ok {R : Ending → World → Prop} (s_a : Option Addr) (s_l : Nat) (s_c : Nat) (w : World) (h : F_slices_Clone_Sapi_Partial_api_Partial s_a s_l s_c w fun v w' => R (.returned v) w') : Calls Try.prog N_slices_Clone_Sapi_Partial_api_Partial #[(.slice s_a s_l s_c)] w R :=
  calls_of (f := 50) follows_ok Try.func50 (Eq.mpr (F_slices_Clone_Sapi_Partial_api_Partial_eq s_a s_l s_c w _) h)

def h_slices_Clone_Sbyte_byte : H := (.seq .reg (.seq (.seq .reg (.cond (.seq .reg .leaf) .leaf)) (.seq .reg .leaf)))
def F_slices_Clone_Sbyte_byte (s_a : Option Addr) (s_l : Nat) (s_c : Nat) (w : World) (R : Value → World → Prop) : Prop :=
  (bsplit s_a.isNone
    (R (.slice none 0 0) w)
    ((kAlloc w #[] Ty_uint8 fun b w1 =>
    (AppP Try.prog #[Ty_S_uint8, Ty_S_uint8] Ty_S_uint8 #[(.slice (some ⟨b, 0, none⟩) 0 0), (.slice s_a s_l s_c)] w1 fun x_a x_l x_c w2 =>
    R (.slice x_a x_l x_c) w2))))
theorem F_slices_Clone_Sbyte_byte_eq (s_a : Option Addr) (s_l : Nat) (s_c : Nat) (w : World) (R : Value → World → Prop) : sxFn Try.prog TT h_slices_Clone_Sbyte_byte Try.f51 #[(.slice s_a s_l s_c)] w R = F_slices_Clone_Sbyte_byte s_a s_l s_c w R := by kernel_rfl
theorem F_slices_Clone_Sbyte_byte_ok {R : Ending → World → Prop} (s_a : Option Addr) (s_l : Nat) (s_c : Nat) (w : World) (h : F_slices_Clone_Sbyte_byte s_a s_l s_c w fun v w' => R (.returned v) w') : Calls Try.prog N_slices_Clone_Sbyte_byte #[(.slice s_a s_l s_c)] w R :=
  calls_of (f := 51) follows_ok Try.func51 (Eq.mpr (F_slices_Clone_Sbyte_byte_eq s_a s_l s_c w _) h)

def h_slices_Clone_Sapi_Range_api_Range : H := (.seq .reg (.seq (.seq .reg (.cond (.seq .reg .leaf) .leaf)) (.seq .reg .leaf)))
def F_slices_Clone_Sapi_Range_api_Range (s_a : Option Addr) (s_l : Nat) (s_c : Nat) (w : World) (R : Value → World → Prop) : Prop :=
  (bsplit s_a.isNone
    (R (.slice none 0 0) w)
    ((kAlloc w #[] Ty_api_Range fun b w1 =>
    (AppP Try.prog #[Ty_S_api_Range, Ty_S_api_Range] Ty_S_api_Range #[(.slice (some ⟨b, 0, none⟩) 0 0), (.slice s_a s_l s_c)] w1 fun x_a x_l x_c w2 =>
    R (.slice x_a x_l x_c) w2))))
theorem F_slices_Clone_Sapi_Range_api_Range_eq (s_a : Option Addr) (s_l : Nat) (s_c : Nat) (w : World) (R : Value → World → Prop) : sxFn Try.prog TT h_slices_Clone_Sapi_Range_api_Range Try.f52 #[(.slice s_a s_l s_c)] w R = F_slices_Clone_Sapi_Range_api_Range s_a s_l s_c w R := by kernel_rfl
theorem F_slices_Clone_Sapi_Range_api_Range_ok {R : Ending → World → Prop} (s_a : Option Addr) (s_l : Nat) (s_c : Nat) (w : World) (h : F_slices_Clone_Sapi_Range_api_Range s_a s_l s_c w fun v w' => R (.returned v) w') : Calls Try.prog N_slices_Clone_Sapi_Range_api_Range #[(.slice s_a s_l s_c)] w R :=
  calls_of (f := 52) follows_ok Try.func52 (Eq.mpr (F_slices_Clone_Sapi_Range_api_Range_eq s_a s_l s_c w _) h)

def h_segment_head : H := (.seq .reg (.seq (.seq .reg (.cond (.seq .reg .leaf) .leaf)) (.seq .reg .leaf)))
def F_segment_head (part : Int) (w : World) (R : Value → World → Prop) : Prop :=
  (Calls Try.prog N_segment_begins #[(.int .i64 part)] w fun e_ w1 =>
  ∃ r : Bool, e_ = .returned (.bool r) ∧
  (bsplit r
    (R (.int .i64 (2 : Int)) w1)
    (R (.int .i64 (4 : Int)) w1)))
theorem F_segment_head_eq (part : Int) (w : World) (R : Value → World → Prop) : sxFn Try.prog TT h_segment_head Try.f53 #[(.int .i64 part)] w R = F_segment_head part w R := by kernel_rfl
theorem F_segment_head_ok {R : Ending → World → Prop} (part : Int) (w : World) (h : F_segment_head part w fun v w' => R (.returned v) w') : Calls Try.prog N_segment_head #[(.int .i64 part)] w R :=
  calls_of (f := 53) follows_ok Try.func53 (Eq.mpr (F_segment_head_eq part w _) h)

def h_segment_Valid : H := (.seq .reg (.seq (.cut [(39, .p .bool)] [5, 6, 7, 8, 9, 10, 11, 12, 13, 14, 15, 16, 17, 18, 19, 20, 21, 22, 23, 24, 25, 26, 27, 28, 29, 30, 31, 32, 33, 34, 35, 36, 37, 38, 39] (.draw .blk (.one 0 .pre (.one 1 .keep (.one 2 .stable (.one 3 .stable (.one 4 .stable (.one 5 .stable (.one 6 .stable (.one 7 .stable (.one 8 .stable (.one 9 .stable (.one 10 .stable (.one 11 .stable (.one 12 .stable (.one 13 .stable (.one 14 .stable (.one 15 .stable (.one 16 .stable (.one 17 .stable (.one 18 .stable (.one 19 .stable (.one 20 .stable (.one 21 .stable (.one 22 .stable (.one 23 .stable (.one 24 .stable (.one 25 .stable (.one 26 .stable (.one 27 .stable (.one 28 .stable (.one 29 .stable (.one 30 .stable (.one 31 .stable (.one 32 .stable (.one 33 .stable (.one 34 .stable .nil)))))))))))))))))))))))))))))))))))) (.cond (.seq .reg .leaf) .leaf)) (.cut [] [4, 40, 41, 42, 43, 44, 45, 46, 47, 48, 49, 50, 51, 52, 53, 54, 55, 56] (.seq (.draw .blk (.one 0 .pre (.one 1 .pre (.one 3 .stable (.one 4 .stable (.one 5 .stable (.one 2 .keep (.one 6 .stable (.one 7 .stable (.one 8 .stable (.one 9 .stable (.one 10 .stable (.one 11 .stable (.one 12 .stable (.one 13 .stable (.one 14 .stable (.one 15 .stable (.one 16 .stable .nil)))))))))))))))))) (.cond (.seq .reg .leaf) .leaf)) (.seq .reg .leaf))))
def F_segment_Valid (bits : Int) (p_0 : Int) (p_1 : Int) (p_2 : Int) (p_3 : Int) (p_4_a : Option Addr) (p_4_l : Nat) (p_4_c : Nat) (w : World) (R : Value → World → Prop) : Prop :=
  (kAlloc w #[(.int .i64 p_0), (.int .i64 p_1), (.int .i64 p_2), (.int .i64 p_3), (.slice p_4_a p_4_l p_4_c)] Ty_api_Piece fun b w1 =>
  (∃ J : Bool → World → Prop,
  (∀ (_junk : Env) (x7 : Bool) (w4 : World), J x7 w4 →
    (bsplit x7
      (R (.bool false) w4)
      ((∃ J1 : World → Prop,
      (∀ (_junk : Env)  (w7 : World), J1 w7 →
        (kLdS w7 ⟨b, 4, none⟩ fun _ x_l _ =>
        (bsplit (decide ((x_l : Int) ≥ (1 : Int)))
          ((kLdS w7 ⟨b, 4, none⟩ fun _ x_l1 _ =>
          (kLd w7 ⟨b, 3, none⟩ .i64 fun x12 =>
          (kW .i64 ((2054 : Int) - x12) fun x13 =>
          (kLet (decide ((x_l1 : Int) ≤ x13)) fun x14 =>
          R (.bool x14) w7)))))
          (R (.bool false) w7)))) ∧
      (kDrew w4 fun w5 =>
      (∃ S1 : Nat → Prop,
      (kLd w5 ⟨b, 1, none⟩ .i64 fun x8 =>
      (S1 b ∧
      (kLd w5 ⟨b, 3, none⟩ .i64 fun x9 =>
      (Calls Try.prog N_segment_begins #[(.int .i64 x8)] w5 fun e_1 w6 =>
      ∃ r1 : Bool, e_1 = .returned (.bool r1) ∧
      (KeepsB S1 w5 w6 ∧ (bsplit (!(r1 == (decide (x9 = (0 : Int)))))
        (R (.bool false) w6)
        ((S1 b ∧
        (kLd w5 ⟨b, 3, none⟩ .i64 fun x10 =>
        (bsplit (decide (x10 < (0 : Int)))
          (R (.bool false) w6)
          ((S1 b ∧
          (kLd w5 ⟨b, 3, none⟩ .i64 fun x11 =>
          (bsplit (decide (x11 > (2054 : Int)))
            (R (.bool false) w6)
            (J1 w6))))))))))))))))))))) ∧
  (kDrew w1 fun w2 =>
  (∃ S : Nat → Prop,
  (Calls Try.prog N_counter_Bits #[(.int .i64 bits)] w2 fun e_ w3 =>
  ∃ r : Bool, e_ = .returned (.bool r) ∧
  (KeepsB S w2 w3 ∧ (bsplit (!r)
    (J true w3)
    ((S b ∧
    (kLd w2 ⟨b, 0, none⟩ .i64 fun x =>
    (bsplit (decide (x < (0 : Int)))
      (J true w3)
      ((S b ∧
      (kLd w2 ⟨b, 0, none⟩ .i64 fun x1 =>
      (0 ≤ bits ∧ (kW .i64 ((1 : Int) * 2 ^ (min bits.toNat (IntKind.bits .i64))) fun x2 =>
      (bsplit (decide (x1 ≥ x2))
        (J true w3)
        ((S b ∧
        (kLd w2 ⟨b, 1, none⟩ .i64 fun x3 =>
        (bsplit (decide (x3 < (0 : Int)))
          (J true w3)
          ((S b ∧
          (kLd w2 ⟨b, 1, none⟩ .i64 fun x4 =>
          (bsplit (decide (x4 > (3 : Int)))
            (J true w3)
            ((S b ∧
            (kLd w2 ⟨b, 2, none⟩ .i64 fun x5 =>
            (bsplit (decide (x5 < (0 : Int)))
              (J true w3)
              ((S b ∧
              (kLd w2 ⟨b, 2, none⟩ .i64 fun x6 =>
              J (decide (x6 > (1 : Int))) w3))))))))))))))))))))))))))))))))
theorem F_segment_Valid_eq (bits : Int) (p_0 : Int) (p_1 : Int) (p_2 : Int) (p_3 : Int) (p_4_a : Option Addr) (p_4_l : Nat) (p_4_c : Nat) (w : World) (R : Value → World → Prop) : sxFn Try.prog TT h_segment_Valid Try.f54 #[(.int .i64 bits), (.agg #[.int .i64 p_0, .int .i64 p_1, .int .i64 p_2, .int .i64 p_3, .slice p_4_a p_4_l p_4_c])] w R = F_segment_Valid bits p_0 p_1 p_2 p_3 p_4_a p_4_l p_4_c w R := by kernel_rfl
theorem F_segment_Valid_ok {R : Ending → World → Prop} (bits : Int) (p_0 : Int) (p_1 : Int) (p_2 : Int) (p_3 : Int) (p_4_a : Option Addr) (p_4_l : Nat) (p_4_c : Nat) (w : World) (h : F_segment_Valid bits p_0 p_1 p_2 p_3 p_4_a p_4_l p_4_c w fun v w' => R (.returned v) w') : Calls Try.prog N_segment_Valid #[(.int .i64 bits), (.agg #[.int .i64 p_0, .int .i64 p_1, .int .i64 p_2, .int .i64 p_3, .slice p_4_a p_4_l p_4_c])] w R :=
  calls_of (f := 54) follows_ok Try.func54 (Eq.mpr (F_segment_Valid_eq bits p_0 p_1 p_2 p_3 p_4_a p_4_l p_4_c w _) h)

def h_serial_Distance : H := (.seq .reg (.seq .reg .leaf))
def F_serial_Distance (n : Int) (a : Int) (b : Int) (w : World) (R : Value → World → Prop) : Prop :=
  (kW .i64 (b - a) fun x =>
  (Calls Try.prog N_serial_Low #[(.int .i64 n), (.int .i64 x)] w fun e_ w1 =>
  ∃ r : Int, e_ = .returned (.int .i64 r) ∧
  R (.int .i64 r) w1))
theorem F_serial_Distance_eq (n : Int) (a : Int) (b : Int) (w : World) (R : Value → World → Prop) : sxFn Try.prog TT h_serial_Distance Try.f55 #[(.int .i64 n), (.int .i64 a), (.int .i64 b)] w R = F_serial_Distance n a b w R := by kernel_rfl
theorem F_serial_Distance_ok {R : Ending → World → Prop} (n : Int) (a : Int) (b : Int) (w : World) (h : F_serial_Distance n a b w fun v w' => R (.returned v) w') : Calls Try.prog N_serial_Distance #[(.int .i64 n), (.int .i64 a), (.int .i64 b)] w R :=
  calls_of (f := 55) follows_ok Try.func55 (Eq.mpr (F_serial_Distance_eq n a b w _) h)

def h_receiver_piece_contradicts : H := (.seq .reg (.seq .reg (.seq (.block (.seq .reg (.cond (.seq (.draw .blk (.one 0 .pre (.one 1 .pre (.one 2 .pre (.one 3 .pre (.one 4 .pre (.one 5 .pre (.one 6 .pre (.one 7 .pre (.one 8 .pre (.one 9 .pre (.one 10 .pre (.one 12 .stable (.one 13 .stable (.one 11 .keep (.one 14 .stable (.one 15 .stable (.one 16 .stable .nil)))))))))))))))))) .leaf) (.seq .reg (.cond (.seq .reg .leaf) .leaf))))) (.seq .reg .leaf))))
def F_receiver_piece_contradicts (p_0 : Int) (p_1 : Int) (p_2 : Int) (p_3 : Int) (p_4_a : Option Addr) (p_4_l : Nat) (p_4_c : Nat) (p_5 : Int) (p_6 : Bool) (x_0 : Int) (x_1 : Bool) (x_2 : Int) (x_3_a : Option Addr) (x_3_l : Nat) (x_3_c : Nat) (x_4_a : Option Addr) (x_4_l : Nat) (x_4_c : Nat) (w : World) (R : Value → World → Prop) : Prop :=
  (kAlloc w #[(.int .i64 p_0), (.int .i64 p_1), (.int .i64 p_2), (.int .i64 p_3), (.slice p_4_a p_4_l p_4_c), (.int .i64 p_5), (.bool p_6)] Ty_receiver_piece fun b w1 =>
  (kAlloc w1 #[(.int .i64 x_0), (.bool x_1), (.int .i64 x_2), (.slice x_3_a x_3_l x_3_c), (.slice x_4_a x_4_l x_4_c)] Ty_api_Partial fun b1 w2 =>
  (kLd w2 ⟨b1, 2, none⟩ .i64 fun x =>
  (kLet (!decide (x = (-1 : Int))) fun known =>
  (kLdB w2 ⟨b, 6, none⟩ fun x1 =>
  (bsplit x1
    ((kDrew w2 fun w3 =>
    (∃ S : Nat → Prop,
    (bsplit known
      ((kLd w3 ⟨b1, 2, none⟩ .i64 fun x2 =>
      (kLd w3 ⟨b, 5, none⟩ .i64 fun x3 =>
      (bsplit (!decide (x2 = x3))
        (R (.bool true) w3)
        ((kLdS w3 ⟨b1, 4, none⟩ fun x_a x_l x_c =>
        (S b ∧
        (kLd w3 ⟨b, 5, none⟩ .i64 fun x4 =>
        (Calls Try.prog N_receiver_end #[(.slice x_a x_l x_c)] w3 fun e_ w4 =>
        ∃ r : Int, e_ = .returned (.int .i64 r) ∧
        (KeepsB S w3 w4 ∧ (kLet (decide (r > x4)) fun x5 =>
        R (.bool x5) w4)))))))))))
      ((kLdS w3 ⟨b1, 4, none⟩ fun x_a1 x_l1 x_c1 =>
      (S b ∧
      (kLd w3 ⟨b, 5, none⟩ .i64 fun x6 =>
      (Calls Try.prog N_receiver_end #[(.slice x_a1 x_l1 x_c1)] w3 fun e_1 w5 =>
      ∃ r1 : Int, e_1 = .returned (.int .i64 r1) ∧
      (KeepsB S w3 w5 ∧ (kLet (decide (r1 > x6)) fun x7 =>
      R (.bool x7) w5)))))))))))
    ((bsplit known
      ((kLd w2 ⟨b, 5, none⟩ .i64 fun x8 =>
      (kLd w2 ⟨b1, 2, none⟩ .i64 fun x9 =>
      (kLet (decide (x8 ≥ x9)) fun x10 =>
      R (.bool x10) w2))))
      (R (.bool false) w2)))))))))
theorem F_receiver_piece_contradicts_eq (p_0 : Int) (p_1 : Int) (p_2 : Int) (p_3 : Int) (p_4_a : Option Addr) (p_4_l : Nat) (p_4_c : Nat) (p_5 : Int) (p_6 : Bool) (x_0 : Int) (x_1 : Bool) (x_2 : Int) (x_3_a : Option Addr) (x_3_l : Nat) (x_3_c : Nat) (x_4_a : Option Addr) (x_4_l : Nat) (x_4_c : Nat) (w : World) (R : Value → World → Prop) : sxFn Try.prog TT h_receiver_piece_contradicts Try.f56 #[(.agg #[.int .i64 p_0, .int .i64 p_1, .int .i64 p_2, .int .i64 p_3, .slice p_4_a p_4_l p_4_c, .int .i64 p_5, .bool p_6]), (.agg #[.int .i64 x_0, .bool x_1, .int .i64 x_2, .slice x_3_a x_3_l x_3_c, .slice x_4_a x_4_l x_4_c])] w R = F_receiver_piece_contradicts p_0 p_1 p_2 p_3 p_4_a p_4_l p_4_c p_5 p_6 x_0 x_1 x_2 x_3_a x_3_l x_3_c x_4_a x_4_l x_4_c w R := by kernel_rfl
theorem F_receiver_piece_contradicts_ok {R : Ending → World → Prop} (p_0 : Int) (p_1 : Int) (p_2 : Int) (p_3 : Int) (p_4_a : Option Addr) (p_4_l : Nat) (p_4_c : Nat) (p_5 : Int) (p_6 : Bool) (x_0 : Int) (x_1 : Bool) (x_2 : Int) (x_3_a : Option Addr) (x_3_l : Nat) (x_3_c : Nat) (x_4_a : Option Addr) (x_4_l : Nat) (x_4_c : Nat) (w : World) (h : F_receiver_piece_contradicts p_0 p_1 p_2 p_3 p_4_a p_4_l p_4_c p_5 p_6 x_0 x_1 x_2 x_3_a x_3_l x_3_c x_4_a x_4_l x_4_c w fun v w' => R (.returned v) w') : Calls Try.prog N_receiver_piece_contradicts #[(.agg #[.int .i64 p_0, .int .i64 p_1, .int .i64 p_2, .int .i64 p_3, .slice p_4_a p_4_l p_4_c, .int .i64 p_5, .bool p_6]), (.agg #[.int .i64 x_0, .bool x_1, .int .i64 x_2, .slice x_3_a x_3_l x_3_c, .slice x_4_a x_4_l x_4_c])] w R :=
  calls_of (f := 56) follows_ok Try.func56 (Eq.mpr (F_receiver_piece_contradicts_eq p_0 p_1 p_2 p_3 p_4_a p_4_l p_4_c p_5 p_6 x_0 x_1 x_2 x_3_a x_3_l x_3_c x_4_a x_4_l x_4_c w _) h)

end Go.Proofs.Ythceaojjeokclaa
