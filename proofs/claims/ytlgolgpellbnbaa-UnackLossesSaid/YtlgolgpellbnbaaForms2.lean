import Derived.Test.YtlgolgpellbnbaaBase
import Derived.KernelRfl
namespace Go.Proofs.Ytlgolgpellbnbaa
open Go.Sx Go.RowKit
set_option maxRecDepth 100000

def h_unack_plain : H := (.seq .reg (.seq .reg (.seq .reg .leaf)))
def F_unack_plain (r_0 : Int) (r_1 : Int) (r_2 : Int) (r_3 : Int) (r_4 : Int) (r_5 : Int) (r_6 : Int) (r_7 : Int) (r_8 : Int) (r_9 : Int) (r_10 : Int) (r_11 : Int) (r_12 : Bool) (r_13_a : Option Addr) (r_13_l : Nat) (r_13_c : Nat) (w : World) (R : Value → World → Prop) : Prop :=
  (kAlloc w #[(.int .i64 r_0), (.int .i64 r_1), (.int .i64 r_2), (.int .i64 r_3), (.int .i64 r_4), (.int .i64 r_5), (.int .i64 r_6), (.int .i64 r_7), (.int .i64 r_8), (.int .i64 r_9), (.int .i64 r_10), (.int .i64 r_11), (.bool r_12), (.slice r_13_a r_13_l r_13_c)] Ty_api_Receiver fun b w1 =>
  (kAlloc w1 #[.int .i64 (0 : Int), .int .i64 (0 : Int), .int .i64 (0 : Int), .int .i64 (0 : Int), .int .i64 (0 : Int), .int .i64 (0 : Int), .int .i64 (0 : Int), .int .i64 (0 : Int), .int .i64 (0 : Int), .int .i64 (0 : Int), .int .i64 (0 : Int), .int .i64 (0 : Int), .bool false, .slice none 0 0] Ty_api_Receiver fun b1 w2 =>
  (kLd w2 ⟨b, 6, none⟩ .i64 fun x =>
  (kSet w2 ⟨b, 12, none⟩ (.bool false) fun w3 =>
  (kSet w3 ⟨b, 8, none⟩ (.int .i64 x) fun w4 =>
  (∃ x_0 x_1 x_2 x_3 x_4 x_5 x_6 x_7 x_8 x_9 x_10 x_11 : Int, ∃ x_12 : Bool, ∃ x_13_a : Option Addr, ∃ x_13_l x_13_c : Nat, cellsAt w4 ⟨b, 0, none⟩ 0 [(.int .i64 x_0), (.int .i64 x_1), (.int .i64 x_2), (.int .i64 x_3), (.int .i64 x_4), (.int .i64 x_5), (.int .i64 x_6), (.int .i64 x_7), (.int .i64 x_8), (.int .i64 x_9), (.int .i64 x_10), (.int .i64 x_11), (.bool x_12), (.slice x_13_a x_13_l x_13_c)] ∧
  (sxStore w4 ⟨b1, 0, none⟩ 0 [(.int .i64 x_0), (.int .i64 x_1), (.int .i64 x_2), (.int .i64 x_3), (.int .i64 x_4), (.int .i64 x_5), (.int .i64 x_6), (.int .i64 x_7), (.int .i64 x_8), (.int .i64 x_9), (.int .i64 x_10), (.int .i64 x_11), (.bool x_12), (.slice x_13_a x_13_l x_13_c)] fun w5 =>
  (∃ r_01 r_13 r_21 r_31 r_41 r_51 r_61 r_71 r_81 r_91 r_101 r_111 : Int, ∃ r_121 : Bool, ∃ r_13_a1 : Option Addr, ∃ r_13_l1 r_13_c1 : Nat, cellsAt w5 ⟨b1, 0, none⟩ 0 [(.int .i64 r_01), (.int .i64 r_13), (.int .i64 r_21), (.int .i64 r_31), (.int .i64 r_41), (.int .i64 r_51), (.int .i64 r_61), (.int .i64 r_71), (.int .i64 r_81), (.int .i64 r_91), (.int .i64 r_101), (.int .i64 r_111), (.bool r_121), (.slice r_13_a1 r_13_l1 r_13_c1)] ∧
  R (.agg #[.int .i64 r_01, .int .i64 r_13, .int .i64 r_21, .int .i64 r_31, .int .i64 r_41, .int .i64 r_51, .int .i64 r_61, .int .i64 r_71, .int .i64 r_81, .int .i64 r_91, .int .i64 r_101, .int .i64 r_111, .bool r_121, .slice r_13_a1 r_13_l1 r_13_c1]) w5))))))))
theorem F_unack_plain_eq (r_0 : Int) (r_1 : Int) (r_2 : Int) (r_3 : Int) (r_4 : Int) (r_5 : Int) (r_6 : Int) (r_7 : Int) (r_8 : Int) (r_9 : Int) (r_10 : Int) (r_11 : Int) (r_12 : Bool) (r_13_a : Option Addr) (r_13_l : Nat) (r_13_c : Nat) (w : World) (R : Value → World → Prop) : sxFn Try.prog TT h_unack_plain Try.f38 #[(.agg #[.int .i64 r_0, .int .i64 r_1, .int .i64 r_2, .int .i64 r_3, .int .i64 r_4, .int .i64 r_5, .int .i64 r_6, .int .i64 r_7, .int .i64 r_8, .int .i64 r_9, .int .i64 r_10, .int .i64 r_11, .bool r_12, .slice r_13_a r_13_l r_13_c])] w R = F_unack_plain r_0 r_1 r_2 r_3 r_4 r_5 r_6 r_7 r_8 r_9 r_10 r_11 r_12 r_13_a r_13_l r_13_c w R := by kernel_rfl
theorem F_unack_plain_ok {R : Ending → World → Prop} (r_0 : Int) (r_1 : Int) (r_2 : Int) (r_3 : Int) (r_4 : Int) (r_5 : Int) (r_6 : Int) (r_7 : Int) (r_8 : Int) (r_9 : Int) (r_10 : Int) (r_11 : Int) (r_12 : Bool) (r_13_a : Option Addr) (r_13_l : Nat) (r_13_c : Nat) (w : World) (h : F_unack_plain r_0 r_1 r_2 r_3 r_4 r_5 r_6 r_7 r_8 r_9 r_10 r_11 r_12 r_13_a r_13_l r_13_c w fun v w' => R (.returned v) w') : Calls Try.prog N_unack_plain #[(.agg #[.int .i64 r_0, .int .i64 r_1, .int .i64 r_2, .int .i64 r_3, .int .i64 r_4, .int .i64 r_5, .int .i64 r_6, .int .i64 r_7, .int .i64 r_8, .int .i64 r_9, .int .i64 r_10, .int .i64 r_11, .bool r_12, .slice r_13_a r_13_l r_13_c])] w R :=
  calls_of (f := 38) follows_ok Try.func38 (Eq.mpr (F_unack_plain_eq r_0 r_1 r_2 r_3 r_4 r_5 r_6 r_7 r_8 r_9 r_10 r_11 r_12 r_13_a r_13_l r_13_c w _) h)

def h_slices_ContainsFunc_SSbyte_Sbyte : H := (.seq .reg (.seq .reg .leaf))
def F_slices_ContainsFunc_SSbyte_Sbyte (s_a : Option Addr) (s_l : Nat) (s_c : Nat) (f_g : Nat) (f_f : Array Value) (f_c : Array Value) (w : World) (R : Value → World → Prop) : Prop :=
  (Calls Try.prog N_slices_IndexFunc_SSbyte_Sbyte #[(.slice s_a s_l s_c), (.func (.func f_g) f_f f_c)] w fun e_ w1 =>
  ∃ r : Int, e_ = .returned (.int .i64 r) ∧
  (kLet (decide (r ≥ (0 : Int))) fun x =>
  R (.bool x) w1))
theorem F_slices_ContainsFunc_SSbyte_Sbyte_eq (s_a : Option Addr) (s_l : Nat) (s_c : Nat) (f_g : Nat) (f_f : Array Value) (f_c : Array Value) (w : World) (R : Value → World → Prop) : sxFn Try.prog TT h_slices_ContainsFunc_SSbyte_Sbyte Try.f39 #[(.slice s_a s_l s_c), (.func (.func f_g) f_f f_c)] w R = F_slices_ContainsFunc_SSbyte_Sbyte s_a s_l s_c f_g f_f f_c w R := by kernel_rfl
theorem F_slices_ContainsFunc_SSbyte_Sbyte_ok {R : Ending → World → Prop} (s_a : Option Addr) (s_l : Nat) (s_c : Nat) (f_g : Nat) (f_f : Array Value) (f_c : Array Value) (w : World) (h : F_slices_ContainsFunc_SSbyte_Sbyte s_a s_l s_c f_g f_f f_c w fun v w' => R (.returned v) w') : Calls Try.prog N_slices_ContainsFunc_SSbyte_Sbyte #[(.slice s_a s_l s_c), (.func (.func f_g) f_f f_c)] w R :=
  calls_of (f := 39) follows_ok Try.func39 (Eq.mpr (F_slices_ContainsFunc_SSbyte_Sbyte_eq s_a s_l s_c f_g f_f f_c w _) h)

def h_unack_Valid_1 : H := (.seq .reg (.seq .reg .leaf))
def F_unack_Valid_1 (b_a : Option Addr) (b_l : Nat) (b_c : Nat) (w : World) (R : Value → World → Prop) : Prop :=
  (Calls Try.prog N_unack_sized #[(.slice b_a b_l b_c)] w fun e_ w1 =>
  ∃ r : Bool, e_ = .returned (.bool r) ∧
  R (.bool (!r)) w1)
theorem F_unack_Valid_1_eq (b_a : Option Addr) (b_l : Nat) (b_c : Nat) (w : World) (R : Value → World → Prop) : sxFn Try.prog TT h_unack_Valid_1 Try.f40 #[(.slice b_a b_l b_c)] w R = F_unack_Valid_1 b_a b_l b_c w R := by kernel_rfl
theorem F_unack_Valid_1_ok {R : Ending → World → Prop} (b_a : Option Addr) (b_l : Nat) (b_c : Nat) (w : World) (h : F_unack_Valid_1 b_a b_l b_c w fun v w' => R (.returned v) w') : Calls Try.prog N_unack_Valid_1 #[(.slice b_a b_l b_c)] w R :=
  calls_of (f := 40) follows_ok Try.func40 (Eq.mpr (F_unack_Valid_1_eq b_a b_l b_c w _) h)

def h_sender_ValidLink : H := (.seq .reg (.cut [(3, .p .bool)] [3, 4, 5, 6, 7, 8, 9, 10, 11, 12, 13, 14, 15, 16] .reg (.seq .reg .leaf)))
def F_sender_ValidLink (l_0 : Int) (l_1 : Int) (l_2 : Int) (l_3 : Int) (l_4 : Int) (l_5 : Int) (w : World) (R : Value → World → Prop) : Prop :=
  (kAlloc w #[(.int .i64 l_0), (.int .i64 l_1), (.int .i64 l_2), (.int .i64 l_3), (.int .i64 l_4), (.int .i64 l_5)] Ty_api_Link fun b w1 =>
  (∃ J : Bool → World → Prop,
  (∀ (_junk : Env) (times : Bool) (w5 : World), J times w5 →
    (kLd w5 ⟨b, 0, none⟩ .i64 fun x3 =>
    (Calls Try.prog N_counter_Bits #[(.int .i64 x3)] w5 fun e_3 w6 =>
    ∃ r3 : Bool, e_3 = .returned (.bool r3) ∧
    (bsplit r3
      ((kLd w6 ⟨b, 1, none⟩ .i64 fun x4 =>
      (Calls Try.prog N_sender_between #[(.int .i64 x4), (.int .i64 (1 : Int)), (.int .i64 (64 : Int))] w6 fun e_4 w7 =>
      ∃ r4 : Bool, e_4 = .returned (.bool r4) ∧
      (bsplit r4
        ((bsplit times
          ((kLd w7 ⟨b, 5, none⟩ .i64 fun x5 =>
          (Calls Try.prog N_sender_between #[(.int .i64 x5), (.int .i64 (1 : Int)), (.int .i64 (32 : Int))] w7 fun e_5 w8 =>
          ∃ r5 : Bool, e_5 = .returned (.bool r5) ∧
          R (.bool r5) w8)))
          (R (.bool false) w7)))
        (R (.bool false) w7)))))
      (R (.bool false) w6))))) ∧
  (kLd w1 ⟨b, 2, none⟩ .i64 fun x =>
  (Calls Try.prog N_sender_between #[(.int .i64 x), (.int .i64 (1 : Int)), (.int .i64 (1000 : Int))] w1 fun e_ w2 =>
  ∃ r : Bool, e_ = .returned (.bool r) ∧
  (bsplit r
    ((kLd w2 ⟨b, 3, none⟩ .i64 fun x1 =>
    (Calls Try.prog N_sender_between #[(.int .i64 x1), (.int .i64 (1 : Int)), (.int .i64 (1000 : Int))] w2 fun e_1 w3 =>
    ∃ r1 : Bool, e_1 = .returned (.bool r1) ∧
    (bsplit r1
      ((kLd w3 ⟨b, 4, none⟩ .i64 fun x2 =>
      (Calls Try.prog N_sender_between #[(.int .i64 x2), (.int .i64 (0 : Int)), (.int .i64 (1000 : Int))] w3 fun e_2 w4 =>
      ∃ r2 : Bool, e_2 = .returned (.bool r2) ∧
      J r2 w4)))
      (J false w3)))))
    (J false w2))))))
theorem F_sender_ValidLink_eq (l_0 : Int) (l_1 : Int) (l_2 : Int) (l_3 : Int) (l_4 : Int) (l_5 : Int) (w : World) (R : Value → World → Prop) : sxFn Try.prog TT h_sender_ValidLink Try.f41 #[(.agg #[.int .i64 l_0, .int .i64 l_1, .int .i64 l_2, .int .i64 l_3, .int .i64 l_4, .int .i64 l_5])] w R = F_sender_ValidLink l_0 l_1 l_2 l_3 l_4 l_5 w R := by kernel_rfl
theorem F_sender_ValidLink_ok {R : Ending → World → Prop} (l_0 : Int) (l_1 : Int) (l_2 : Int) (l_3 : Int) (l_4 : Int) (l_5 : Int) (w : World) (h : F_sender_ValidLink l_0 l_1 l_2 l_3 l_4 l_5 w fun v w' => R (.returned v) w') : Calls Try.prog N_sender_ValidLink #[(.agg #[.int .i64 l_0, .int .i64 l_1, .int .i64 l_2, .int .i64 l_3, .int .i64 l_4, .int .i64 l_5])] w R :=
  calls_of (f := 41) follows_ok Try.func41 (Eq.mpr (F_sender_ValidLink_eq l_0 l_1 l_2 l_3 l_4 l_5 w _) h)

def h_ref20_ValidLink : H := (.seq .reg (.seq .reg .leaf))
def F_ref20_ValidLink (l_0 : Int) (l_1 : Int) (l_2 : Int) (l_3 : Int) (l_4 : Int) (l_5 : Int) (w : World) (R : Value → World → Prop) : Prop :=
  (kAlloc w #[(.int .i64 l_0), (.int .i64 l_1), (.int .i64 l_2), (.int .i64 l_3), (.int .i64 l_4), (.int .i64 l_5)] Ty_api_Link fun b w1 =>
  (kLd w1 ⟨b, 0, none⟩ .i64 fun x =>
  (Calls Try.prog N_ref15_Bits #[(.int .i64 x)] w1 fun e_ w2 =>
  ∃ r : Bool, e_ = .returned (.bool r) ∧
  (bsplit r
    ((kLd w2 ⟨b, 1, none⟩ .i64 fun x1 =>
    (bsplit (decide (x1 ≥ (1 : Int)))
      ((kLd w2 ⟨b, 1, none⟩ .i64 fun x2 =>
      (bsplit (decide (x2 ≤ (64 : Int)))
        ((kLd w2 ⟨b, 2, none⟩ .i64 fun x3 =>
        (bsplit (decide (x3 ≥ (1 : Int)))
          ((kLd w2 ⟨b, 2, none⟩ .i64 fun x4 =>
          (bsplit (decide (x4 ≤ (1000 : Int)))
            ((kLd w2 ⟨b, 3, none⟩ .i64 fun x5 =>
            (bsplit (decide (x5 ≥ (1 : Int)))
              ((kLd w2 ⟨b, 3, none⟩ .i64 fun x6 =>
              (bsplit (decide (x6 ≤ (1000 : Int)))
                ((kLd w2 ⟨b, 4, none⟩ .i64 fun x7 =>
                (bsplit (decide (x7 ≥ (0 : Int)))
                  ((kLd w2 ⟨b, 4, none⟩ .i64 fun x8 =>
                  (bsplit (decide (x8 ≤ (1000 : Int)))
                    ((kLd w2 ⟨b, 5, none⟩ .i64 fun x9 =>
                    (bsplit (decide (x9 ≥ (1 : Int)))
                      ((kLd w2 ⟨b, 5, none⟩ .i64 fun x10 =>
                      (kLet (decide (x10 ≤ (32 : Int))) fun x11 =>
                      R (.bool x11) w2)))
                      (R (.bool false) w2))))
                    (R (.bool false) w2))))
                  (R (.bool false) w2))))
                (R (.bool false) w2))))
              (R (.bool false) w2))))
            (R (.bool false) w2))))
          (R (.bool false) w2))))
        (R (.bool false) w2))))
      (R (.bool false) w2))))
    (R (.bool false) w2)))))
theorem F_ref20_ValidLink_eq (l_0 : Int) (l_1 : Int) (l_2 : Int) (l_3 : Int) (l_4 : Int) (l_5 : Int) (w : World) (R : Value → World → Prop) : sxFn Try.prog TT h_ref20_ValidLink Try.f42 #[(.agg #[.int .i64 l_0, .int .i64 l_1, .int .i64 l_2, .int .i64 l_3, .int .i64 l_4, .int .i64 l_5])] w R = F_ref20_ValidLink l_0 l_1 l_2 l_3 l_4 l_5 w R := by kernel_rfl
theorem F_ref20_ValidLink_ok {R : Ending → World → Prop} (l_0 : Int) (l_1 : Int) (l_2 : Int) (l_3 : Int) (l_4 : Int) (l_5 : Int) (w : World) (h : F_ref20_ValidLink l_0 l_1 l_2 l_3 l_4 l_5 w fun v w' => R (.returned v) w') : Calls Try.prog N_ref20_ValidLink #[(.agg #[.int .i64 l_0, .int .i64 l_1, .int .i64 l_2, .int .i64 l_3, .int .i64 l_4, .int .i64 l_5])] w R :=
  calls_of (f := 42) follows_ok Try.func42 (Eq.mpr (F_ref20_ValidLink_eq l_0 l_1 l_2 l_3 l_4 l_5 w _) h)

def h_ref18_Cut : H := (.seq .reg (.seq (.seq .reg (.cond (.seq .reg .leaf) .leaf)) (.seq .reg (.seq (.seq .reg (.cond (.seq .reg .leaf) .leaf)) (.seq (.seq .reg (.cond (.seq .reg (.seq .reg .leaf)) .leaf)) (.seq .reg (.cut [(11, .p .addr), (12, .p .addr)] [11, 12, 44, 45] (.draw .blk (.one 0 .stable (.one 1 .stable (.alt 2 (.one 3 .keep (.one 4 .keep (.one 5 .last .nil))) (.alt 3 (.one 2 .keep (.one 4 .keep (.one 5 .last .nil))) .endAlt))))) (.seq .reg (.seq .reg (.seq .reg (.cut [] [63, 64, 65, 66, 67, 68, 69, 70, 71, 72, 73, 74] (.seq .reg (.block (.seq .reg (.cond .reg (.seq .reg (.cond .reg (.seq .reg (.cond .reg .leaf)))))))) (.seq (.draw .blk (.one 0 .pre (.one 1 .stable (.one 2 .keep (.one 3 .keep (.one 4 .stable .nil)))))) .leaf))))))))))))
def F_ref18_Cut (bits : Int) (p_0 : Int) (p_1 : Int) (p_2 : Int) (p_3 : Int) (p_4_a : Option Addr) (p_4_l : Nat) (p_4_c : Nat) (size : Int) (w : World) (R : Value → World → Prop) : Prop :=
  (kAlloc w #[(.int .i64 p_0), (.int .i64 p_1), (.int .i64 p_2), (.int .i64 p_3), (.slice p_4_a p_4_l p_4_c)] Ty_api_Piece fun b w1 =>
  (kAlloc w1 #[.int .i64 (0 : Int), .int .i64 (0 : Int), .int .i64 (0 : Int), .int .i64 (0 : Int), .slice none 0 0] Ty_api_Piece fun b1 w2 =>
  (kAlloc w2 #[.int .i64 (0 : Int), .int .i64 (0 : Int), .int .i64 (0 : Int), .int .i64 (0 : Int), .slice none 0 0] Ty_api_Piece fun b2 w3 =>
  (∃ x_0 x_1 x_2 x_3 : Int, ∃ x_4_a : Option Addr, ∃ x_4_l x_4_c : Nat, cellsAt w3 ⟨b, 0, none⟩ 0 [(.int .i64 x_0), (.int .i64 x_1), (.int .i64 x_2), (.int .i64 x_3), (.slice x_4_a x_4_l x_4_c)] ∧
  (Calls Try.prog N_ref18_Valid #[(.int .i64 bits), (.agg #[.int .i64 x_0, .int .i64 x_1, .int .i64 x_2, .int .i64 x_3, .slice x_4_a x_4_l x_4_c])] w3 fun e_ w4 =>
  ∃ r : Bool, e_ = .returned (.bool r) ∧
  (bsplit (!r)
    ((sxStore w4 ⟨b1, 0, none⟩ 0 [(.int .i64 (0 : Int)), (.int .i64 (0 : Int)), (.int .i64 (0 : Int)), (.int .i64 (0 : Int)), (.slice none 0 0)] fun w5 =>
    (sxStore w5 ⟨b2, 0, none⟩ 0 [(.int .i64 (0 : Int)), (.int .i64 (0 : Int)), (.int .i64 (0 : Int)), (.int .i64 (0 : Int)), (.slice none 0 0)] fun w6 =>
    (∃ r_0 r_1 r_2 r_3 : Int, ∃ r_4_a : Option Addr, ∃ r_4_l r_4_c : Nat, cellsAt w6 ⟨b1, 0, none⟩ 0 [(.int .i64 r_0), (.int .i64 r_1), (.int .i64 r_2), (.int .i64 r_3), (.slice r_4_a r_4_l r_4_c)] ∧
    (∃ r_01 r_11 r_21 r_31 : Int, ∃ r_4_a1 : Option Addr, ∃ r_4_l1 r_4_c1 : Nat, cellsAt w6 ⟨b2, 0, none⟩ 0 [(.int .i64 r_01), (.int .i64 r_11), (.int .i64 r_21), (.int .i64 r_31), (.slice r_4_a1 r_4_l1 r_4_c1)] ∧
    R (.tuple #[(.agg #[.int .i64 r_0, .int .i64 r_1, .int .i64 r_2, .int .i64 r_3, .slice r_4_a r_4_l r_4_c]), (.agg #[.int .i64 r_01, .int .i64 r_11, .int .i64 r_21, .int .i64 r_31, .slice r_4_a1 r_4_l1 r_4_c1]), (.int .i64 (1 : Int))]) w6)))))
    ((kLd w4 ⟨b, 1, none⟩ .i64 fun x =>
    (Calls Try.prog N_ref18_Head #[(.int .i64 x)] w4 fun e_1 w7 =>
    ∃ r1 : Int, e_1 = .returned (.int .i64 r1) ∧
    (kW .i64 (r1 + (1 : Int)) fun x1 =>
    (bsplit (decide (size < x1))
      ((sxStore w7 ⟨b1, 0, none⟩ 0 [(.int .i64 (0 : Int)), (.int .i64 (0 : Int)), (.int .i64 (0 : Int)), (.int .i64 (0 : Int)), (.slice none 0 0)] fun w8 =>
      (sxStore w8 ⟨b2, 0, none⟩ 0 [(.int .i64 (0 : Int)), (.int .i64 (0 : Int)), (.int .i64 (0 : Int)), (.int .i64 (0 : Int)), (.slice none 0 0)] fun w9 =>
      (∃ r_02 r_12 r_22 r_32 : Int, ∃ r_4_a2 : Option Addr, ∃ r_4_l2 r_4_c2 : Nat, cellsAt w9 ⟨b1, 0, none⟩ 0 [(.int .i64 r_02), (.int .i64 r_12), (.int .i64 r_22), (.int .i64 r_32), (.slice r_4_a2 r_4_l2 r_4_c2)] ∧
      (∃ r_03 r_13 r_23 r_33 : Int, ∃ r_4_a3 : Option Addr, ∃ r_4_l3 r_4_c3 : Nat, cellsAt w9 ⟨b2, 0, none⟩ 0 [(.int .i64 r_03), (.int .i64 r_13), (.int .i64 r_23), (.int .i64 r_33), (.slice r_4_a3 r_4_l3 r_4_c3)] ∧
      R (.tuple #[(.agg #[.int .i64 r_02, .int .i64 r_12, .int .i64 r_22, .int .i64 r_32, .slice r_4_a2 r_4_l2 r_4_c2]), (.agg #[.int .i64 r_03, .int .i64 r_13, .int .i64 r_23, .int .i64 r_33, .slice r_4_a3 r_4_l3 r_4_c3]), (.int .i64 (15 : Int))]) w9)))))
      ((kLdS w7 ⟨b, 4, none⟩ fun _ x_l _ =>
      (kW .i64 (r1 + (x_l : Int)) fun x2 =>
      (bsplit (decide (size ≥ x2))
        ((kLdS w7 ⟨b, 4, none⟩ fun x_a1 x_l1 x_c1 =>
        (AppP Try.prog #[Ty_S_uint8, Ty_S_uint8] Ty_S_uint8 #[(.slice none 0 0), (.slice x_a1 x_l1 x_c1)] w7 fun x_a2 x_l2 x_c2 w10 =>
        (kSet w10 ⟨b, 4, none⟩ (.slice x_a2 x_l2 x_c2) fun w11 =>
        (∃ x_01 x_11 x_21 x_31 : Int, ∃ x_4_a1 : Option Addr, ∃ x_4_l1 x_4_c1 : Nat, cellsAt w11 ⟨b, 0, none⟩ 0 [(.int .i64 x_01), (.int .i64 x_11), (.int .i64 x_21), (.int .i64 x_31), (.slice x_4_a1 x_4_l1 x_4_c1)] ∧
        (sxStore w11 ⟨b1, 0, none⟩ 0 [(.int .i64 x_01), (.int .i64 x_11), (.int .i64 x_21), (.int .i64 x_31), (.slice x_4_a1 x_4_l1 x_4_c1)] fun w12 =>
        (sxStore w12 ⟨b2, 0, none⟩ 0 [(.int .i64 (0 : Int)), (.int .i64 (0 : Int)), (.int .i64 (0 : Int)), (.int .i64 (0 : Int)), (.slice none 0 0)] fun w13 =>
        (∃ r_04 r_14 r_24 r_34 : Int, ∃ r_4_a4 : Option Addr, ∃ r_4_l4 r_4_c4 : Nat, cellsAt w13 ⟨b1, 0, none⟩ 0 [(.int .i64 r_04), (.int .i64 r_14), (.int .i64 r_24), (.int .i64 r_34), (.slice r_4_a4 r_4_l4 r_4_c4)] ∧
        (∃ r_05 r_15 r_25 r_35 : Int, ∃ r_4_a5 : Option Addr, ∃ r_4_l5 r_4_c5 : Nat, cellsAt w13 ⟨b2, 0, none⟩ 0 [(.int .i64 r_05), (.int .i64 r_15), (.int .i64 r_25), (.int .i64 r_35), (.slice r_4_a5 r_4_l5 r_4_c5)] ∧
        R (.tuple #[(.agg #[.int .i64 r_04, .int .i64 r_14, .int .i64 r_24, .int .i64 r_34, .slice r_4_a4 r_4_l4 r_4_c4]), (.agg #[.int .i64 r_05, .int .i64 r_15, .int .i64 r_25, .int .i64 r_35, .slice r_4_a5 r_4_l5 r_4_c5]), (.int .i64 (0 : Int))]) w13)))))))))
        ((kW .i64 (size - r1) fun x3 =>
        (∃ J : Addr → Addr → World → Prop,
        (∀ (_junk : Env) (first : Addr) (rest : Addr) (w23 : World), J first rest w23 →
          (kLdS w23 ⟨b, 4, none⟩ fun x_a3 _ x_c3 =>
          ((0 ≤ x3 ∧ x3 ≤ ((x_c3 : Nat) : Int)) ∧ (AppP Try.prog #[Ty_S_uint8, Ty_S_uint8] Ty_S_uint8 #[(.slice none 0 0), (.slice (slAddr x_c3 0 1 x_a3) (x3.toNat - 0) (x_c3 - 0))] w23 fun x_a4 x_l4 x_c4 w24 =>
          (kSet w24 (first.add 4) (.slice x_a4 x_l4 x_c4) fun w25 =>
          (kLdS w25 ⟨b, 4, none⟩ fun x_a5 x_l5 x_c5 =>
          ((0 ≤ x3 ∧ x3 ≤ ((x_l5 : Nat) : Int)) ∧ (AppP Try.prog #[Ty_S_uint8, Ty_S_uint8] Ty_S_uint8 #[(.slice none 0 0), (.slice (slAddr x_c5 (x3.toNat) 1 x_a5) (x_l5 - x3.toNat) (x_c5 - x3.toNat))] w25 fun x_a6 x_l6 x_c6 w26 =>
          (kSet w26 (rest.add 4) (.slice x_a6 x_l6 x_c6) fun w27 =>
          (kLd w27 ⟨b, 3, none⟩ .i64 fun x4 =>
          (kW .i64 (x4 + x3) fun x5 =>
          (kSet w27 (rest.add 3) (.int .i64 x5) fun w28 =>
          (∃ J1 : World → Prop,
          (∀ (_junk : Env)  (w33 : World), J1 w33 →
            (kDrew w33 fun w34 =>
            (∃ S1 : Nat → Prop,
            (∃ x_04 x_14 x_24 x_34 : Int, ∃ x_4_a4 : Option Addr, ∃ x_4_l4 x_4_c4 : Nat, cellsAt w34 first 0 [(.int .i64 x_04), (.int .i64 x_14), (.int .i64 x_24), (.int .i64 x_34), (.slice x_4_a4 x_4_l4 x_4_c4)] ∧
            (S1 rest.block ∧
            (∃ x_05 x_15 x_25 x_35 : Int, ∃ x_4_a5 : Option Addr, ∃ x_4_l5 x_4_c5 : Nat, cellsAt w34 rest 0 [(.int .i64 x_05), (.int .i64 x_15), (.int .i64 x_25), (.int .i64 x_35), (.slice x_4_a5 x_4_l5 x_4_c5)] ∧
            (sxStore w34 ⟨b1, 0, none⟩ 0 [(.int .i64 x_04), (.int .i64 x_14), (.int .i64 x_24), (.int .i64 x_34), (.slice x_4_a4 x_4_l4 x_4_c4)] fun w35 =>
            (KeepsB S1 w34 w35 ∧ (sxStore w35 ⟨b2, 0, none⟩ 0 [(.int .i64 x_05), (.int .i64 x_15), (.int .i64 x_25), (.int .i64 x_35), (.slice x_4_a5 x_4_l5 x_4_c5)] fun w36 =>
            (KeepsB S1 w34 w36 ∧ (∃ r_06 r_16 r_26 r_36 : Int, ∃ r_4_a6 : Option Addr, ∃ r_4_l6 r_4_c6 : Nat, cellsAt w36 ⟨b1, 0, none⟩ 0 [(.int .i64 r_06), (.int .i64 r_16), (.int .i64 r_26), (.int .i64 r_36), (.slice r_4_a6 r_4_l6 r_4_c6)] ∧
            (∃ r_07 r_17 r_27 r_37 : Int, ∃ r_4_a7 : Option Addr, ∃ r_4_l7 r_4_c7 : Nat, cellsAt w36 ⟨b2, 0, none⟩ 0 [(.int .i64 r_07), (.int .i64 r_17), (.int .i64 r_27), (.int .i64 r_37), (.slice r_4_a7 r_4_l7 r_4_c7)] ∧
            R (.tuple #[(.agg #[.int .i64 r_06, .int .i64 r_16, .int .i64 r_26, .int .i64 r_36, .slice r_4_a6 r_4_l6 r_4_c6]), (.agg #[.int .i64 r_07, .int .i64 r_17, .int .i64 r_27, .int .i64 r_37, .slice r_4_a7 r_4_l7 r_4_c7]), (.int .i64 (0 : Int))]) w36)))))))))))) ∧
          (kLd w28 ⟨b, 1, none⟩ .i64 fun x6 =>
          (kLet (decide (x6 = (0 : Int))) fun x7 =>
          (bsplit x7
            ((kSet w28 (first.add 1) (.int .i64 (1 : Int)) fun w29 =>
            (kSet w29 (rest.add 1) (.int .i64 (2 : Int)) fun w30 =>
            J1 w30)))
            ((kLet (decide (x6 = (1 : Int))) fun x8 =>
            (bsplit x8
              ((kSet w28 (rest.add 1) (.int .i64 (3 : Int)) fun w31 =>
              J1 w31))
              ((kLet (decide (x6 = (2 : Int))) fun x9 =>
              (bsplit x9
                ((kSet w28 (first.add 1) (.int .i64 (3 : Int)) fun w32 =>
                J1 w32))
                (J1 w28))))))))))))))))))))))) ∧
        (kDrew w7 fun w14 =>
        (∃ S : Nat → Prop,
        (S b ∧
        (∃ x_02 x_12 x_22 x_32 : Int, ∃ x_4_a2 : Option Addr, ∃ x_4_l2 x_4_c2 : Nat, cellsAt w14 ⟨b, 0, none⟩ 0 [(.int .i64 x_02), (.int .i64 x_12), (.int .i64 x_22), (.int .i64 x_32), (.slice x_4_a2 x_4_l2 x_4_c2)] ∧
        (S b ∧
        (∃ x_03 x_13 x_23 x_33 : Int, ∃ x_4_a3 : Option Addr, ∃ x_4_l3 x_4_c3 : Nat, cellsAt w14 ⟨b, 0, none⟩ 0 [(.int .i64 x_03), (.int .i64 x_13), (.int .i64 x_23), (.int .i64 x_33), (.slice x_4_a3 x_4_l3 x_4_c3)] ∧
        ((kAlloc w14 #[.int .i64 (0 : Int), .int .i64 (0 : Int), .int .i64 (0 : Int), .int .i64 (0 : Int), .slice none 0 0] Ty_api_Piece fun b5 w19 =>
        (KeepsB S w14 w19 ∧ (kAlloc w19 #[.int .i64 (0 : Int), .int .i64 (0 : Int), .int .i64 (0 : Int), .int .i64 (0 : Int), .slice none 0 0] Ty_api_Piece fun b6 w20 =>
        (KeepsB S w14 w20 ∧ (sxStore w20 ⟨b5, 0, none⟩ 0 [(.int .i64 x_02), (.int .i64 x_12), (.int .i64 x_22), (.int .i64 x_32), (.slice x_4_a2 x_4_l2 x_4_c2)] fun w21 =>
        (KeepsB S w14 w21 ∧ (sxStore w21 ⟨b6, 0, none⟩ 0 [(.int .i64 x_03), (.int .i64 x_13), (.int .i64 x_23), (.int .i64 x_33), (.slice x_4_a3 x_4_l3 x_4_c3)] fun w22 =>
        J ⟨b5, 0, none⟩ ⟨b6, 0, none⟩ w22))))))) ∧
        ((kAlloc w14 #[.int .i64 (0 : Int), .int .i64 (0 : Int), .int .i64 (0 : Int), .int .i64 (0 : Int), .slice none 0 0] Ty_api_Piece fun b3 w15 =>
        (KeepsB S w14 w15 ∧ (kAlloc w15 #[.int .i64 (0 : Int), .int .i64 (0 : Int), .int .i64 (0 : Int), .int .i64 (0 : Int), .slice none 0 0] Ty_api_Piece fun b4 w16 =>
        (KeepsB S w14 w16 ∧ (sxStore w16 ⟨b4, 0, none⟩ 0 [(.int .i64 x_02), (.int .i64 x_12), (.int .i64 x_22), (.int .i64 x_32), (.slice x_4_a2 x_4_l2 x_4_c2)] fun w17 =>
        (KeepsB S w14 w17 ∧ (sxStore w17 ⟨b3, 0, none⟩ 0 [(.int .i64 x_03), (.int .i64 x_13), (.int .i64 x_23), (.int .i64 x_33), (.slice x_4_a3 x_4_l3 x_4_c3)] fun w18 =>
        J ⟨b4, 0, none⟩ ⟨b3, 0, none⟩ w18))))))) ∧
        True))))))))))))))))))))))))))
theorem F_ref18_Cut_eq (bits : Int) (p_0 : Int) (p_1 : Int) (p_2 : Int) (p_3 : Int) (p_4_a : Option Addr) (p_4_l : Nat) (p_4_c : Nat) (size : Int) (w : World) (R : Value → World → Prop) : sxFn Try.prog TT h_ref18_Cut Try.f43 #[(.int .i64 bits), (.agg #[.int .i64 p_0, .int .i64 p_1, .int .i64 p_2, .int .i64 p_3, .slice p_4_a p_4_l p_4_c]), (.int .i64 size)] w R = F_ref18_Cut bits p_0 p_1 p_2 p_3 p_4_a p_4_l p_4_c size w R := by kernel_rfl
theorem F_ref18_Cut_ok {R : Ending → World → Prop} (bits : Int) (p_0 : Int) (p_1 : Int) (p_2 : Int) (p_3 : Int) (p_4_a : Option Addr) (p_4_l : Nat) (p_4_c : Nat) (size : Int) (w : World) (h : F_ref18_Cut bits p_0 p_1 p_2 p_3 p_4_a p_4_l p_4_c size w fun v w' => R (.returned v) w') : Calls Try.prog N_ref18_Cut #[(.int .i64 bits), (.agg #[.int .i64 p_0, .int .i64 p_1, .int .i64 p_2, .int .i64 p_3, .slice p_4_a p_4_l p_4_c]), (.int .i64 size)] w R :=
  calls_of (f := 43) follows_ok Try.func43 (Eq.mpr (F_ref18_Cut_eq bits p_0 p_1 p_2 p_3 p_4_a p_4_l p_4_c size w _) h)

def h_ref18_Encode : H := (.seq .reg (.seq (.seq .reg (.cond (.seq .reg .leaf) .leaf)) (.seq .reg (.seq (.seq .reg (.cond .reg .leaf)) (.seq .reg .leaf)))))
def F_ref18_Encode (bits : Int) (p_0 : Int) (p_1 : Int) (p_2 : Int) (p_3 : Int) (p_4_a : Option Addr) (p_4_l : Nat) (p_4_c : Nat) (w : World) (R : Value → World → Prop) : Prop :=
  (kAlloc w #[(.int .i64 p_0), (.int .i64 p_1), (.int .i64 p_2), (.int .i64 p_3), (.slice p_4_a p_4_l p_4_c)] Ty_api_Piece fun b w1 =>
  (∃ x_0 x_1 x_2 x_3 : Int, ∃ x_4_a : Option Addr, ∃ x_4_l x_4_c : Nat, cellsAt w1 ⟨b, 0, none⟩ 0 [(.int .i64 x_0), (.int .i64 x_1), (.int .i64 x_2), (.int .i64 x_3), (.slice x_4_a x_4_l x_4_c)] ∧
  (Calls Try.prog N_ref18_Valid #[(.int .i64 bits), (.agg #[.int .i64 x_0, .int .i64 x_1, .int .i64 x_2, .int .i64 x_3, .slice x_4_a x_4_l x_4_c])] w1 fun e_ w2 =>
  ∃ r : Bool, e_ = .returned (.bool r) ∧
  (bsplit (!r)
    (R (.tuple #[(.slice none 0 0), (.int .i64 (1 : Int))]) w2)
    ((kLd w2 ⟨b, 2, none⟩ .i64 fun x =>
    (kW .i64 ((16384 : Int) * x) fun x1 =>
    (kW .i64 ((32768 : Int) + x1) fun x2 =>
    (kLd w2 ⟨b, 1, none⟩ .i64 fun x3 =>
    (kW .i64 ((4096 : Int) * x3) fun x4 =>
    (kW .i64 (x2 + x4) fun x5 =>
    (kLd w2 ⟨b, 0, none⟩ .i64 fun x6 =>
    (kW .i64 (x5 + x6) fun x7 =>
    (Calls Try.prog N_ref01_Put #[(.slice none 0 0), (.int .i64 (2 : Int)), (.int .i64 x7)] w2 fun e_1 w3 =>
    ∃ r_a : Option Addr, ∃ r_l r_c : Nat, e_1 = .returned (.slice r_a r_l r_c) ∧
    (kLd w3 ⟨b, 1, none⟩ .i64 fun x8 =>
    (Calls Try.prog N_ref18_Head #[(.int .i64 x8)] w3 fun e_2 w4 =>
    ∃ r1 : Int, e_2 = .returned (.int .i64 r1) ∧
    (bsplit (decide (r1 = (4 : Int)))
      ((kLd w4 ⟨b, 3, none⟩ .i64 fun x9 =>
      (Calls Try.prog N_ref01_Put #[(.slice r_a r_l r_c), (.int .i64 (2 : Int)), (.int .i64 x9)] w4 fun e_3 w5 =>
      ∃ r_a1 : Option Addr, ∃ r_l1 r_c1 : Nat, e_3 = .returned (.slice r_a1 r_l1 r_c1) ∧
      (kLdS w5 ⟨b, 4, none⟩ fun x_a x_l x_c =>
      (AppP Try.prog #[Ty_S_uint8, Ty_S_uint8] Ty_S_uint8 #[(.slice r_a1 r_l1 r_c1), (.slice x_a x_l x_c)] w5 fun x_a1 x_l1 x_c1 w6 =>
      R (.tuple #[(.slice x_a1 x_l1 x_c1), (.int .i64 (0 : Int))]) w6)))))
      ((kLdS w4 ⟨b, 4, none⟩ fun x_a2 x_l2 x_c2 =>
      (AppP Try.prog #[Ty_S_uint8, Ty_S_uint8] Ty_S_uint8 #[(.slice r_a r_l r_c), (.slice x_a2 x_l2 x_c2)] w4 fun x_a3 x_l3 x_c3 w7 =>
      R (.tuple #[(.slice x_a3 x_l3 x_c3), (.int .i64 (0 : Int))]) w7))))))))))))))))))))
theorem F_ref18_Encode_eq (bits : Int) (p_0 : Int) (p_1 : Int) (p_2 : Int) (p_3 : Int) (p_4_a : Option Addr) (p_4_l : Nat) (p_4_c : Nat) (w : World) (R : Value → World → Prop) : sxFn Try.prog TT h_ref18_Encode Try.f44 #[(.int .i64 bits), (.agg #[.int .i64 p_0, .int .i64 p_1, .int .i64 p_2, .int .i64 p_3, .slice p_4_a p_4_l p_4_c])] w R = F_ref18_Encode bits p_0 p_1 p_2 p_3 p_4_a p_4_l p_4_c w R := by kernel_rfl
theorem F_ref18_Encode_ok {R : Ending → World → Prop} (bits : Int) (p_0 : Int) (p_1 : Int) (p_2 : Int) (p_3 : Int) (p_4_a : Option Addr) (p_4_l : Nat) (p_4_c : Nat) (w : World) (h : F_ref18_Encode bits p_0 p_1 p_2 p_3 p_4_a p_4_l p_4_c w fun v w' => R (.returned v) w') : Calls Try.prog N_ref18_Encode #[(.int .i64 bits), (.agg #[.int .i64 p_0, .int .i64 p_1, .int .i64 p_2, .int .i64 p_3, .slice p_4_a p_4_l p_4_c])] w R :=
  calls_of (f := 44) follows_ok Try.func44 (Eq.mpr (F_ref18_Encode_eq bits p_0 p_1 p_2 p_3 p_4_a p_4_l p_4_c w _) h)

def h_ref23_bits : H := (.seq .reg (.seq .reg .leaf))
def F_ref23_bits (n : Int) (w : World) (R : Value → World → Prop) : Prop :=
  (bsplit (decide (n ≥ (5 : Int)))
    ((kLet (decide (n ≤ (9 : Int))) fun x =>
    R (.bool x) w))
    (R (.bool false) w))
theorem F_ref23_bits_eq (n : Int) (w : World) (R : Value → World → Prop) : sxFn Try.prog TT h_ref23_bits Try.f45 #[(.int .i64 n)] w R = F_ref23_bits n w R := by kernel_rfl
theorem F_ref23_bits_ok {R : Ending → World → Prop} (n : Int) (w : World) (h : F_ref23_bits n w fun v w' => R (.returned v) w') : Calls Try.prog N_ref23_bits #[(.int .i64 n)] w R :=
  calls_of (f := 45) follows_ok Try.func45 (Eq.mpr (F_ref23_bits_eq n w _) h)

def h_own_List : H := (.seq .reg (.seq .reg (.seq (.seq .reg (.block (.loop [(9, .p (.int .i64))] [4, 9, 10, 11, 12, 13, 14, 15, 16, 17, 18, 19, 20] (.seq .reg (.seq (.cond .leaf .leaf) (.seq (.block (.seq .reg .reg)) .reg)))))) (.seq .reg .leaf))))
def F_own_List (l_a : Option Addr) (l_l : Nat) (l_c : Nat) (w : World) (R : Value → World → Prop) : Prop :=
  (Calls Try.prog N_slices_Clone_SSbyte_Sbyte #[(.slice l_a l_l l_c)] w fun e_ w1 =>
  ∃ r_a : Option Addr, ∃ r_l r_c : Nat, e_ = .returned (.slice r_a r_l r_c) ∧
  (∃ I : Int → Nat × (World → Prop), (I (0 : Int)).2 w1 ∧
  (∀ (_junk : Env) (x : Int) (w2 : World), (I x).2 w2 →
    (bsplit (decide (x < (r_l : Int)))
      ((kIx r_a r_l x fun b =>
      (kLdS w2 (b.add (x.toNat * 1)) fun x_a x_l x_c =>
      (Calls Try.prog N_slices_Clone_Sbyte_byte #[(.slice x_a x_l x_c)] w2 fun e_1 w3 =>
      ∃ r_a1 : Option Addr, ∃ r_l1 r_c1 : Nat, e_1 = .returned (.slice r_a1 r_l1 r_c1) ∧
      (kIx r_a r_l x fun b1 =>
      (kSet w3 (b1.add (x.toNat * 1)) (.slice r_a1 r_l1 r_c1) fun w4 =>
      (kW .i64 (x + (1 : Int)) fun x1 =>
      ((I x1).2 w4 ∧ (I x1).1 < (I x).1))))))))
      (R (.slice r_a r_l r_c) w2)))))
theorem F_own_List_eq (l_a : Option Addr) (l_l : Nat) (l_c : Nat) (w : World) (R : Value → World → Prop) : sxFn Try.prog TT h_own_List Try.f46 #[(.slice l_a l_l l_c)] w R = F_own_List l_a l_l l_c w R := by kernel_rfl
theorem F_own_List_ok {R : Ending → World → Prop} (l_a : Option Addr) (l_l : Nat) (l_c : Nat) (w : World) (h : F_own_List l_a l_l l_c w fun v w' => R (.returned v) w') : Calls Try.prog N_own_List #[(.slice l_a l_l l_c)] w R :=
  calls_of (f := 46) follows_ok Try.func46 (Eq.mpr (F_own_List_eq l_a l_l l_c w _) h)

def h_segment_head : H := (.seq .reg (.seq (.seq .reg (.cond (.seq .reg .leaf) .leaf)) (.seq .reg .leaf)))
def F_segment_head (part : Int) (w : World) (R : Value → World → Prop) : Prop :=
  (Calls Try.prog N_segment_begins #[(.int .i64 part)] w fun e_ w1 =>
  ∃ r : Bool, e_ = .returned (.bool r) ∧
  (bsplit r
    (R (.int .i64 (2 : Int)) w1)
    (R (.int .i64 (4 : Int)) w1)))
theorem F_segment_head_eq (part : Int) (w : World) (R : Value → World → Prop) : sxFn Try.prog TT h_segment_head Try.f47 #[(.int .i64 part)] w R = F_segment_head part w R := by kernel_rfl
theorem F_segment_head_ok {R : Ending → World → Prop} (part : Int) (w : World) (h : F_segment_head part w fun v w' => R (.returned v) w') : Calls Try.prog N_segment_head #[(.int .i64 part)] w R :=
  calls_of (f := 47) follows_ok Try.func47 (Eq.mpr (F_segment_head_eq part w _) h)

def h_segment_Valid : H := (.seq .reg (.seq (.cut [(39, .p .bool)] [5, 6, 7, 8, 9, 10, 11, 12, 13, 14, 15, 16, 17, 18, 19, 20, 21, 22, 23, 24, 25, 26, 27, 28, 29, 30, 31, 32, 33, 34, 35, 36, 37, 38, 39] (.draw .blk (.one 0 .pre (.one 1 .keep (.one 2 .stable (.one 3 .stable (.one 4 .stable (.one 5 .stable (.one 6 .stable (.one 7 .stable (.one 8 .stable (.one 9 .stable (.one 10 .stable (.one 11 .stable (.one 12 .stable (.one 13 .stable (.one 14 .stable (.one 15 .stable (.one 16 .stable (.one 17 .stable (.one 18 .stable (.one 19 .stable (.one 20 .stable (.one 21 .stable (.one 22 .stable (.one 23 .stable (.one 24 .stable (.one 25 .stable (.one 26 .stable (.one 27 .stable (.one 28 .stable (.one 29 .stable (.one 30 .stable (.one 31 .stable (.one 32 .stable (.one 33 .stable (.one 34 .stable .nil)))))))))))))))))))))))))))))))))))) (.cond (.seq .reg .leaf) .leaf)) (.cut [] [4, 40, 41, 42, 43, 44, 45, 46, 47, 48, 49, 50, 51, 52, 53, 54, 55, 56] (.seq (.draw .blk (.one 0 .pre (.one 1 .pre (.one 3 .stable (.one 4 .stable (.one 5 .stable (.one 2 .keep (.one 6 .stable (.one 7 .stable (.one 8 .stable (.one 9 .stable (.one 10 .stable (.one 11 .stable (.one 12 .stable (.one 13 .stable (.one 14 .stable (.one 15 .stable (.one 16 .stable .nil)))))))))))))))))) (.cond (.seq .reg .leaf) .leaf)) (.seq .reg .leaf))))
def F_segment_Valid (bits : Int) (p_0 : Int) (p_1 : Int) (p_2 : Int) (p_3 : Int) (p_4_a : Option Addr) (p_4_l : Nat) (p_4_c : Nat) (w : World) (R : Value → World → Prop) : Prop :=
  (kAlloc w #[(.int .i64 p_0), (.int .i64 p_1), (.int .i64 p_2), (.int .i64 p_3), (.slice p_4_a p_4_l p_4_c)] Ty_api_Piece fun b w1 =>
  (∃ J : Bool → World → Prop,
  (∀ (_junk : Env) (x7 : Bool) (w4 : World), J x7 w4 →
    (bsplit x7
      (R (.bool false) w4)
      ((∃ J1 : World → Prop,
      (∀ (_junk : Env)  (w7 : World), J1 w7 →
        (kLdS w7 ⟨b, 4, none⟩ fun _ x_l _ =>
        (bsplit (decide ((x_l : Int) ≥ (1 : Int)))
          ((kLdS w7 ⟨b, 4, none⟩ fun _ x_l1 _ =>
          (kLd w7 ⟨b, 3, none⟩ .i64 fun x12 =>
          (kW .i64 ((2054 : Int) - x12) fun x13 =>
          (kLet (decide ((x_l1 : Int) ≤ x13)) fun x14 =>
          R (.bool x14) w7)))))
          (R (.bool false) w7)))) ∧
      (kDrew w4 fun w5 =>
      (∃ S1 : Nat → Prop,
      (kLd w5 ⟨b, 1, none⟩ .i64 fun x8 =>
      (S1 b ∧
      (kLd w5 ⟨b, 3, none⟩ .i64 fun x9 =>
      (Calls Try.prog N_segment_begins #[(.int .i64 x8)] w5 fun e_1 w6 =>
      ∃ r1 : Bool, e_1 = .returned (.bool r1) ∧
      (KeepsB S1 w5 w6 ∧ (bsplit (!(r1 == (decide (x9 = (0 : Int)))))
        (R (.bool false) w6)
        ((S1 b ∧
        (kLd w5 ⟨b, 3, none⟩ .i64 fun x10 =>
        (bsplit (decide (x10 < (0 : Int)))
          (R (.bool false) w6)
          ((S1 b ∧
          (kLd w5 ⟨b, 3, none⟩ .i64 fun x11 =>
          (bsplit (decide (x11 > (2054 : Int)))
            (R (.bool false) w6)
            (J1 w6))))))))))))))))))))) ∧
  (kDrew w1 fun w2 =>
  (∃ S : Nat → Prop,
  (Calls Try.prog N_counter_Bits #[(.int .i64 bits)] w2 fun e_ w3 =>
  ∃ r : Bool, e_ = .returned (.bool r) ∧
  (KeepsB S w2 w3 ∧ (bsplit (!r)
    (J true w3)
    ((S b ∧
    (kLd w2 ⟨b, 0, none⟩ .i64 fun x =>
    (bsplit (decide (x < (0 : Int)))
      (J true w3)
      ((S b ∧
      (kLd w2 ⟨b, 0, none⟩ .i64 fun x1 =>
      (0 ≤ bits ∧ (kW .i64 ((1 : Int) * 2 ^ (min bits.toNat (IntKind.bits .i64))) fun x2 =>
      (bsplit (decide (x1 ≥ x2))
        (J true w3)
        ((S b ∧
        (kLd w2 ⟨b, 1, none⟩ .i64 fun x3 =>
        (bsplit (decide (x3 < (0 : Int)))
          (J true w3)
          ((S b ∧
          (kLd w2 ⟨b, 1, none⟩ .i64 fun x4 =>
          (bsplit (decide (x4 > (3 : Int)))
            (J true w3)
            ((S b ∧
            (kLd w2 ⟨b, 2, none⟩ .i64 fun x5 =>
            (bsplit (decide (x5 < (0 : Int)))
              (J true w3)
              ((S b ∧
              (kLd w2 ⟨b, 2, none⟩ .i64 fun x6 =>
              J (decide (x6 > (1 : Int))) w3))))))))))))))))))))))))))))))))
theorem F_segment_Valid_eq (bits : Int) (p_0 : Int) (p_1 : Int) (p_2 : Int) (p_3 : Int) (p_4_a : Option Addr) (p_4_l : Nat) (p_4_c : Nat) (w : World) (R : Value → World → Prop) : sxFn Try.prog TT h_segment_Valid Try.f48 #[(.int .i64 bits), (.agg #[.int .i64 p_0, .int .i64 p_1, .int .i64 p_2, .int .i64 p_3, .slice p_4_a p_4_l p_4_c])] w R = F_segment_Valid bits p_0 p_1 p_2 p_3 p_4_a p_4_l p_4_c w R := by kernel_rfl
theorem F_segment_Valid_ok {R : Ending → World → Prop} (bits : Int) (p_0 : Int) (p_1 : Int) (p_2 : Int) (p_3 : Int) (p_4_a : Option Addr) (p_4_l : Nat) (p_4_c : Nat) (w : World) (h : F_segment_Valid bits p_0 p_1 p_2 p_3 p_4_a p_4_l p_4_c w fun v w' => R (.returned v) w') : Calls Try.prog N_segment_Valid #[(.int .i64 bits), (.agg #[.int .i64 p_0, .int .i64 p_1, .int .i64 p_2, .int .i64 p_3, .slice p_4_a p_4_l p_4_c])] w R :=
  calls_of (f := 48) follows_ok Try.func48 (Eq.mpr (F_segment_Valid_eq bits p_0 p_1 p_2 p_3 p_4_a p_4_l p_4_c w _) h)

def h_segment_Part : H := (.seq .reg (.seq (.block (.cut [(5, .p .bool)] [5, 6, 7, 8, 9] .reg (.cond (.seq .reg .leaf) (.seq .reg (.cond (.seq .reg .leaf) (.seq .reg (.cond (.seq .reg .leaf) .leaf))))))) (.seq .reg .leaf)))
def F_segment_Part (first : Bool) (last : Bool) (w : World) (R : Value → World → Prop) : Prop :=
  (∃ J : Bool → World → Prop,
  (∀ (_junk : Env) (x : Bool) (w1 : World), J x w1 →
    (bsplit x
      (R (.int .i64 (0 : Int)) w1)
      ((bsplit first
        (R (.int .i64 (1 : Int)) w1)
        ((bsplit last
          (R (.int .i64 (2 : Int)) w1)
          (R (.int .i64 (3 : Int)) w1))))))) ∧
  (bsplit first
    (J last w)
    (J false w)))
theorem F_segment_Part_eq (first : Bool) (last : Bool) (w : World) (R : Value → World → Prop) : sxFn Try.prog TT h_segment_Part Try.f49 #[(.bool first), (.bool last)] w R = F_segment_Part first last w R := by kernel_rfl
theorem F_segment_Part_ok {R : Ending → World → Prop} (first : Bool) (last : Bool) (w : World) (h : F_segment_Part first last w fun v w' => R (.returned v) w') : Calls Try.prog N_segment_Part #[(.bool first), (.bool last)] w R :=
  calls_of (f := 49) follows_ok Try.func49 (Eq.mpr (F_segment_Part_eq first last w _) h)

def h_segment_begins : H := (.seq .reg (.seq .reg .leaf))
def F_segment_begins (part : Int) (w : World) (R : Value → World → Prop) : Prop :=
  (bsplit (decide (part = (0 : Int)))
    (R (.bool true) w)
    ((kLet (decide (part = (1 : Int))) fun x =>
    R (.bool x) w)))
theorem F_segment_begins_eq (part : Int) (w : World) (R : Value → World → Prop) : sxFn Try.prog TT h_segment_begins Try.f50 #[(.int .i64 part)] w R = F_segment_begins part w R := by kernel_rfl
theorem F_segment_begins_ok {R : Ending → World → Prop} (part : Int) (w : World) (h : F_segment_begins part w fun v w' => R (.returned v) w') : Calls Try.prog N_segment_begins #[(.int .i64 part)] w R :=
  calls_of (f := 50) follows_ok Try.func50 (Eq.mpr (F_segment_begins_eq part w _) h)

def h_segment_Ends : H := (.seq .reg (.seq .reg .leaf))
def F_segment_Ends (part : Int) (w : World) (R : Value → World → Prop) : Prop :=
  (bsplit (decide (part = (0 : Int)))
    (R (.bool true) w)
    ((kLet (decide (part = (2 : Int))) fun x =>
    R (.bool x) w)))
theorem F_segment_Ends_eq (part : Int) (w : World) (R : Value → World → Prop) : sxFn Try.prog TT h_segment_Ends Try.f51 #[(.int .i64 part)] w R = F_segment_Ends part w R := by kernel_rfl
theorem F_segment_Ends_ok {R : Ending → World → Prop} (part : Int) (w : World) (h : F_segment_Ends part w fun v w' => R (.returned v) w') : Calls Try.prog N_segment_Ends #[(.int .i64 part)] w R :=
  calls_of (f := 51) follows_ok Try.func51 (Eq.mpr (F_segment_Ends_eq part w _) h)

def h_serial_valid : H := (.seq .reg (.seq .reg .leaf))
def F_serial_valid (n : Int) (w : World) (R : Value → World → Prop) : Prop :=
  (bsplit (decide (n ≥ (1 : Int)))
    ((kLet (decide (n ≤ (32 : Int))) fun x =>
    R (.bool x) w))
    (R (.bool false) w))
theorem F_serial_valid_eq (n : Int) (w : World) (R : Value → World → Prop) : sxFn Try.prog TT h_serial_valid Try.f52 #[(.int .i64 n)] w R = F_serial_valid n w R := by kernel_rfl
theorem F_serial_valid_ok {R : Ending → World → Prop} (n : Int) (w : World) (h : F_serial_valid n w fun v w' => R (.returned v) w') : Calls Try.prog N_serial_valid #[(.int .i64 n)] w R :=
  calls_of (f := 52) follows_ok Try.func52 (Eq.mpr (F_serial_valid_eq n w _) h)

def h_receiver_Valid : H := (.seq .reg (.seq .reg (.cut [] [2, 8, 9, 10, 11, 12, 13, 14, 15, 16, 17, 18, 19, 20, 21, 22, 23, 24, 25, 26, 27, 28, 29, 30, 31, 32] (.seq .reg (.cond (.seq .reg .leaf) .leaf)) (.seq .reg (.seq (.cut [(69, .p .bool)] [37, 38, 39, 40, 41, 42, 43, 44, 45, 46, 47, 48, 49, 50, 51, 52, 53, 54, 55, 56, 57, 58, 59, 60, 61, 62, 63, 64, 65, 66, 67, 68, 69] .reg (.cond (.seq .reg .leaf) .leaf)) (.seq (.seq .reg (.cond (.seq .reg .leaf) .leaf)) (.seq .reg .leaf)))))))
def F_receiver_Valid (r_0 : Int) (r_1 : Int) (r_2 : Int) (r_3 : Int) (r_4 : Int) (r_5 : Int) (r_6 : Int) (r_7 : Int) (r_8 : Int) (r_9 : Int) (r_10 : Int) (r_11 : Int) (r_12 : Bool) (r_13_a : Option Addr) (r_13_l : Nat) (r_13_c : Nat) (w : World) (R : Value → World → Prop) : Prop :=
  (kAlloc w #[(.int .i64 r_0), (.int .i64 r_1), (.int .i64 r_2), (.int .i64 r_3), (.int .i64 r_4), (.int .i64 r_5), (.int .i64 r_6), (.int .i64 r_7), (.int .i64 r_8), (.int .i64 r_9), (.int .i64 r_10), (.int .i64 r_11), (.bool r_12), (.slice r_13_a r_13_l r_13_c)] Ty_api_Receiver fun b w1 =>
  (∃ x_0 x_1 x_2 x_3 x_4 x_5 x_6 x_7 x_8 x_9 x_10 x_11 : Int, ∃ x_12 : Bool, ∃ x_13_a : Option Addr, ∃ x_13_l x_13_c : Nat, cellsAt w1 ⟨b, 0, none⟩ 0 [(.int .i64 x_0), (.int .i64 x_1), (.int .i64 x_2), (.int .i64 x_3), (.int .i64 x_4), (.int .i64 x_5), (.int .i64 x_6), (.int .i64 x_7), (.int .i64 x_8), (.int .i64 x_9), (.int .i64 x_10), (.int .i64 x_11), (.bool x_12), (.slice x_13_a x_13_l x_13_c)] ∧
  (kAlloc w1 #[(.int .i64 x_0), (.int .i64 x_1), (.int .i64 x_2), (.int .i64 x_3), (.int .i64 x_4), (.int .i64 x_5), (.int .i64 x_6), (.int .i64 x_7), (.int .i64 x_8), (.int .i64 x_9), (.int .i64 x_10), (.int .i64 x_11), (.bool x_12), (.slice x_13_a x_13_l x_13_c)] Ty_receiver_side fun b1 w2 =>
  (∃ J : World → Prop,
  (∀ (_junk : Env)  (w7 : World), J w7 →
    (kLd w7 ⟨b, 7, none⟩ .i64 fun x3 =>
    (Calls Try.prog N_receiver_side_place #[(.pointer (some ⟨b1, 0, none⟩)), (.int .i64 x3)] w7 fun e_4 w8 =>
    ∃ r4 : Int, e_4 = .returned (.int .i64 r4) ∧
    (∃ J1 : Bool → World → Prop,
    (∀ (_junk : Env) (x11 : Bool) (w11 : World), J1 x11 w11 →
      (bsplit x11
        (R (.bool false) w11)
        ((kLd w11 ⟨b, 9, none⟩ .i64 fun x12 =>
        (bsplit (decide (x12 = (-1 : Int)))
          ((kLd w11 ⟨b, 10, none⟩ .i64 fun x13 =>
          (kLet (decide (x13 = (0 : Int))) fun x14 =>
          R (.bool x14) w11)))
          ((kLd w11 ⟨b, 9, none⟩ .i64 fun x15 =>
          (Calls Try.prog N_receiver_side_number #[(.pointer (some ⟨b1, 0, none⟩)), (.int .i64 x15)] w11 fun e_7 w12 =>
          ∃ r7 : Bool, e_7 = .returned (.bool r7) ∧
          (bsplit r7
            ((kLd w12 ⟨b, 9, none⟩ .i64 fun x16 =>
            (Calls Try.prog N_receiver_side_place #[(.pointer (some ⟨b1, 0, none⟩)), (.int .i64 x16)] w12 fun e_8 w13 =>
            ∃ r8 : Int, e_8 = .returned (.int .i64 r8) ∧
            (bsplit (decide (r8 ≥ (1 : Int)))
              ((kLd w13 ⟨b, 9, none⟩ .i64 fun x17 =>
              (Calls Try.prog N_receiver_side_place #[(.pointer (some ⟨b1, 0, none⟩)), (.int .i64 x17)] w13 fun e_9 w14 =>
              ∃ r9 : Int, e_9 = .returned (.int .i64 r9) ∧
              (bsplit (decide (r9 ≤ r4))
                ((kLd w14 ⟨b, 10, none⟩ .i64 fun x18 =>
                (bsplit (decide (x18 ≥ (1 : Int)))
                  ((kLd w14 ⟨b, 10, none⟩ .i64 fun x19 =>
                  (kLd w14 ⟨b, 3, none⟩ .i64 fun x20 =>
                  (kLet (decide (x19 ≤ x20)) fun x21 =>
                  R (.bool x21) w14))))
                  (R (.bool false) w14))))
                (R (.bool false) w14)))))
              (R (.bool false) w13)))))
            (R (.bool false) w12)))))))))) ∧
    (kLd w8 ⟨b, 0, none⟩ .i64 fun x4 =>
    (kW .i64 (x4 - (1 : Int)) fun x5 =>
    (0 ≤ x5 ∧ (kW .i64 ((1 : Int) * 2 ^ (min x5.toNat (IntKind.bits .i64))) fun x6 =>
    (bsplit (decide (r4 > x6))
      (J1 true w8)
      ((kLd w8 ⟨b, 8, none⟩ .i64 fun x7 =>
      (Calls Try.prog N_receiver_side_place #[(.pointer (some ⟨b1, 0, none⟩)), (.int .i64 x7)] w8 fun e_5 w9 =>
      ∃ r5 : Int, e_5 = .returned (.int .i64 r5) ∧
      (bsplit (decide (r5 > r4))
        (J1 true w9)
        ((kLd w9 ⟨b, 11, none⟩ .i64 fun x8 =>
        (bsplit (decide (x8 < (0 : Int)))
          (J1 true w9)
          ((kLd w9 ⟨b, 11, none⟩ .i64 fun x9 =>
          (kLd w9 ⟨b, 4, none⟩ .i64 fun x10 =>
          (bsplit (decide (x9 > x10))
            (J1 true w9)
            ((Calls Try.prog N_receiver_side_partials #[(.pointer (some ⟨b1, 0, none⟩))] w9 fun e_6 w10 =>
            ∃ r6 : Bool, e_6 = .returned (.bool r6) ∧
            J1 (!r6) w10)))))))))))))))))))))) ∧
  (∃ x_01 x_13 x_21 x_31 x_41 x_51 : Int, cellsAt w2 ⟨b, 0, none⟩ 0 [(.int .i64 x_01), (.int .i64 x_13), (.int .i64 x_21), (.int .i64 x_31), (.int .i64 x_41), (.int .i64 x_51)] ∧
  (Calls Try.prog N_sender_ValidLink #[(.agg #[.int .i64 x_01, .int .i64 x_13, .int .i64 x_21, .int .i64 x_31, .int .i64 x_41, .int .i64 x_51])] w2 fun e_ w3 =>
  ∃ r : Bool, e_ = .returned (.bool r) ∧
  (bsplit (!r)
    (R (.bool false) w3)
    ((kLd w3 ⟨b, 6, none⟩ .i64 fun x =>
    (Calls Try.prog N_receiver_side_number #[(.pointer (some ⟨b1, 0, none⟩)), (.int .i64 x)] w3 fun e_1 w4 =>
    ∃ r1 : Bool, e_1 = .returned (.bool r1) ∧
    (bsplit (!r1)
      (R (.bool false) w4)
      ((kLd w4 ⟨b, 7, none⟩ .i64 fun x1 =>
      (Calls Try.prog N_receiver_side_number #[(.pointer (some ⟨b1, 0, none⟩)), (.int .i64 x1)] w4 fun e_2 w5 =>
      ∃ r2 : Bool, e_2 = .returned (.bool r2) ∧
      (bsplit (!r2)
        (R (.bool false) w5)
        ((kLd w5 ⟨b, 8, none⟩ .i64 fun x2 =>
        (Calls Try.prog N_receiver_side_number #[(.pointer (some ⟨b1, 0, none⟩)), (.int .i64 x2)] w5 fun e_3 w6 =>
        ∃ r3 : Bool, e_3 = .returned (.bool r3) ∧
        (bsplit (!r3)
          (R (.bool false) w6)
          (J w6))))))))))))))))))))
theorem F_receiver_Valid_eq (r_0 : Int) (r_1 : Int) (r_2 : Int) (r_3 : Int) (r_4 : Int) (r_5 : Int) (r_6 : Int) (r_7 : Int) (r_8 : Int) (r_9 : Int) (r_10 : Int) (r_11 : Int) (r_12 : Bool) (r_13_a : Option Addr) (r_13_l : Nat) (r_13_c : Nat) (w : World) (R : Value → World → Prop) : sxFn Try.prog TT h_receiver_Valid Try.f53 #[(.agg #[.int .i64 r_0, .int .i64 r_1, .int .i64 r_2, .int .i64 r_3, .int .i64 r_4, .int .i64 r_5, .int .i64 r_6, .int .i64 r_7, .int .i64 r_8, .int .i64 r_9, .int .i64 r_10, .int .i64 r_11, .bool r_12, .slice r_13_a r_13_l r_13_c])] w R = F_receiver_Valid r_0 r_1 r_2 r_3 r_4 r_5 r_6 r_7 r_8 r_9 r_10 r_11 r_12 r_13_a r_13_l r_13_c w R := by kernel_rfl
theorem F_receiver_Valid_ok {R : Ending → World → Prop} (r_0 : Int) (r_1 : Int) (r_2 : Int) (r_3 : Int) (r_4 : Int) (r_5 : Int) (r_6 : Int) (r_7 : Int) (r_8 : Int) (r_9 : Int) (r_10 : Int) (r_11 : Int) (r_12 : Bool) (r_13_a : Option Addr) (r_13_l : Nat) (r_13_c : Nat) (w : World) (h : F_receiver_Valid r_0 r_1 r_2 r_3 r_4 r_5 r_6 r_7 r_8 r_9 r_10 r_11 r_12 r_13_a r_13_l r_13_c w fun v w' => R (.returned v) w') : Calls Try.prog N_receiver_Valid #[(.agg #[.int .i64 r_0, .int .i64 r_1, .int .i64 r_2, .int .i64 r_3, .int .i64 r_4, .int .i64 r_5, .int .i64 r_6, .int .i64 r_7, .int .i64 r_8, .int .i64 r_9, .int .i64 r_10, .int .i64 r_11, .bool r_12, .slice r_13_a r_13_l r_13_c])] w R :=
  calls_of (f := 53) follows_ok Try.func53 (Eq.mpr (F_receiver_Valid_eq r_0 r_1 r_2 r_3 r_4 r_5 r_6 r_7 r_8 r_9 r_10 r_11 r_12 r_13_a r_13_l r_13_c w _) h)

def h_receiver_begin : H := (.seq .reg (.seq .reg (.seq (.seq .reg (.block (.loop [(12, .p (.int .i64))] [3, 4, 12, 13, 14, 15, 16, 17, 18, 19, 20, 21, 22, 23, 24, 25, 26, 27, 28, 29, 30, 31, 32, 33, 34, 35] (.seq .reg (.seq (.cond .leaf .leaf) (.seq (.block (.seq .reg (.seq .reg (.draw .cel (.one 0 .stable (.one 1 .stable (.one 2 .pre (.one 3 .pre (.one 4 .pre (.one 5 .pre (.one 7 .stable (.one 8 .stable (.one 9 .stable (.one 10 .stable (.one 6 .keep (.one 11 .keep (.one 12 .stable (.one 13 .stable (.one 14 .keep (.one 15 .stable (.one 16 .stable (.one 17 .last .nil)))))))))))))))))))))) .reg)))))) (.seq .reg .leaf))))
def F_receiver_begin (r_0 : Int) (r_1 : Int) (r_2 : Int) (r_3 : Int) (r_4 : Int) (r_5 : Int) (r_6 : Int) (r_7 : Int) (r_8 : Int) (r_9 : Int) (r_10 : Int) (r_11 : Int) (r_12 : Bool) (r_13_a : Option Addr) (r_13_l : Nat) (r_13_c : Nat) (w : World) (R : Value → World → Prop) : Prop :=
  (kAlloc w #[(.int .i64 r_0), (.int .i64 r_1), (.int .i64 r_2), (.int .i64 r_3), (.int .i64 r_4), (.int .i64 r_5), (.int .i64 r_6), (.int .i64 r_7), (.int .i64 r_8), (.int .i64 r_9), (.int .i64 r_10), (.int .i64 r_11), (.bool r_12), (.slice r_13_a r_13_l r_13_c)] Ty_api_Receiver fun b w1 =>
  (kLdS w1 ⟨b, 13, none⟩ fun x_a x_l x_c =>
  (Calls Try.prog N_slices_Clone_Sapi_Partial_api_Partial #[(.slice x_a x_l x_c)] w1 fun e_ w2 =>
  ∃ r_a : Option Addr, ∃ r_l r_c : Nat, e_ = .returned (.slice r_a r_l r_c) ∧
  (kSet w2 ⟨b, 13, none⟩ (.slice r_a r_l r_c) fun w3 =>
  (kLdS w3 ⟨b, 13, none⟩ fun _ x_l1 _ =>
  (∃ I : Int → Nat × (World → Prop), (I (0 : Int)).2 w3 ∧
  (∀ (_junk : Env) (x : Int) (w4 : World), (I x).2 w4 →
    (bsplit (decide (x < (x_l1 : Int)))
      ((kLdS w4 ⟨b, 13, none⟩ fun x_a2 x_l2 _ =>
      (kIx x_a2 x_l2 x fun b1 =>
      (kDrew w4 fun w5 =>
      (∃ S : Addr → Prop,
      (kLdS w5 ((b1.add (x.toNat * 5)).add 3) fun x_a3 x_l3 x_c3 =>
      (S ((b1.add (x.toNat * 5)).add 4) ∧
      (kLdS w5 ((b1.add (x.toNat * 5)).add 4) fun x_a4 x_l4 x_c4 =>
      (Calls Try.prog N_slices_Clone_Sbyte_byte #[(.slice x_a3 x_l3 x_c3)] w5 fun e_1 w6 =>
      ∃ r_a1 : Option Addr, ∃ r_l1 r_c1 : Nat, e_1 = .returned (.slice r_a1 r_l1 r_c1) ∧
      (KeepsA S w5 w6 ∧ (Calls Try.prog N_slices_Clone_Sapi_Range_api_Range #[(.slice x_a4 x_l4 x_c4)] w6 fun e_2 w7 =>
      ∃ r_a2 : Option Addr, ∃ r_l2 r_c2 : Nat, e_2 = .returned (.slice r_a2 r_l2 r_c2) ∧
      (KeepsA S w5 w7 ∧ (kSet w7 ((b1.add (x.toNat * 5)).add 3) (.slice r_a1 r_l1 r_c1) fun w8 =>
      (KeepsA S w5 w8 ∧ (kSet w8 ((b1.add (x.toNat * 5)).add 4) (.slice r_a2 r_l2 r_c2) fun w9 =>
      (kW .i64 (x + (1 : Int)) fun x1 =>
      ((I x1).2 w9 ∧ (I x1).1 < (I x).1)))))))))))))))))
      ((∃ x_0 x_1 x_2 x_3 x_4 x_5 x_6 x_7 x_8 x_9 x_10 x_11 : Int, ∃ x_12 : Bool, ∃ x_13_a : Option Addr, ∃ x_13_l x_13_c : Nat, cellsAt w4 ⟨b, 0, none⟩ 0 [(.int .i64 x_0), (.int .i64 x_1), (.int .i64 x_2), (.int .i64 x_3), (.int .i64 x_4), (.int .i64 x_5), (.int .i64 x_6), (.int .i64 x_7), (.int .i64 x_8), (.int .i64 x_9), (.int .i64 x_10), (.int .i64 x_11), (.bool x_12), (.slice x_13_a x_13_l x_13_c)] ∧
      (kAlloc w4 #[(.int .i64 x_0), (.int .i64 x_1), (.int .i64 x_2), (.int .i64 x_3), (.int .i64 x_4), (.int .i64 x_5), (.int .i64 x_6), (.int .i64 x_7), (.int .i64 x_8), (.int .i64 x_9), (.int .i64 x_10), (.int .i64 x_11), (.bool x_12), (.slice x_13_a x_13_l x_13_c)] Ty_receiver_side fun b2 w10 =>
      R (.pointer (some ⟨b2, 0, none⟩)) w10)))))))))))
theorem F_receiver_begin_eq (r_0 : Int) (r_1 : Int) (r_2 : Int) (r_3 : Int) (r_4 : Int) (r_5 : Int) (r_6 : Int) (r_7 : Int) (r_8 : Int) (r_9 : Int) (r_10 : Int) (r_11 : Int) (r_12 : Bool) (r_13_a : Option Addr) (r_13_l : Nat) (r_13_c : Nat) (w : World) (R : Value → World → Prop) : sxFn Try.prog TT h_receiver_begin Try.f54 #[(.agg #[.int .i64 r_0, .int .i64 r_1, .int .i64 r_2, .int .i64 r_3, .int .i64 r_4, .int .i64 r_5, .int .i64 r_6, .int .i64 r_7, .int .i64 r_8, .int .i64 r_9, .int .i64 r_10, .int .i64 r_11, .bool r_12, .slice r_13_a r_13_l r_13_c])] w R = F_receiver_begin r_0 r_1 r_2 r_3 r_4 r_5 r_6 r_7 r_8 r_9 r_10 r_11 r_12 r_13_a r_13_l r_13_c w R := by kernel_rfl
theorem F_receiver_begin_ok {R : Ending → World → Prop} (r_0 : Int) (r_1 : Int) (r_2 : Int) (r_3 : Int) (r_4 : Int) (r_5 : Int) (r_6 : Int) (r_7 : Int) (r_8 : Int) (r_9 : Int) (r_10 : Int) (r_11 : Int) (r_12 : Bool) (r_13_a : Option Addr) (r_13_l : Nat) (r_13_c : Nat) (w : World) (h : F_receiver_begin r_0 r_1 r_2 r_3 r_4 r_5 r_6 r_7 r_8 r_9 r_10 r_11 r_12 r_13_a r_13_l r_13_c w fun v w' => R (.returned v) w') : Calls Try.prog N_receiver_begin #[(.agg #[.int .i64 r_0, .int .i64 r_1, .int .i64 r_2, .int .i64 r_3, .int .i64 r_4, .int .i64 r_5, .int .i64 r_6, .int .i64 r_7, .int .i64 r_8, .int .i64 r_9, .int .i64 r_10, .int .i64 r_11, .bool r_12, .slice r_13_a r_13_l r_13_c])] w R :=
  calls_of (f := 54) follows_ok Try.func54 (Eq.mpr (F_receiver_begin_eq r_0 r_1 r_2 r_3 r_4 r_5 r_6 r_7 r_8 r_9 r_10 r_11 r_12 r_13_a r_13_l r_13_c w _) h)

def h_segment_Decode : H := (.seq .reg (.seq (.block (.seq .reg (.cond (.seq .reg .leaf) (.seq .reg (.cond (.seq .reg .leaf) .leaf))))) (.seq (.draw .no (.one 0 .stable (.one 1 .stable (.one 2 .stable (.one 3 .stable (.one 4 .stable (.one 5 .stable (.one 6 .stable (.one 7 .stable (.one 8 .stable (.one 9 .stable (.one 10 .stable .nil)))))))))))) (.seq .reg (.seq .reg (.seq (.seq .reg (.cond (.seq .reg .leaf) .leaf)) (.cut [] [46, 47, 48, 49, 50, 51, 52, 53, 54, 55, 56, 57, 58] (.seq .reg (.cond (.draw .no (.one 0 .pre (.one 1 .pre (.one 2 .pre (.one 3 .pre (.one 4 .pre (.one 5 .pre (.one 6 .pre (.one 7 .pre (.one 8 .pre (.one 9 .pre (.one 10 .pre (.one 11 .last .nil))))))))))))) .leaf)) (.seq .reg (.seq (.seq .reg (.cond (.seq .reg .leaf) .leaf)) (.seq .reg .leaf))))))))))
def F_segment_Decode (bits : Int) (b_a : Option Addr) (b_l : Nat) (b_c : Nat) (w : World) (R : Value → World → Prop) : Prop :=
  (kAlloc w #[.int .i64 (0 : Int), .int .i64 (0 : Int), .int .i64 (0 : Int), .int .i64 (0 : Int), .slice none 0 0] Ty_api_Piece fun b w1 =>
  (Calls Try.prog N_counter_Bits #[(.int .i64 bits)] w1 fun e_ w2 =>
  ∃ r : Bool, e_ = .returned (.bool r) ∧
  (bsplit (!r)
    ((sxStore w2 ⟨b, 0, none⟩ 0 [(.int .i64 (0 : Int)), (.int .i64 (0 : Int)), (.int .i64 (0 : Int)), (.int .i64 (0 : Int)), (.slice none 0 0)] fun w3 =>
    (∃ r_0 r_1 r_2 r_3 : Int, ∃ r_4_a : Option Addr, ∃ r_4_l r_4_c : Nat, cellsAt w3 ⟨b, 0, none⟩ 0 [(.int .i64 r_0), (.int .i64 r_1), (.int .i64 r_2), (.int .i64 r_3), (.slice r_4_a r_4_l r_4_c)] ∧
    R (.tuple #[(.agg #[.int .i64 r_0, .int .i64 r_1, .int .i64 r_2, .int .i64 r_3, .slice r_4_a r_4_l r_4_c]), (.int .i64 (3 : Int))]) w3)))
    ((kLet (decide ((b_l : Int) < (2 : Int))) fun x =>
    (bsplit x
      ((sxStore w2 ⟨b, 0, none⟩ 0 [(.int .i64 (0 : Int)), (.int .i64 (0 : Int)), (.int .i64 (0 : Int)), (.int .i64 (0 : Int)), (.slice none 0 0)] fun w4 =>
      (∃ r_01 r_11 r_21 r_31 : Int, ∃ r_4_a1 : Option Addr, ∃ r_4_l1 r_4_c1 : Nat, cellsAt w4 ⟨b, 0, none⟩ 0 [(.int .i64 r_01), (.int .i64 r_11), (.int .i64 r_21), (.int .i64 r_31), (.slice r_4_a1 r_4_l1 r_4_c1)] ∧
      R (.tuple #[(.agg #[.int .i64 r_01, .int .i64 r_11, .int .i64 r_21, .int .i64 r_31, .slice r_4_a1 r_4_l1 r_4_c1]), (.int .i64 (5 : Int))]) w4)))
      ((kDrew w2 fun w5 =>
      (kIx b_a b_l (0 : Int) fun b1 =>
      (kLd w5 (b1.add ((0 : Int).toNat * 1)) .u8 fun x1 =>
      (kW .i64 (x1) fun x2 =>
      (kW .i64 (x2 * 2 ^ 8) fun x3 =>
      (kIx b_a b_l (1 : Int) fun b2 =>
      (kLd w5 (b2.add ((1 : Int).toNat * 1)) .u8 fun x4 =>
      (kW .i64 (x4) fun x5 =>
      (kLet (bOr .i64 x3 x5) fun x6 =>
      (kLet (Int.fdiv x6 (2 ^ 14)) fun x7 =>
      (kLet (bAnd .i64 x7 (1 : Int)) fun x8 =>
      (kLet (Int.fdiv x6 (2 ^ 12)) fun x9 =>
      (kLet (bAnd .i64 x9 (3 : Int)) fun x10 =>
      (kLet (bAnd .i64 x6 (4095 : Int)) fun x11 =>
      (kAlloc w5 #[.int .i64 (0 : Int), .int .i64 (0 : Int), .int .i64 (0 : Int), .int .i64 (0 : Int), .slice none 0 0] Ty_api_Piece fun b3 w6 =>
      (sxStore w6 ⟨b3, 0, none⟩ 0 [(.int .i64 x11), (.int .i64 x10), (.int .i64 x8), (.int .i64 (0 : Int)), (.slice none 0 0)] fun w7 =>
      (kLd w7 ⟨b3, 1, none⟩ .i64 fun x12 =>
      (Calls Try.prog N_segment_head #[(.int .i64 x12)] w7 fun e_1 w8 =>
      ∃ r1 : Int, e_1 = .returned (.int .i64 r1) ∧
      (bsplit (decide ((b_l : Int) ≤ r1))
        ((sxStore w8 ⟨b, 0, none⟩ 0 [(.int .i64 (0 : Int)), (.int .i64 (0 : Int)), (.int .i64 (0 : Int)), (.int .i64 (0 : Int)), (.slice none 0 0)] fun w9 =>
        (∃ r_02 r_12 r_22 r_32 : Int, ∃ r_4_a2 : Option Addr, ∃ r_4_l2 r_4_c2 : Nat, cellsAt w9 ⟨b, 0, none⟩ 0 [(.int .i64 r_02), (.int .i64 r_12), (.int .i64 r_22), (.int .i64 r_32), (.slice r_4_a2 r_4_l2 r_4_c2)] ∧
        R (.tuple #[(.agg #[.int .i64 r_02, .int .i64 r_12, .int .i64 r_22, .int .i64 r_32, .slice r_4_a2 r_4_l2 r_4_c2]), (.int .i64 (5 : Int))]) w9)))
        ((∃ J : World → Prop,
        (∀ (_junk : Env)  (w12 : World), J w12 →
          ((0 ≤ r1 ∧ r1 ≤ ((b_l : Nat) : Int)) ∧ (Calls Try.prog N_slices_Clone_Sbyte_byte #[(.slice (slAddr b_c (r1.toNat) 1 b_a) (b_l - r1.toNat) (b_c - r1.toNat))] w12 fun e_2 w13 =>
          ∃ r_a : Option Addr, ∃ r_l r_c : Nat, e_2 = .returned (.slice r_a r_l r_c) ∧
          (kSet w13 ⟨b3, 4, none⟩ (.slice r_a r_l r_c) fun w14 =>
          (kLet (Int.fdiv x6 (2 ^ 15)) fun x19 =>
          (bsplit (decide (x19 = (0 : Int)))
            ((sxStore w14 ⟨b, 0, none⟩ 0 [(.int .i64 (0 : Int)), (.int .i64 (0 : Int)), (.int .i64 (0 : Int)), (.int .i64 (0 : Int)), (.slice none 0 0)] fun w15 =>
              (∃ r_03 r_13 r_23 r_33 : Int, ∃ r_4_a3 : Option Addr, ∃ r_4_l3 r_4_c3 : Nat, cellsAt w15 ⟨b, 0, none⟩ 0 [(.int .i64 r_03), (.int .i64 r_13), (.int .i64 r_23), (.int .i64 r_33), (.slice r_4_a3 r_4_l3 r_4_c3)] ∧
              R (.tuple #[(.agg #[.int .i64 r_03, .int .i64 r_13, .int .i64 r_23, .int .i64 r_33, .slice r_4_a3 r_4_l3 r_4_c3]), (.int .i64 (4 : Int))]) w15)))
            ((∃ x_01 x_11 x_21 x_31 : Int, ∃ x_4_a1 : Option Addr, ∃ x_4_l1 x_4_c1 : Nat, cellsAt w14 ⟨b3, 0, none⟩ 0 [(.int .i64 x_01), (.int .i64 x_11), (.int .i64 x_21), (.int .i64 x_31), (.slice x_4_a1 x_4_l1 x_4_c1)] ∧
            (Calls Try.prog N_segment_Valid #[(.int .i64 bits), (.agg #[.int .i64 x_01, .int .i64 x_11, .int .i64 x_21, .int .i64 x_31, .slice x_4_a1 x_4_l1 x_4_c1])] w14 fun e_3 w17 =>
            ∃ r2 : Bool, e_3 = .returned (.bool r2) ∧
            (bsplit (!r2)
              ((sxStore w17 ⟨b, 0, none⟩ 0 [(.int .i64 (0 : Int)), (.int .i64 (0 : Int)), (.int .i64 (0 : Int)), (.int .i64 (0 : Int)), (.slice none 0 0)] fun w18 =>
              (∃ r_05 r_15 r_25 r_35 : Int, ∃ r_4_a5 : Option Addr, ∃ r_4_l5 r_4_c5 : Nat, cellsAt w18 ⟨b, 0, none⟩ 0 [(.int .i64 r_05), (.int .i64 r_15), (.int .i64 r_25), (.int .i64 r_35), (.slice r_4_a5 r_4_l5 r_4_c5)] ∧
              R (.tuple #[(.agg #[.int .i64 r_05, .int .i64 r_15, .int .i64 r_25, .int .i64 r_35, .slice r_4_a5 r_4_l5 r_4_c5]), (.int .i64 (4 : Int))]) w18)))
              ((∃ x_02 x_12 x_22 x_32 : Int, ∃ x_4_a2 : Option Addr, ∃ x_4_l2 x_4_c2 : Nat, cellsAt w17 ⟨b3, 0, none⟩ 0 [(.int .i64 x_02), (.int .i64 x_12), (.int .i64 x_22), (.int .i64 x_32), (.slice x_4_a2 x_4_l2 x_4_c2)] ∧
              (sxStore w17 ⟨b, 0, none⟩ 0 [(.int .i64 x_02), (.int .i64 x_12), (.int .i64 x_22), (.int .i64 x_32), (.slice x_4_a2 x_4_l2 x_4_c2)] fun w19 =>
              (∃ r_06 r_16 r_26 r_36 : Int, ∃ r_4_a6 : Option Addr, ∃ r_4_l6 r_4_c6 : Nat, cellsAt w19 ⟨b, 0, none⟩ 0 [(.int .i64 r_06), (.int .i64 r_16), (.int .i64 r_26), (.int .i64 r_36), (.slice r_4_a6 r_4_l6 r_4_c6)] ∧
              R (.tuple #[(.agg #[.int .i64 r_06, .int .i64 r_16, .int .i64 r_26, .int .i64 r_36, .slice r_4_a6 r_4_l6 r_4_c6]), (.int .i64 (0 : Int))]) w19)))))))))))))) ∧
        (bsplit (decide (r1 = (4 : Int)))
          ((kDrew w8 fun w10 =>
          (kIx b_a b_l (2 : Int) fun b4 =>
          (kLd w10 (b4.add ((2 : Int).toNat * 1)) .u8 fun x13 =>
          (kW .i64 (x13) fun x14 =>
          (kW .i64 (x14 * 2 ^ 8) fun x15 =>
          (kIx b_a b_l (3 : Int) fun b5 =>
          (kLd w10 (b5.add ((3 : Int).toNat * 1)) .u8 fun x16 =>
          (kW .i64 (x16) fun x17 =>
          (kLet (bOr .i64 x15 x17) fun x18 =>
          (kSet w10 ⟨b3, 3, none⟩ (.int .i64 x18) fun w11 =>
          J w11)))))))))))
          (J w8))))))))))))))))))))))))))))))
theorem F_segment_Decode_eq (bits : Int) (b_a : Option Addr) (b_l : Nat) (b_c : Nat) (w : World) (R : Value → World → Prop) : sxFn Try.prog TT h_segment_Decode Try.f55 #[(.int .i64 bits), (.slice b_a b_l b_c)] w R = F_segment_Decode bits b_a b_l b_c w R := by kernel_rfl
theorem F_segment_Decode_ok {R : Ending → World → Prop} (bits : Int) (b_a : Option Addr) (b_l : Nat) (b_c : Nat) (w : World) (h : F_segment_Decode bits b_a b_l b_c w fun v w' => R (.returned v) w') : Calls Try.prog N_segment_Decode #[(.int .i64 bits), (.slice b_a b_l b_c)] w R :=
  calls_of (f := 55) follows_ok Try.func55 (Eq.mpr (F_segment_Decode_eq bits b_a b_l b_c w _) h)

def h_slices_BinarySearchFunc_Sapi_Partial_api_Partial_int : H := (.seq .reg (.seq .reg (.seq .reg (.seq (.block (.loop [(9, .p (.int .i64)), (10, .p (.int .i64))] [9, 10, 11, 15, 16, 17, 18, 19, 20, 21, 22, 23, 24, 25, 26, 27, 28, 29, 30, 31, 32, 33, 34] (.seq (.seq .reg (.cond .leaf .leaf)) (.block (.seq .reg (.seq .reg (.cond .reg .reg))))))) (.seq .reg .leaf)))))
def F_slices_BinarySearchFunc_Sapi_Partial_api_Partial_int (x_a : Option Addr) (x_l : Nat) (_ : Nat) (target : Int) (cmp_g : Nat) (cmp_f : Array Value) (cmp_c : Array Value) (w : World) (R : Value → World → Prop) : Prop :=
  (∃ I : Int → Int → Nat × (World → Prop), (I (0 : Int) (x_l : Int)).2 w ∧
  (∀ (_junk : Env) (i : Int) (j : Int) (w1 : World), (I i j).2 w1 →
    (bsplit (decide (i < j))
      ((kW .i64 (i + j) fun x =>
      (kW .u64 (x) fun x1 =>
      (kLet (Int.fdiv x1 (2 ^ 1)) fun x2 =>
      (kW .i64 (x2) fun x3 =>
      (kIx x_a x_l x3 fun b =>
      (∃ x_0 : Int, ∃ x_1 : Bool, ∃ x_2 : Int, ∃ x_3_a : Option Addr, ∃ x_3_l x_3_c : Nat, ∃ x_4_a : Option Addr, ∃ x_4_l x_4_c : Nat, cellsAt w1 (b.add (x3.toNat * 5)) 0 [(.int .i64 x_0), (.bool x_1), (.int .i64 x_2), (.slice x_3_a x_3_l x_3_c), (.slice x_4_a x_4_l x_4_c)] ∧
      (okFn Try.prog cmp_g = true ∧ Calls Try.prog cmp_g (cmp_f ++ #[(.agg #[.int .i64 x_0, .bool x_1, .int .i64 x_2, .slice x_3_a x_3_l x_3_c, .slice x_4_a x_4_l x_4_c]), (.int .i64 target)] ++ cmp_c) w1 fun e_ w2 =>
      ∃ r : Int, e_ = .returned (.int .i64 r) ∧
      (bsplit (decide (r < (0 : Int)))
        ((kW .i64 (x3 + (1 : Int)) fun x4 =>
        ((I x4 j).2 w2 ∧ (I x4 j).1 < (I i j).1)))
        (((I i x3).2 w2 ∧ (I i x3).1 < (I i j).1)))))))))))
      ((bsplit (decide (i < (x_l : Int)))
        ((kIx x_a x_l i fun b1 =>
        (∃ x_01 : Int, ∃ x_11 : Bool, ∃ x_21 : Int, ∃ x_3_a1 : Option Addr, ∃ x_3_l1 x_3_c1 : Nat, ∃ x_4_a1 : Option Addr, ∃ x_4_l1 x_4_c1 : Nat, cellsAt w1 (b1.add (i.toNat * 5)) 0 [(.int .i64 x_01), (.bool x_11), (.int .i64 x_21), (.slice x_3_a1 x_3_l1 x_3_c1), (.slice x_4_a1 x_4_l1 x_4_c1)] ∧
        (okFn Try.prog cmp_g = true ∧ Calls Try.prog cmp_g (cmp_f ++ #[(.agg #[.int .i64 x_01, .bool x_11, .int .i64 x_21, .slice x_3_a1 x_3_l1 x_3_c1, .slice x_4_a1 x_4_l1 x_4_c1]), (.int .i64 target)] ++ cmp_c) w1 fun e_1 w3 =>
        ∃ r1 : Int, e_1 = .returned (.int .i64 r1) ∧
        (kLet (decide (r1 = (0 : Int))) fun x5 =>
        R (.tuple #[(.int .i64 i), (.bool x5)]) w3)))))
        (R (.tuple #[(.int .i64 i), (.bool false)]) w1))))))
theorem F_slices_BinarySearchFunc_Sapi_Partial_api_Partial_int_eq (x_a : Option Addr) (x_l : Nat) (x_c : Nat) (target : Int) (cmp_g : Nat) (cmp_f : Array Value) (cmp_c : Array Value) (w : World) (R : Value → World → Prop) : sxFn Try.prog TT h_slices_BinarySearchFunc_Sapi_Partial_api_Partial_int Try.f56 #[(.slice x_a x_l x_c), (.int .i64 target), (.func (.func cmp_g) cmp_f cmp_c)] w R = F_slices_BinarySearchFunc_Sapi_Partial_api_Partial_int x_a x_l x_c target cmp_g cmp_f cmp_c w R := by kernel_rfl
theorem F_slices_BinarySearchFunc_Sapi_Partial_api_Partial_int_ok {R : Ending → World → Prop} (x_a : Option Addr) (x_l : Nat) (x_c : Nat) (target : Int) (cmp_g : Nat) (cmp_f : Array Value) (cmp_c : Array Value) (w : World) (h : F_slices_BinarySearchFunc_Sapi_Partial_api_Partial_int x_a x_l x_c target cmp_g cmp_f cmp_c w fun v w' => R (.returned v) w') : Calls Try.prog N_slices_BinarySearchFunc_Sapi_Partial_api_Partial_int #[(.slice x_a x_l x_c), (.int .i64 target), (.func (.func cmp_g) cmp_f cmp_c)] w R :=
  calls_of (f := 56) follows_ok Try.func56 (Eq.mpr (F_slices_BinarySearchFunc_Sapi_Partial_api_Partial_int_eq x_a x_l x_c target cmp_g cmp_f cmp_c w _) h)

def h_receiver_side_place : H := (.seq .reg (.seq (.draw .blk (.one 0 .pre (.one 1 .pre (.one 2 .pre (.one 3 .pre (.one 4 .pre (.one 5 .pre (.one 6 .pre (.one 7 .pre (.one 8 .pre (.one 9 .pre (.one 10 .pre (.one 11 .pre (.one 12 .keep (.one 13 .stable .nil))))))))))))))) .leaf))
def F_receiver_side_place (s_b : Nat) (s_o : Nat) (n : Int) (w : World) (R : Value → World → Prop) : Prop :=
  (kDrew w fun w1 =>
  (∃ S : Nat → Prop,
  (kLd w1 ⟨s_b, s_o, none⟩ .i64 fun x =>
  (kLd w1 ⟨s_b, s_o + 6, none⟩ .i64 fun x1 =>
  (Calls Try.prog N_serial_Distance #[(.int .i64 x), (.int .i64 x1), (.int .i64 n)] w1 fun e_ w2 =>
  ∃ r : Int, e_ = .returned (.int .i64 r) ∧
  (KeepsB S w1 w2 ∧ R (.int .i64 r) w2))))))
theorem F_receiver_side_place_eq (s_b : Nat) (s_o : Nat) (n : Int) (w : World) (R : Value → World → Prop) : sxFn Try.prog TT h_receiver_side_place Try.f57 #[(.pointer (some ⟨s_b, s_o, none⟩)), (.int .i64 n)] w R = F_receiver_side_place s_b s_o n w R := by kernel_rfl
theorem F_receiver_side_place_ok {R : Ending → World → Prop} (s_b : Nat) (s_o : Nat) (n : Int) (w : World) (h : F_receiver_side_place s_b s_o n w fun v w' => R (.returned v) w') : Calls Try.prog N_receiver_side_place #[(.pointer (some ⟨s_b, s_o, none⟩)), (.int .i64 n)] w R :=
  calls_of (f := 57) follows_ok Try.func57 (Eq.mpr (F_receiver_side_place_eq s_b s_o n w _) h)

def h_receiver_Receive_1 : H := (.seq .reg (.seq .reg .leaf))
def F_receiver_Receive_1 (x_0 : Int) (x_1 : Bool) (x_2 : Int) (x_3_a : Option Addr) (x_3_l : Nat) (x_3_c : Nat) (x_4_a : Option Addr) (x_4_l : Nat) (x_4_c : Nat) (n : Int) (cap0_b : Nat) (cap0_o : Nat) (w : World) (R : Value → World → Prop) : Prop :=
  (kAlloc w #[(.int .i64 x_0), (.bool x_1), (.int .i64 x_2), (.slice x_3_a x_3_l x_3_c), (.slice x_4_a x_4_l x_4_c)] Ty_api_Partial fun b w1 =>
  (∃ x : Option Addr, w1.cell? ⟨cap0_b, cap0_o, none⟩ = some (.pointer x) ∧
  (kLd w1 ⟨b, 0, none⟩ .i64 fun x1 =>
  (Calls Try.prog N_receiver_side_place #[(.pointer x), (.int .i64 x1)] w1 fun e_ w2 =>
  ∃ r : Int, e_ = .returned (.int .i64 r) ∧
  (kW .i64 (r - n) fun x2 =>
  R (.int .i64 x2) w2)))))
theorem F_receiver_Receive_1_eq (x_0 : Int) (x_1 : Bool) (x_2 : Int) (x_3_a : Option Addr) (x_3_l : Nat) (x_3_c : Nat) (x_4_a : Option Addr) (x_4_l : Nat) (x_4_c : Nat) (n : Int) (cap0_b : Nat) (cap0_o : Nat) (w : World) (R : Value → World → Prop) : sxFn Try.prog TT h_receiver_Receive_1 Try.f58 #[(.agg #[.int .i64 x_0, .bool x_1, .int .i64 x_2, .slice x_3_a x_3_l x_3_c, .slice x_4_a x_4_l x_4_c]), (.int .i64 n), (.pointer (some ⟨cap0_b, cap0_o, none⟩))] w R = F_receiver_Receive_1 x_0 x_1 x_2 x_3_a x_3_l x_3_c x_4_a x_4_l x_4_c n cap0_b cap0_o w R := by kernel_rfl
theorem F_receiver_Receive_1_ok {R : Ending → World → Prop} (x_0 : Int) (x_1 : Bool) (x_2 : Int) (x_3_a : Option Addr) (x_3_l : Nat) (x_3_c : Nat) (x_4_a : Option Addr) (x_4_l : Nat) (x_4_c : Nat) (n : Int) (cap0_b : Nat) (cap0_o : Nat) (w : World) (h : F_receiver_Receive_1 x_0 x_1 x_2 x_3_a x_3_l x_3_c x_4_a x_4_l x_4_c n cap0_b cap0_o w fun v w' => R (.returned v) w') : Calls Try.prog N_receiver_Receive_1 #[(.agg #[.int .i64 x_0, .bool x_1, .int .i64 x_2, .slice x_3_a x_3_l x_3_c, .slice x_4_a x_4_l x_4_c]), (.int .i64 n), (.pointer (some ⟨cap0_b, cap0_o, none⟩))] w R :=
  calls_of (f := 58) follows_ok Try.func58 (Eq.mpr (F_receiver_Receive_1_eq x_0 x_1 x_2 x_3_a x_3_l x_3_c x_4_a x_4_l x_4_c n cap0_b cap0_o w _) h)

def h_receiver_side_refused : H := (.seq .reg (.seq (.block (.seq (.draw .blk (.one 0 .pre (.one 1 .pre (.one 2 .pre (.one 3 .pre (.one 5 .stable (.one 6 .stable (.one 7 .stable (.one 8 .stable (.one 9 .stable (.one 10 .stable (.one 11 .stable (.one 12 .stable (.one 4 .keep (.one 13 .stable (.one 14 .stable .nil)))))))))))))))) (.cond (.seq .reg .leaf) (.seq .reg (.cond (.seq .reg .leaf) (.seq .reg (.cond (.seq .reg .leaf) (.seq (.draw .blk (.one 0 .pre (.one 1 .pre (.one 2 .pre (.one 3 .pre (.one 4 .pre (.one 5 .pre (.one 6 .pre (.one 7 .pre (.one 8 .pre (.one 9 .keep (.one 10 .stable .nil)))))))))))) (.cond (.seq .reg .leaf) (.seq (.draw .blk (.one 0 .pre (.one 1 .pre (.one 2 .pre (.one 3 .pre (.one 4 .pre (.one 5 .pre (.one 6 .pre (.one 7 .pre (.one 8 .pre (.one 9 .keep (.one 10 .stable .nil)))))))))))) (.cond (.seq .reg .leaf) .leaf))))))))))) (.seq .reg .leaf)))
def F_receiver_side_refused (s_b : Nat) (s_o : Nat) (p_0 : Int) (p_1 : Int) (p_2 : Int) (p_3 : Int) (p_4_a : Option Addr) (p_4_l : Nat) (p_4_c : Nat) (p_5 : Int) (p_6 : Bool) (at1 : Int) (found : Bool) (w : World) (R : Value → World → Prop) : Prop :=
  (kAlloc w #[(.int .i64 p_0), (.int .i64 p_1), (.int .i64 p_2), (.int .i64 p_3), (.slice p_4_a p_4_l p_4_c), (.int .i64 p_5), (.bool p_6)] Ty_receiver_piece fun b w1 =>
  (kDrew w1 fun w2 =>
  (∃ S : Nat → Prop,
  (kLd w2 ⟨b, 0, none⟩ .i64 fun x =>
  (S s_b ∧
  (kLd w2 ⟨s_b, s_o, none⟩ .i64 fun x1 =>
  (kW .i64 (x1 - (1 : Int)) fun x2 =>
  (0 ≤ x2 ∧ (kW .i64 ((1 : Int) * 2 ^ (min x2.toNat (IntKind.bits .i64))) fun x3 =>
  (Calls Try.prog N_receiver_side_place #[(.pointer (some ⟨s_b, s_o, none⟩)), (.int .i64 x)] w2 fun e_ w3 =>
  ∃ r : Int, e_ = .returned (.int .i64 r) ∧
  (KeepsB S w2 w3 ∧ (kLet (decide (r ≥ x3)) fun x4 =>
  (bsplit x4
    (R (.int .i64 (11 : Int)) w3)
    ((bsplit (!found)
      (R (.int .i64 (0 : Int)) w3)
      ((kLdS w3 ⟨s_b, s_o + 13, none⟩ fun x_a x_l _ =>
      (kIx x_a x_l at1 fun b1 =>
      (kLdB w3 ((b1.add (at1.toNat * 5)).add 1) fun x5 =>
      (bsplit x5
        (R (.int .i64 (12 : Int)) w3)
        ((kDrew w3 fun w4 =>
        (∃ S1 : Nat → Prop,
        (∃ x_0 x_1 x_2 x_3 : Int, ∃ x_4_a : Option Addr, ∃ x_4_l x_4_c : Nat, ∃ x_5 : Int, ∃ x_6 : Bool, cellsAt w4 ⟨b, 0, none⟩ 0 [(.int .i64 x_0), (.int .i64 x_1), (.int .i64 x_2), (.int .i64 x_3), (.slice x_4_a x_4_l x_4_c), (.int .i64 x_5), (.bool x_6)] ∧
        (kLdS w4 ⟨s_b, s_o + 13, none⟩ fun x_a1 x_l1 _ =>
        (kIx x_a1 x_l1 at1 fun b2 =>
        (∃ x_01 : Int, ∃ x_11 : Bool, ∃ x_21 : Int, ∃ x_3_a : Option Addr, ∃ x_3_l x_3_c : Nat, ∃ x_4_a1 : Option Addr, ∃ x_4_l1 x_4_c1 : Nat, cellsAt w4 (b2.add (at1.toNat * 5)) 0 [(.int .i64 x_01), (.bool x_11), (.int .i64 x_21), (.slice x_3_a x_3_l x_3_c), (.slice x_4_a1 x_4_l1 x_4_c1)] ∧
        (Calls Try.prog N_receiver_piece_contradicts #[(.agg #[.int .i64 x_0, .int .i64 x_1, .int .i64 x_2, .int .i64 x_3, .slice x_4_a x_4_l x_4_c, .int .i64 x_5, .bool x_6]), (.agg #[.int .i64 x_01, .bool x_11, .int .i64 x_21, .slice x_3_a x_3_l x_3_c, .slice x_4_a1 x_4_l1 x_4_c1])] w4 fun e_1 w5 =>
        ∃ r1 : Bool, e_1 = .returned (.bool r1) ∧
        (KeepsB S1 w4 w5 ∧ (bsplit r1
          (R (.int .i64 (4 : Int)) w5)
          ((kDrew w5 fun w6 =>
          (∃ S2 : Nat → Prop,
          (∃ x_02 x_12 x_22 x_31 : Int, ∃ x_4_a2 : Option Addr, ∃ x_4_l2 x_4_c2 : Nat, ∃ x_51 : Int, ∃ x_61 : Bool, cellsAt w6 ⟨b, 0, none⟩ 0 [(.int .i64 x_02), (.int .i64 x_12), (.int .i64 x_22), (.int .i64 x_31), (.slice x_4_a2 x_4_l2 x_4_c2), (.int .i64 x_51), (.bool x_61)] ∧
          (kLdS w6 ⟨s_b, s_o + 13, none⟩ fun x_a2 x_l2 _ =>
          (kIx x_a2 x_l2 at1 fun b3 =>
          (∃ x_03 : Int, ∃ x_13 : Bool, ∃ x_23 : Int, ∃ x_3_a1 : Option Addr, ∃ x_3_l1 x_3_c1 : Nat, ∃ x_4_a3 : Option Addr, ∃ x_4_l3 x_4_c3 : Nat, cellsAt w6 (b3.add (at1.toNat * 5)) 0 [(.int .i64 x_03), (.bool x_13), (.int .i64 x_23), (.slice x_3_a1 x_3_l1 x_3_c1), (.slice x_4_a3 x_4_l3 x_4_c3)] ∧
          (Calls Try.prog N_receiver_piece_known #[(.agg #[.int .i64 x_02, .int .i64 x_12, .int .i64 x_22, .int .i64 x_31, .slice x_4_a2 x_4_l2 x_4_c2, .int .i64 x_51, .bool x_61]), (.agg #[.int .i64 x_03, .bool x_13, .int .i64 x_23, .slice x_3_a1 x_3_l1 x_3_c1, .slice x_4_a3 x_4_l3 x_4_c3])] w6 fun e_2 w7 =>
          ∃ r2 : Bool, e_2 = .returned (.bool r2) ∧
          (KeepsB S2 w6 w7 ∧ (bsplit r2
            (R (.int .i64 (12 : Int)) w7)
            (R (.int .i64 (0 : Int)) w7)))))))))))))))))))))))))))))))))))))))))
theorem F_receiver_side_refused_eq (s_b : Nat) (s_o : Nat) (p_0 : Int) (p_1 : Int) (p_2 : Int) (p_3 : Int) (p_4_a : Option Addr) (p_4_l : Nat) (p_4_c : Nat) (p_5 : Int) (p_6 : Bool) (at1 : Int) (found : Bool) (w : World) (R : Value → World → Prop) : sxFn Try.prog TT h_receiver_side_refused Try.f59 #[(.pointer (some ⟨s_b, s_o, none⟩)), (.agg #[.int .i64 p_0, .int .i64 p_1, .int .i64 p_2, .int .i64 p_3, .slice p_4_a p_4_l p_4_c, .int .i64 p_5, .bool p_6]), (.int .i64 at1), (.bool found)] w R = F_receiver_side_refused s_b s_o p_0 p_1 p_2 p_3 p_4_a p_4_l p_4_c p_5 p_6 at1 found w R := by kernel_rfl
theorem F_receiver_side_refused_ok {R : Ending → World → Prop} (s_b : Nat) (s_o : Nat) (p_0 : Int) (p_1 : Int) (p_2 : Int) (p_3 : Int) (p_4_a : Option Addr) (p_4_l : Nat) (p_4_c : Nat) (p_5 : Int) (p_6 : Bool) (at1 : Int) (found : Bool) (w : World) (h : F_receiver_side_refused s_b s_o p_0 p_1 p_2 p_3 p_4_a p_4_l p_4_c p_5 p_6 at1 found w fun v w' => R (.returned v) w') : Calls Try.prog N_receiver_side_refused #[(.pointer (some ⟨s_b, s_o, none⟩)), (.agg #[.int .i64 p_0, .int .i64 p_1, .int .i64 p_2, .int .i64 p_3, .slice p_4_a p_4_l p_4_c, .int .i64 p_5, .bool p_6]), (.int .i64 at1), (.bool found)] w R :=
  calls_of (f := 59) follows_ok Try.func59 (Eq.mpr (F_receiver_side_refused_eq s_b s_o p_0 p_1 p_2 p_3 p_4_a p_4_l p_4_c p_5 p_6 at1 found w _) h)

def h_receiver_side_poll : H := (.seq .reg (.seq .reg (.cond .reg .leaf)))
def F_receiver_side_poll (s_b : Nat) (s_o : Nat) (p_0 : Int) (p_1 : Int) (p_2 : Int) (p_3 : Int) (p_4_a : Option Addr) (p_4_l : Nat) (p_4_c : Nat) (w : World) (R : Value → World → Prop) : Prop :=
  (kAlloc w #[(.int .i64 p_0), (.int .i64 p_1), (.int .i64 p_2), (.int .i64 p_3), (.slice p_4_a p_4_l p_4_c)] Ty_api_Piece fun b w1 =>
  (kLd w1 ⟨b, 2, none⟩ .i64 fun x =>
  (bsplit (decide (x = (1 : Int)))
    ((kLd w1 ⟨s_b, s_o + 7, none⟩ .i64 fun x1 =>
    (kSet w1 ⟨s_b, s_o + 12, none⟩ (.bool true) fun w2 =>
    (kSet w2 ⟨s_b, s_o + 8, none⟩ (.int .i64 x1) fun w3 =>
    R (.tuple #[]) w3))))
    (R (.tuple #[]) w1))))
theorem F_receiver_side_poll_eq (s_b : Nat) (s_o : Nat) (p_0 : Int) (p_1 : Int) (p_2 : Int) (p_3 : Int) (p_4_a : Option Addr) (p_4_l : Nat) (p_4_c : Nat) (w : World) (R : Value → World → Prop) : sxFn Try.prog TT h_receiver_side_poll Try.f60 #[(.pointer (some ⟨s_b, s_o, none⟩)), (.agg #[.int .i64 p_0, .int .i64 p_1, .int .i64 p_2, .int .i64 p_3, .slice p_4_a p_4_l p_4_c])] w R = F_receiver_side_poll s_b s_o p_0 p_1 p_2 p_3 p_4_a p_4_l p_4_c w R := by kernel_rfl
theorem F_receiver_side_poll_ok {R : Ending → World → Prop} (s_b : Nat) (s_o : Nat) (p_0 : Int) (p_1 : Int) (p_2 : Int) (p_3 : Int) (p_4_a : Option Addr) (p_4_l : Nat) (p_4_c : Nat) (w : World) (h : F_receiver_side_poll s_b s_o p_0 p_1 p_2 p_3 p_4_a p_4_l p_4_c w fun v w' => R (.returned v) w') : Calls Try.prog N_receiver_side_poll #[(.pointer (some ⟨s_b, s_o, none⟩)), (.agg #[.int .i64 p_0, .int .i64 p_1, .int .i64 p_2, .int .i64 p_3, .slice p_4_a p_4_l p_4_c])] w R :=
  calls_of (f := 60) follows_ok Try.func60 (Eq.mpr (F_receiver_side_poll_eq s_b s_o p_0 p_1 p_2 p_3 p_4_a p_4_l p_4_c w _) h)

def h_slices_Insert_Sapi_Partial_api_Partial : H := (.seq .reg (.seq .reg (.seq .reg (.seq (.seq .reg (.cond (.seq .reg .leaf) .leaf)) (.seq .reg (.seq (.seq .reg (.cond (.seq .reg .leaf) .leaf)) (.seq (.seq .reg (.cond (.seq .reg (.seq .reg (.seq (.draw .no (.one 0 .pre (.one 1 .pre (.one 2 .pre (.one 3 .pre (.one 4 .pre (.one 5 .pre (.one 6 .pre (.one 7 .pre (.one 8 .last .nil)))))))))) (.seq .reg .leaf)))) .leaf)) (.seq .reg (.seq (.seq .reg (.cond (.seq (.draw .no (.one 0 .pre (.one 1 .pre (.one 2 .pre (.one 3 .pre (.one 4 .pre (.one 5 .pre (.one 6 .pre (.one 7 .pre (.one 8 .last .nil)))))))))) (.seq .reg (.seq .reg .leaf))) .leaf)) (.seq .reg (.seq .reg (.seq .reg .leaf))))))))))))
def F_slices_Insert_Sapi_Partial_api_Partial (s_a : Option Addr) (s_l : Nat) (s_c : Nat) (i : Int) (v_a : Option Addr) (v_l : Nat) (v_c : Nat) (w : World) (R : Value → World → Prop) : Prop :=
  ((0 ≤ i ∧ i ≤ ((s_l : Nat) : Int)) ∧ (bsplit (decide ((v_l : Int) = (0 : Int)))
    (R (.slice s_a s_l s_c) w)
    ((bsplit (decide (i = (s_l : Int)))
      ((AppP Try.prog #[Ty_S_api_Partial, Ty_S_api_Partial] Ty_S_api_Partial #[(.slice s_a s_l s_c), (.slice v_a v_l v_c)] w fun x_a x_l x_c w1 =>
      R (.slice x_a x_l x_c) w1))
      ((kW .i64 ((s_l : Int) + (v_l : Int)) fun x =>
      (bsplit (decide (x > (s_c : Int)))
        (((0 ≤ i ∧ i ≤ ((s_c : Nat) : Int)) ∧ (kW .i64 ((s_l : Int) + (v_l : Int)) fun x1 =>
        (kW .i64 (x1 - i) fun x2 =>
        (AppP Try.prog #[Ty_S_api_Partial, Ty_int] Ty_S_api_Partial #[(.slice (slAddr s_c 0 5 s_a) (i.toNat - 0) (s_c - 0)), (.int .i64 x2)] w fun x_a1 x_l1 x_c1 w2 =>
        ((0 ≤ i ∧ i ≤ ((x_l1 : Nat) : Int)) ∧ (CopyP Try.prog #[Ty_S_api_Partial, Ty_S_api_Partial] Ty_int #[(.slice (slAddr x_c1 (i.toNat) 5 x_a1) (x_l1 - i.toNat) (x_c1 - i.toNat)), (.slice v_a v_l v_c)] w2 fun _ w3 =>
        (kDrew w3 fun w4 =>
        (kW .i64 (i + (v_l : Int)) fun x3 =>
        ((0 ≤ x3 ∧ x3 ≤ ((x_l1 : Nat) : Int)) ∧ ((0 ≤ i ∧ i ≤ ((s_l : Nat) : Int)) ∧ (CopyP Try.prog #[Ty_S_api_Partial, Ty_S_api_Partial] Ty_int #[(.slice (slAddr x_c1 (x3.toNat) 5 x_a1) (x_l1 - x3.toNat) (x_c1 - x3.toNat)), (.slice (slAddr s_c (i.toNat) 5 s_a) (s_l - i.toNat) (s_c - i.toNat))] w4 fun _ w5 =>
        R (.slice x_a1 x_l1 x_c1) w5))))))))))))
        ((kW .i64 ((s_l : Int) + (v_l : Int)) fun x4 =>
        ((0 ≤ x4 ∧ x4 ≤ ((s_c : Nat) : Int)) ∧ (kW .i64 (i + (v_l : Int)) fun x5 =>
        ((0 ≤ x5 ∧ x5 ≤ (((x4.toNat - 0) : Nat) : Int)) ∧ (ExtC Try.prog N_slices_overlaps_api_Partial #[(.slice v_a v_l v_c), (.slice (slAddr (s_c - 0) (x5.toNat) 5 (slAddr s_c 0 5 s_a)) ((x4.toNat - 0) - x5.toNat) ((s_c - 0) - x5.toNat))] w fun e_ w6 =>
        ∃ r : Bool, e_ = .returned (.bool r) ∧
        (bsplit (!r)
          ((kDrew w6 fun w7 =>
          (kW .i64 (i + (v_l : Int)) fun x6 =>
          ((0 ≤ x6 ∧ x6 ≤ (((x4.toNat - 0) : Nat) : Int)) ∧ ((0 ≤ i ∧ i ≤ (((x4.toNat - 0) : Nat) : Int)) ∧ (CopyP Try.prog #[Ty_S_api_Partial, Ty_S_api_Partial] Ty_int #[(.slice (slAddr (s_c - 0) (x6.toNat) 5 (slAddr s_c 0 5 s_a)) ((x4.toNat - 0) - x6.toNat) ((s_c - 0) - x6.toNat)), (.slice (slAddr (s_c - 0) (i.toNat) 5 (slAddr s_c 0 5 s_a)) ((x4.toNat - 0) - i.toNat) ((s_c - 0) - i.toNat))] w7 fun _ w8 =>
          ((0 ≤ i ∧ i ≤ (((x4.toNat - 0) : Nat) : Int)) ∧ (CopyP Try.prog #[Ty_S_api_Partial, Ty_S_api_Partial] Ty_int #[(.slice (slAddr (s_c - 0) (i.toNat) 5 (slAddr s_c 0 5 s_a)) ((x4.toNat - 0) - i.toNat) ((s_c - 0) - i.toNat)), (.slice v_a v_l v_c)] w8 fun _ w9 =>
          R (.slice (slAddr s_c 0 5 s_a) (x4.toNat - 0) (s_c - 0)) w9))))))))
          (((0 ≤ (s_l : Int) ∧ (s_l : Int) ≤ (((x4.toNat - 0) : Nat) : Int)) ∧ (CopyP Try.prog #[Ty_S_api_Partial, Ty_S_api_Partial] Ty_int #[(.slice (slAddr (s_c - 0) ((s_l : Int).toNat) 5 (slAddr s_c 0 5 s_a)) ((x4.toNat - 0) - (s_l : Int).toNat) ((s_c - 0) - (s_l : Int).toNat)), (.slice v_a v_l v_c)] w6 fun _ w10 =>
          ((0 ≤ i ∧ i ≤ (((x4.toNat - 0) : Nat) : Int)) ∧ (Calls Try.prog N_slices_rotateRight_api_Partial #[(.slice (slAddr (s_c - 0) (i.toNat) 5 (slAddr s_c 0 5 s_a)) ((x4.toNat - 0) - i.toNat) ((s_c - 0) - i.toNat)), (.int .i64 (v_l : Int))] w10 fun e_1 w11 =>
          e_1 = .returned (.tuple #[]) ∧
          R (.slice (slAddr s_c 0 5 s_a) (x4.toNat - 0) (s_c - 0)) w11)))))))))))))))))))
theorem F_slices_Insert_Sapi_Partial_api_Partial_eq (s_a : Option Addr) (s_l : Nat) (s_c : Nat) (i : Int) (v_a : Option Addr) (v_l : Nat) (v_c : Nat) (w : World) (R : Value → World → Prop) : sxFn Try.prog TT h_slices_Insert_Sapi_Partial_api_Partial Try.f61 #[(.slice s_a s_l s_c), (.int .i64 i), (.slice v_a v_l v_c)] w R = F_slices_Insert_Sapi_Partial_api_Partial s_a s_l s_c i v_a v_l v_c w R := by kernel_rfl
theorem F_slices_Insert_Sapi_Partial_api_Partial_ok {R : Ending → World → Prop} (s_a : Option Addr) (s_l : Nat) (s_c : Nat) (i : Int) (v_a : Option Addr) (v_l : Nat) (v_c : Nat) (w : World) (h : F_slices_Insert_Sapi_Partial_api_Partial s_a s_l s_c i v_a v_l v_c w fun v w' => R (.returned v) w') : Calls Try.prog N_slices_Insert_Sapi_Partial_api_Partial #[(.slice s_a s_l s_c), (.int .i64 i), (.slice v_a v_l v_c)] w R :=
  calls_of (f := 61) follows_ok Try.func61 (Eq.mpr (F_slices_Insert_Sapi_Partial_api_Partial_eq s_a s_l s_c i v_a v_l v_c w _) h)

def h_receiver_side_behind : H := (.seq .reg (.seq .reg .leaf))
def F_receiver_side_behind (s_b : Nat) (s_o : Nat) (n : Int) (w : World) (R : Value → World → Prop) : Prop :=
  (kLd w ⟨s_b, s_o, none⟩ .i64 fun x =>
  (kW .i64 (n + (1 : Int)) fun x1 =>
  (Calls Try.prog N_serial_Low #[(.int .i64 x), (.int .i64 x1)] w fun e_ w1 =>
  ∃ r : Int, e_ = .returned (.int .i64 r) ∧
  R (.int .i64 r) w1)))
theorem F_receiver_side_behind_eq (s_b : Nat) (s_o : Nat) (n : Int) (w : World) (R : Value → World → Prop) : sxFn Try.prog TT h_receiver_side_behind Try.f62 #[(.pointer (some ⟨s_b, s_o, none⟩)), (.int .i64 n)] w R = F_receiver_side_behind s_b s_o n w R := by kernel_rfl
theorem F_receiver_side_behind_ok {R : Ending → World → Prop} (s_b : Nat) (s_o : Nat) (n : Int) (w : World) (h : F_receiver_side_behind s_b s_o n w fun v w' => R (.returned v) w') : Calls Try.prog N_receiver_side_behind #[(.pointer (some ⟨s_b, s_o, none⟩)), (.int .i64 n)] w R :=
  calls_of (f := 62) follows_ok Try.func62 (Eq.mpr (F_receiver_side_behind_eq s_b s_o n w _) h)

def h_receiver_piece_put : H := (.seq .reg (.cut [] [4, 5, 6, 7, 8, 9, 10, 11, 12, 13, 14, 15, 16, 17, 18, 19, 20, 21, 22, 23] (.seq (.draw .no (.one 0 .pur (.one 1 .stable (.one 2 .pur (.one 3 .pur (.one 4 .pur (.one 5 .stable (.one 6 .pur (.one 7 .pur (.one 8 .pur .nil)))))))))) (.seq .reg (.cond .reg .leaf))) (.seq (.draw .no (.one 0 .pur (.one 1 .pur (.one 2 .pur (.one 3 .pre (.one 4 .pur (.one 5 .pur (.one 6 .pre (.one 7 .pur (.one 8 .pur (.one 9 .pur (.one 10 .pre (.one 11 .last .nil))))))))))))) (.seq (.draw .blk (.one 0 .pur (.one 1 .pur (.one 2 .pur (.one 3 .pur (.one 4 .stable (.one 5 .pur (.one 6 .pur (.one 7 .pre (.one 8 .pur (.one 9 .pur (.one 10 .pre (.one 11 .pur (.one 12 .pre (.one 13 .keep (.one 14 .last (.one 15 .pur (.one 16 .pur (.one 17 .pur (.one 18 .pur (.one 19 .pur (.one 20 .last .nil)))))))))))))))))))))) (.seq .reg (.cond .reg .leaf))))))
def F_receiver_piece_put (p_0 : Int) (p_1 : Int) (p_2 : Int) (p_3 : Int) (p_4_a : Option Addr) (p_4_l : Nat) (p_4_c : Nat) (p_5 : Int) (p_6 : Bool) (x_b : Nat) (x_o : Nat) (w : World) (R : Value → World → Prop) : Prop :=
  (kAlloc w #[(.int .i64 p_0), (.int .i64 p_1), (.int .i64 p_2), (.int .i64 p_3), (.slice p_4_a p_4_l p_4_c), (.int .i64 p_5), (.bool p_6)] Ty_receiver_piece fun b w1 =>
  (∃ J : World → Prop,
  (∀ (_junk : Env)  (w5 : World), J w5 →
    (kDrew w5 fun w6 =>
    (kLdS w6 ⟨x_b, x_o + 3, none⟩ fun x_a3 x_l3 x_c3 =>
    (kLd w6 ⟨b, 3, none⟩ .i64 fun x2 =>
    ((0 ≤ x2 ∧ x2 ≤ ((x_l3 : Nat) : Int)) ∧ (kLdS w6 ⟨b, 4, none⟩ fun x_a4 x_l4 x_c4 =>
    (CopyP Try.prog #[Ty_S_uint8, Ty_S_uint8] Ty_int #[(.slice (slAddr x_c3 (x2.toNat) 1 x_a3) (x_l3 - x2.toNat) (x_c3 - x2.toNat)), (.slice x_a4 x_l4 x_c4)] w6 fun _ w7 =>
    (kDrew w7 fun w8 =>
    (∃ S : Nat → Prop,
    (S x_b ∧
    (kLdS w8 ⟨x_b, x_o + 4, none⟩ fun x_a5 x_l5 x_c5 =>
    (kLd w8 ⟨b, 0, none⟩ .i64 fun x3 =>
    (kLd w8 ⟨b, 3, none⟩ .i64 fun x4 =>
    (kLd w8 ⟨b, 5, none⟩ .i64 fun x5 =>
    (KeepsB S w8 w8 ∧ (Calls Try.prog N_segment_Union #[(.slice x_a5 x_l5 x_c5), (.agg #[.int .i64 x3, .int .i64 x4, .int .i64 x5])] w8 fun e_ w9 =>
    ∃ r_a : Option Addr, ∃ r_l r_c : Nat, ∃ r : Int, e_ = .returned (.tuple #[(.slice r_a r_l r_c), (.int .i64 r)]) ∧
    (kSet w9 ⟨x_b, x_o + 4, none⟩ (.slice r_a r_l r_c) fun w10 =>
    (kLdB w10 ⟨b, 6, none⟩ fun x6 =>
    (bsplit x6
      ((kLd w10 ⟨b, 5, none⟩ .i64 fun x7 =>
      (kSet w10 ⟨x_b, x_o + 2, none⟩ (.int .i64 x7) fun w11 =>
      R (.tuple #[]) w11)))
      (R (.tuple #[]) w10)))))))))))))))))))) ∧
  (kDrew w1 fun w2 =>
  (kLd w2 ⟨b, 5, none⟩ .i64 fun x =>
  (kLdS w2 ⟨x_b, x_o + 3, none⟩ fun _ x_l _ =>
  (kW .i64 (x - (x_l : Int)) fun x1 =>
  (bsplit (decide (x1 > (0 : Int)))
    ((kLdS w2 ⟨x_b, x_o + 3, none⟩ fun x_a1 x_l1 x_c1 =>
    (AppP Try.prog #[Ty_S_uint8, Ty_int] Ty_S_uint8 #[(.slice x_a1 x_l1 x_c1), (.int .i64 x1)] w2 fun x_a2 x_l2 x_c2 w3 =>
    (kSet w3 ⟨x_b, x_o + 3, none⟩ (.slice x_a2 x_l2 x_c2) fun w4 =>
    J w4))))
    (J w2))))))))
theorem F_receiver_piece_put_eq (p_0 : Int) (p_1 : Int) (p_2 : Int) (p_3 : Int) (p_4_a : Option Addr) (p_4_l : Nat) (p_4_c : Nat) (p_5 : Int) (p_6 : Bool) (x_b : Nat) (x_o : Nat) (w : World) (R : Value → World → Prop) : sxFn Try.prog TT h_receiver_piece_put Try.f63 #[(.agg #[.int .i64 p_0, .int .i64 p_1, .int .i64 p_2, .int .i64 p_3, .slice p_4_a p_4_l p_4_c, .int .i64 p_5, .bool p_6]), (.pointer (some ⟨x_b, x_o, none⟩))] w R = F_receiver_piece_put p_0 p_1 p_2 p_3 p_4_a p_4_l p_4_c p_5 p_6 x_b x_o w R := by kernel_rfl
theorem F_receiver_piece_put_ok {R : Ending → World → Prop} (p_0 : Int) (p_1 : Int) (p_2 : Int) (p_3 : Int) (p_4_a : Option Addr) (p_4_l : Nat) (p_4_c : Nat) (p_5 : Int) (p_6 : Bool) (x_b : Nat) (x_o : Nat) (w : World) (h : F_receiver_piece_put p_0 p_1 p_2 p_3 p_4_a p_4_l p_4_c p_5 p_6 x_b x_o w fun v w' => R (.returned v) w') : Calls Try.prog N_receiver_piece_put #[(.agg #[.int .i64 p_0, .int .i64 p_1, .int .i64 p_2, .int .i64 p_3, .slice p_4_a p_4_l p_4_c, .int .i64 p_5, .bool p_6]), (.pointer (some ⟨x_b, x_o, none⟩))] w R :=
  calls_of (f := 63) follows_ok Try.func63 (Eq.mpr (F_receiver_piece_put_eq p_0 p_1 p_2 p_3 p_4_a p_4_l p_4_c p_5 p_6 x_b x_o w _) h)

def h_receiver_complete : H := (.seq .reg (.seq (.draw .no (.one 0 .stable (.one 1 .stable (.one 2 .stable (.one 3 .stable (.one 4 .stable (.one 5 .stable (.one 6 .stable (.one 7 .stable (.one 8 .stable (.one 9 .stable (.one 10 .stable (.one 11 .stable (.one 12 .stable (.one 13 .stable (.one 14 .stable (.one 15 .stable (.one 16 .stable (.one 17 .stable (.one 18 .stable (.one 19 .stable (.one 20 .stable (.one 21 .stable (.one 22 .stable (.one 23 .stable (.one 24 .stable (.one 25 .stable (.one 26 .stable (.one 27 .stable .nil))))))))))))))))))))))))))))) .leaf))
def F_receiver_complete (p_0 : Int) (p_1 : Bool) (p_2 : Int) (p_3_a : Option Addr) (p_3_l : Nat) (p_3_c : Nat) (p_4_a : Option Addr) (p_4_l : Nat) (p_4_c : Nat) (w : World) (R : Value → World → Prop) : Prop :=
  (kAlloc w #[(.int .i64 p_0), (.bool p_1), (.int .i64 p_2), (.slice p_3_a p_3_l p_3_c), (.slice p_4_a p_4_l p_4_c)] Ty_api_Partial fun b w1 =>
  (kDrew w1 fun w2 =>
  (kLd w2 ⟨b, 2, none⟩ .i64 fun x =>
  (bsplit (decide (x > (0 : Int)))
    ((kLdS w2 ⟨b, 4, none⟩ fun _ x_l _ =>
    (bsplit (decide ((x_l : Int) = (1 : Int)))
      ((kLdS w2 ⟨b, 4, none⟩ fun x_a1 x_l1 _ =>
      (kIx x_a1 x_l1 (0 : Int) fun b1 =>
      (kLd w2 ((b1.add ((0 : Int).toNat * 3)).add 1) .i64 fun x1 =>
      (bsplit (decide (x1 = (0 : Int)))
        ((kLdS w2 ⟨b, 4, none⟩ fun x_a2 x_l2 _ =>
        (kIx x_a2 x_l2 (0 : Int) fun b2 =>
        (kLd w2 ((b2.add ((0 : Int).toNat * 3)).add 2) .i64 fun x2 =>
        (kLd w2 ⟨b, 2, none⟩ .i64 fun x3 =>
        (kLet (decide (x2 = x3)) fun x4 =>
        R (.bool x4) w2))))))
        (R (.bool false) w2))))))
      (R (.bool false) w2))))
    (R (.bool false) w2)))))
theorem F_receiver_complete_eq (p_0 : Int) (p_1 : Bool) (p_2 : Int) (p_3_a : Option Addr) (p_3_l : Nat) (p_3_c : Nat) (p_4_a : Option Addr) (p_4_l : Nat) (p_4_c : Nat) (w : World) (R : Value → World → Prop) : sxFn Try.prog TT h_receiver_complete Try.f64 #[(.agg #[.int .i64 p_0, .bool p_1, .int .i64 p_2, .slice p_3_a p_3_l p_3_c, .slice p_4_a p_4_l p_4_c])] w R = F_receiver_complete p_0 p_1 p_2 p_3_a p_3_l p_3_c p_4_a p_4_l p_4_c w R := by kernel_rfl
theorem F_receiver_complete_ok {R : Ending → World → Prop} (p_0 : Int) (p_1 : Bool) (p_2 : Int) (p_3_a : Option Addr) (p_3_l : Nat) (p_3_c : Nat) (p_4_a : Option Addr) (p_4_l : Nat) (p_4_c : Nat) (w : World) (h : F_receiver_complete p_0 p_1 p_2 p_3_a p_3_l p_3_c p_4_a p_4_l p_4_c w fun v w' => R (.returned v) w') : Calls Try.prog N_receiver_complete #[(.agg #[.int .i64 p_0, .bool p_1, .int .i64 p_2, .slice p_3_a p_3_l p_3_c, .slice p_4_a p_4_l p_4_c])] w R :=
  calls_of (f := 64) follows_ok Try.func64 (Eq.mpr (F_receiver_complete_eq p_0 p_1 p_2 p_3_a p_3_l p_3_c p_4_a p_4_l p_4_c w _) h)

def h_receiver_side_advance : H := (.cut [] [2, 3, 4, 5, 6, 7, 8, 9, 10, 11, 12, 13, 14, 15, 16, 17, 18, 19, 20, 21, 22, 23, 24, 25, 26, 27, 28, 29, 30, 31, 32, 33, 34, 35, 36, 37, 38, 39, 40, 41, 42, 43, 44, 45, 46, 47, 48, 49, 50, 51, 52, 53, 54, 55] (.block (.loopG [] [2, 3, 4, 5, 6, 7, 8, 9, 10, 11, 12, 13, 14, 15, 16, 17, 18, 19, 20, 21, 22, 23, 24, 25, 26, 27, 28, 29, 30, 31, 32, 33, 34, 35, 36, 37, 38, 39, 40, 41, 42, 43, 44, 45, 46, 47, 48, 49, 50, 51, 52, 53, 54, 55] (.cut [] [2, 3, 4, 5, 6, 7, 8, 9, 10, 11, 12, 13, 14, 15, 16, 17, 18, 19, 20, 21, 22, 23, 24, 25, 26, 27, 28, 29, 30, 31, 32, 33, 34] (.seq (.draw .no (.one 0 .stable (.one 1 .stable (.one 2 .stable (.one 3 .stable (.one 4 .stable (.one 5 .stable (.one 6 .stable (.one 7 .stable (.one 8 .stable (.one 9 .stable (.one 10 .stable (.one 11 .stable (.one 12 .stable (.one 13 .stable (.one 14 .stable (.one 15 .stable (.one 16 .stable (.one 17 .stable (.one 18 .stable (.one 19 .stable (.one 20 .stable (.one 21 .stable (.one 22 .stable (.one 23 .stable (.one 24 .stable (.one 25 .stable (.one 26 .stable (.one 27 .stable (.one 28 .stable (.one 29 .stable (.one 30 .stable (.one 31 .stable (.one 32 .stable .nil)))))))))))))))))))))))))))))))))) (.cond .leaf .leaf)) (.block (.seq .reg .reg))))) (.seq (.draw .blk (.one 0 .pre (.one 1 .pre (.one 2 .pre (.one 3 .pre (.one 4 .pre (.one 5 .pre (.one 7 .stable (.one 8 .stable (.one 9 .stable (.one 10 .stable (.one 11 .stable (.one 12 .stable (.one 6 .keep (.one 13 .keep (.one 14 .stable .nil)))))))))))))))) (.cond .reg .leaf)))
def F_receiver_side_advance (s_b : Nat) (s_o : Nat) (w : World) (R : Value → World → Prop) : Prop :=
  (∃ J : World → Prop,
  (∀ (_junk : Env)  (w7 : World), J w7 →
    (kDrew w7 fun w8 =>
    (∃ S : Nat → Prop,
    (kLd w8 ⟨s_b, s_o + 8, none⟩ .i64 fun x4 =>
    (S s_b ∧
    (kLd w8 ⟨s_b, s_o + 7, none⟩ .i64 fun x5 =>
    (Calls Try.prog N_receiver_side_place #[(.pointer (some ⟨s_b, s_o, none⟩)), (.int .i64 x4)] w8 fun e_1 w9 =>
    ∃ r1 : Int, e_1 = .returned (.int .i64 r1) ∧
    (KeepsB S w8 w9 ∧ (Calls Try.prog N_receiver_side_place #[(.pointer (some ⟨s_b, s_o, none⟩)), (.int .i64 x5)] w9 fun e_2 w10 =>
    ∃ r2 : Int, e_2 = .returned (.int .i64 r2) ∧
    (KeepsB S w8 w10 ∧ (bsplit (decide (r1 > r2))
      ((kLd w10 ⟨s_b, s_o + 6, none⟩ .i64 fun x6 =>
      (kSet w10 ⟨s_b, s_o + 8, none⟩ (.int .i64 x6) fun w11 =>
      R (.tuple #[]) w11)))
      (R (.tuple #[]) w10)))))))))))) ∧
  (∃ I : Nat → World → Prop, (∃ m' : Nat, I m' w) ∧
  (∀ (_junk : Env)  (m : Nat) (w1 : World), I m w1 →
    (∃ J1 : World → Prop,
    (∀ (_junk : Env)  (w3 : World), J1 w3 →
      (kLdS w3 ⟨s_b, s_o + 13, none⟩ fun x_a3 x_l3 x_c3 =>
      ((0 ≤ (1 : Int) ∧ (1 : Int) ≤ ((x_l3 : Nat) : Int)) ∧ (kSet w3 ⟨s_b, s_o + 13, none⟩ (.slice (slAddr x_c3 ((1 : Int).toNat) 5 x_a3) (x_l3 - (1 : Int).toNat) (x_c3 - (1 : Int).toNat)) fun w4 =>
      (kLd w4 ⟨s_b, s_o + 6, none⟩ .i64 fun x3 =>
      (Calls Try.prog N_receiver_side_behind #[(.pointer (some ⟨s_b, s_o, none⟩)), (.int .i64 x3)] w4 fun e_ w5 =>
      ∃ r : Int, e_ = .returned (.int .i64 r) ∧
      (kSet w5 ⟨s_b, s_o + 6, none⟩ (.int .i64 r) fun w6 =>
      (∃ m' : Nat, m' < m ∧ I m' w6)))))))) ∧
    (kDrew w1 fun w2 =>
    (kLdS w2 ⟨s_b, s_o + 13, none⟩ fun _ x_l _ =>
    (bsplit (decide ((x_l : Int) > (0 : Int)))
      ((kLdS w2 ⟨s_b, s_o + 13, none⟩ fun x_a1 x_l1 _ =>
      (kIx x_a1 x_l1 (0 : Int) fun b =>
      (kLd w2 (b.add ((0 : Int).toNat * 5)) .i64 fun x =>
      (kLd w2 ⟨s_b, s_o + 6, none⟩ .i64 fun x1 =>
      (bsplit (decide (x = x1))
        ((kLdS w2 ⟨s_b, s_o + 13, none⟩ fun x_a2 x_l2 _ =>
        (kIx x_a2 x_l2 (0 : Int) fun b1 =>
        (kLdB w2 ((b1.add ((0 : Int).toNat * 5)).add 1) fun x2 =>
        (bsplit x2
          (J1 w2)
          (J w2))))))
        (J w2)))))))
      (J w2))))))))
theorem F_receiver_side_advance_eq (s_b : Nat) (s_o : Nat) (w : World) (R : Value → World → Prop) : sxFn Try.prog TT h_receiver_side_advance Try.f65 #[(.pointer (some ⟨s_b, s_o, none⟩))] w R = F_receiver_side_advance s_b s_o w R := by kernel_rfl
theorem F_receiver_side_advance_ok {R : Ending → World → Prop} (s_b : Nat) (s_o : Nat) (w : World) (h : F_receiver_side_advance s_b s_o w fun v w' => R (.returned v) w') : Calls Try.prog N_receiver_side_advance #[(.pointer (some ⟨s_b, s_o, none⟩))] w R :=
  calls_of (f := 65) follows_ok Try.func65 (Eq.mpr (F_receiver_side_advance_eq s_b s_o w _) h)

def h_receiver_side_start : H := (.cut [] [2, 3, 4, 5, 6, 7, 8, 9, 10, 11, 12, 13, 14, 15, 16, 17, 18, 19, 20, 21, 22, 23, 24, 25, 26, 27, 28, 29, 30, 31, 32, 33, 34, 35, 36, 37, 38, 39, 40, 41, 42] (.cut [(34, .p .bool)] [2, 3, 4, 5, 6, 7, 8, 9, 10, 11, 12, 13, 14, 15, 16, 17, 18, 19, 20, 21, 22, 23, 24, 25, 26, 27, 28, 29, 30, 31, 32, 33, 34] (.draw .blk (.one 0 .pre (.one 1 .pre (.one 2 .pre (.one 3 .pre (.one 4 .pre (.one 5 .pre (.one 6 .pre (.one 7 .pre (.one 8 .pre (.one 9 .pre (.one 10 .pre (.one 11 .pre (.one 12 .pre (.one 13 .keep (.one 14 .stable (.one 15 .stable (.one 16 .stable (.one 17 .stable (.one 18 .stable (.one 19 .stable (.one 20 .stable (.one 21 .stable (.one 23 .stable (.one 24 .stable (.one 25 .stable (.one 26 .stable (.one 27 .stable (.one 28 .stable (.one 22 .keep (.one 29 .keep (.one 30 .stable (.one 31 .stable (.one 32 .stable .nil)))))))))))))))))))))))))))))))))) (.cond .reg .leaf)) (.cut [(61, .p .bool)] [43, 44, 45, 46, 47, 48, 49, 50, 51, 52, 53, 54, 55, 56, 57, 58, 59, 60, 61] (.draw .no (.one 0 .stable (.one 1 .stable (.one 2 .stable (.one 3 .stable (.one 4 .stable (.one 5 .stable (.one 6 .stable (.one 7 .stable (.one 8 .stable (.one 9 .stable (.one 10 .stable (.one 11 .stable (.one 12 .stable (.one 13 .stable (.one 14 .stable (.one 15 .stable (.one 16 .stable (.one 17 .stable (.one 18 .stable .nil)))))))))))))))))))) (.cond (.draw .blk (.one 0 .pre (.one 1 .stable (.one 2 .pre (.one 3 .pre (.one 4 .pre (.one 5 .pre (.one 6 .pre (.one 7 .pre (.one 8 .pre (.one 9 .pre (.one 10 .pre (.one 11 .pre (.one 12 .pre (.one 13 .pre (.one 14 .pre (.one 15 .pre (.one 16 .keep (.one 17 .stable (.one 18 .stable (.one 19 .stable (.one 20 .last .nil)))))))))))))))))))))) .leaf)))
def F_receiver_side_start (s_b : Nat) (s_o : Nat) (w : World) (R : Value → World → Prop) : Prop :=
  (∃ J : World → Prop,
  (∀ (_junk : Env)  (w8 : World), J w8 →
    (∃ J2 : Bool → World → Prop,
    (∀ (_junk : Env) (x8 : Bool) (w10 : World), J2 x8 w10 →
      (bsplit x8
        ((kDrew w10 fun w11 =>
        (∃ S1 : Nat → Prop,
        (kLd w11 ⟨s_b, s_o + 7, none⟩ .i64 fun x9 =>
        (kLd w11 ⟨s_b, s_o + 3, none⟩ .i64 fun x10 =>
        (kSet w11 ⟨s_b, s_o + 9, none⟩ (.int .i64 x9) fun w12 =>
        (KeepsB S1 w11 w12 ∧ (kSet w12 ⟨s_b, s_o + 10, none⟩ (.int .i64 x10) fun w13 =>
        R (.tuple #[]) w13))))))))
        (R (.tuple #[]) w10))) ∧
    (kDrew w8 fun w9 =>
    (kLd w9 ⟨s_b, s_o + 9, none⟩ .i64 fun x5 =>
    (bsplit (decide (x5 = (-1 : Int)))
      ((kLd w9 ⟨s_b, s_o + 6, none⟩ .i64 fun x6 =>
      (kLd w9 ⟨s_b, s_o + 7, none⟩ .i64 fun x7 =>
      J2 (!decide (x6 = x7)) w9)))
      (J2 false w9)))))) ∧
  (∃ J1 : Bool → World → Prop,
  (∀ (_junk : Env) (x4 : Bool) (w5 : World), J1 x4 w5 →
    (bsplit x4
      ((kSet w5 ⟨s_b, s_o + 9, none⟩ (.int .i64 (-1 : Int)) fun w6 =>
      (kSet w6 ⟨s_b, s_o + 10, none⟩ (.int .i64 (0 : Int)) fun w7 =>
      J w7)))
      (J w5))) ∧
  (kDrew w fun w1 =>
  (∃ S : Nat → Prop,
  (kLd w1 ⟨s_b, s_o + 9, none⟩ .i64 fun x =>
  (bsplit (!decide (x = (-1 : Int)))
    ((kLd w1 ⟨s_b, s_o + 9, none⟩ .i64 fun x1 =>
    (Calls Try.prog N_receiver_side_place #[(.pointer (some ⟨s_b, s_o, none⟩)), (.int .i64 x1)] w1 fun e_ w2 =>
    ∃ r : Int, e_ = .returned (.int .i64 r) ∧
    (KeepsB S w1 w2 ∧ (bsplit (decide (r = (0 : Int)))
      (J1 true w2)
      ((S s_b ∧
      (kLd w1 ⟨s_b, s_o + 9, none⟩ .i64 fun x2 =>
      (S s_b ∧
      (kLd w1 ⟨s_b, s_o + 7, none⟩ .i64 fun x3 =>
      (Calls Try.prog N_receiver_side_place #[(.pointer (some ⟨s_b, s_o, none⟩)), (.int .i64 x2)] w2 fun e_1 w3 =>
      ∃ r1 : Int, e_1 = .returned (.int .i64 r1) ∧
      (KeepsB S w1 w3 ∧ (Calls Try.prog N_receiver_side_place #[(.pointer (some ⟨s_b, s_o, none⟩)), (.int .i64 x3)] w3 fun e_2 w4 =>
      ∃ r2 : Int, e_2 = .returned (.int .i64 r2) ∧
      (KeepsB S w1 w4 ∧ J1 (decide (r1 > r2)) w4))))))))))))))
    (J1 false w1)))))))
theorem F_receiver_side_start_eq (s_b : Nat) (s_o : Nat) (w : World) (R : Value → World → Prop) : sxFn Try.prog TT h_receiver_side_start Try.f66 #[(.pointer (some ⟨s_b, s_o, none⟩))] w R = F_receiver_side_start s_b s_o w R := by kernel_rfl
theorem F_receiver_side_start_ok {R : Ending → World → Prop} (s_b : Nat) (s_o : Nat) (w : World) (h : F_receiver_side_start s_b s_o w fun v w' => R (.returned v) w') : Calls Try.prog N_receiver_side_start #[(.pointer (some ⟨s_b, s_o, none⟩))] w R :=
  calls_of (f := 66) follows_ok Try.func66 (Eq.mpr (F_receiver_side_start_eq s_b s_o w _) h)

def h_slices_IndexFunc_SSbyte_Sbyte : H := (.seq .reg (.seq (.seq .reg (.block (.loop [(8, .p (.int .i64))] [4, 5, 8, 9, 10, 11, 12, 13, 14, 15, 16, 17, 18] (.seq .reg (.seq (.cond .leaf .leaf) (.seq (.block (.seq .reg (.seq .reg (.cond (.seq .reg .leaf) .leaf)))) .reg)))))) (.seq .reg .leaf)))
def F_slices_IndexFunc_SSbyte_Sbyte (s_a : Option Addr) (s_l : Nat) (_ : Nat) (f_g : Nat) (f_f : Array Value) (f_c : Array Value) (w : World) (R : Value → World → Prop) : Prop :=
  (∃ I : Int → Nat × (World → Prop), (I (0 : Int)).2 w ∧
  (∀ (_junk : Env) (x : Int) (w1 : World), (I x).2 w1 →
    (bsplit (decide (x < (s_l : Int)))
      ((kIx s_a s_l x fun b =>
      (kLdS w1 (b.add (x.toNat * 1)) fun x_a x_l x_c =>
      (okFn Try.prog f_g = true ∧ Calls Try.prog f_g (f_f ++ #[(.slice x_a x_l x_c)] ++ f_c) w1 fun e_ w2 =>
      ∃ r : Bool, e_ = .returned (.bool r) ∧
      (bsplit r
        (R (.int .i64 x) w2)
        ((kW .i64 (x + (1 : Int)) fun x1 =>
        ((I x1).2 w2 ∧ (I x1).1 < (I x).1))))))))
      (R (.int .i64 (-1 : Int)) w1))))
theorem F_slices_IndexFunc_SSbyte_Sbyte_eq (s_a : Option Addr) (s_l : Nat) (s_c : Nat) (f_g : Nat) (f_f : Array Value) (f_c : Array Value) (w : World) (R : Value → World → Prop) : sxFn Try.prog TT h_slices_IndexFunc_SSbyte_Sbyte Try.f67 #[(.slice s_a s_l s_c), (.func (.func f_g) f_f f_c)] w R = F_slices_IndexFunc_SSbyte_Sbyte s_a s_l s_c f_g f_f f_c w R := by kernel_rfl
theorem F_slices_IndexFunc_SSbyte_Sbyte_ok {R : Ending → World → Prop} (s_a : Option Addr) (s_l : Nat) (s_c : Nat) (f_g : Nat) (f_f : Array Value) (f_c : Array Value) (w : World) (h : F_slices_IndexFunc_SSbyte_Sbyte s_a s_l s_c f_g f_f f_c w fun v w' => R (.returned v) w') : Calls Try.prog N_slices_IndexFunc_SSbyte_Sbyte #[(.slice s_a s_l s_c), (.func (.func f_g) f_f f_c)] w R :=
  calls_of (f := 67) follows_ok Try.func67 (Eq.mpr (F_slices_IndexFunc_SSbyte_Sbyte_eq s_a s_l s_c f_g f_f f_c w _) h)

def h_sender_between : H := (.seq .reg (.seq .reg .leaf))
def F_sender_between (x : Int) (least : Int) (most : Int) (w : World) (R : Value → World → Prop) : Prop :=
  (bsplit (decide (x ≥ least))
    ((kLet (decide (x ≤ most)) fun x1 =>
    R (.bool x1) w))
    (R (.bool false) w))
theorem F_sender_between_eq (x : Int) (least : Int) (most : Int) (w : World) (R : Value → World → Prop) : sxFn Try.prog TT h_sender_between Try.f68 #[(.int .i64 x), (.int .i64 least), (.int .i64 most)] w R = F_sender_between x least most w R := by kernel_rfl
theorem F_sender_between_ok {R : Ending → World → Prop} (x : Int) (least : Int) (most : Int) (w : World) (h : F_sender_between x least most w fun v w' => R (.returned v) w') : Calls Try.prog N_sender_between #[(.int .i64 x), (.int .i64 least), (.int .i64 most)] w R :=
  calls_of (f := 68) follows_ok Try.func68 (Eq.mpr (F_sender_between_eq x least most w _) h)

def h_counter_Bits : H := (.seq .reg (.seq .reg .leaf))
def F_counter_Bits (bits : Int) (w : World) (R : Value → World → Prop) : Prop :=
  (bsplit (decide (bits ≥ (5 : Int)))
    ((kLet (decide (bits ≤ (9 : Int))) fun x =>
    R (.bool x) w))
    (R (.bool false) w))
theorem F_counter_Bits_eq (bits : Int) (w : World) (R : Value → World → Prop) : sxFn Try.prog TT h_counter_Bits Try.f69 #[(.int .i64 bits)] w R = F_counter_Bits bits w R := by kernel_rfl
theorem F_counter_Bits_ok {R : Ending → World → Prop} (bits : Int) (w : World) (h : F_counter_Bits bits w fun v w' => R (.returned v) w') : Calls Try.prog N_counter_Bits #[(.int .i64 bits)] w R :=
  calls_of (f := 69) follows_ok Try.func69 (Eq.mpr (F_counter_Bits_eq bits w _) h)

def h_ref15_Bits : H := (.seq .reg (.seq .reg .leaf))
def F_ref15_Bits (n : Int) (w : World) (R : Value → World → Prop) : Prop :=
  (bsplit (decide (n ≥ (5 : Int)))
    ((kLet (decide (n ≤ (9 : Int))) fun x =>
    R (.bool x) w))
    (R (.bool false) w))
theorem F_ref15_Bits_eq (n : Int) (w : World) (R : Value → World → Prop) : sxFn Try.prog TT h_ref15_Bits Try.f70 #[(.int .i64 n)] w R = F_ref15_Bits n w R := by kernel_rfl
theorem F_ref15_Bits_ok {R : Ending → World → Prop} (n : Int) (w : World) (h : F_ref15_Bits n w fun v w' => R (.returned v) w') : Calls Try.prog N_ref15_Bits #[(.int .i64 n)] w R :=
  calls_of (f := 70) follows_ok Try.func70 (Eq.mpr (F_ref15_Bits_eq n w _) h)

def h_ref18_Valid : H := (.seq .reg (.seq (.cut [(65, .p .bool)] [5, 6, 7, 8, 9, 10, 11, 12, 13, 14, 15, 16, 17, 18, 19, 20, 21, 22, 23, 24, 25, 26, 27, 28, 29, 30, 31, 32, 33, 34, 35, 36, 37, 38, 39, 40, 41, 42, 43, 44, 45, 46, 47, 48, 49, 50, 51, 52, 53, 54, 55, 56, 57, 58, 59, 60, 61, 62, 63, 64, 65] .reg (.cond (.seq .reg .leaf) .leaf)) (.seq (.seq .reg (.cond (.seq .reg .leaf) .leaf)) (.seq .reg .leaf))))
def F_ref18_Valid (bits : Int) (p_0 : Int) (p_1 : Int) (p_2 : Int) (p_3 : Int) (p_4_a : Option Addr) (p_4_l : Nat) (p_4_c : Nat) (w : World) (R : Value → World → Prop) : Prop :=
  (kAlloc w #[(.int .i64 p_0), (.int .i64 p_1), (.int .i64 p_2), (.int .i64 p_3), (.slice p_4_a p_4_l p_4_c)] Ty_api_Piece fun b w1 =>
  (∃ J : Bool → World → Prop,
  (∀ (_junk : Env) (x12 : Bool) (w3 : World), J x12 w3 →
    (bsplit x12
      (R (.bool false) w3)
      ((kLd w3 ⟨b, 1, none⟩ .i64 fun x13 =>
      (bsplit (decide (x13 = (0 : Int)))
        ((kLd w3 ⟨b, 3, none⟩ .i64 fun x14 =>
          (kLet (decide (x14 = (0 : Int))) fun x15 =>
          R (.bool x15) w3)))
        ((kLd w3 ⟨b, 1, none⟩ .i64 fun x18 =>
        (bsplit (decide (x18 = (1 : Int)))
          ((kLd w3 ⟨b, 3, none⟩ .i64 fun x19 =>
          (kLet (decide (x19 = (0 : Int))) fun x20 =>
          R (.bool x20) w3)))
          ((kLd w3 ⟨b, 3, none⟩ .i64 fun x21 =>
          (kLet (decide (x21 > (0 : Int))) fun x22 =>
          R (.bool x22) w3))))))))))) ∧
  (Calls Try.prog N_ref15_Bits #[(.int .i64 bits)] w1 fun e_ w2 =>
  ∃ r : Bool, e_ = .returned (.bool r) ∧
  (bsplit (!r)
    (J true w2)
    ((kLd w2 ⟨b, 0, none⟩ .i64 fun x =>
    (bsplit (decide (x < (0 : Int)))
      (J true w2)
      ((kLd w2 ⟨b, 0, none⟩ .i64 fun x1 =>
      (kW .u64 (bits) fun x2 =>
      (0 ≤ x2 ∧ (kW .i64 ((1 : Int) * 2 ^ (min x2.toNat (IntKind.bits .i64))) fun x3 =>
      (bsplit (decide (x1 ≥ x3))
        (J true w2)
        ((kLd w2 ⟨b, 1, none⟩ .i64 fun x4 =>
        (bsplit (decide (x4 < (0 : Int)))
          (J true w2)
          ((kLd w2 ⟨b, 1, none⟩ .i64 fun x5 =>
          (bsplit (decide (x5 > (3 : Int)))
            (J true w2)
            ((kLd w2 ⟨b, 2, none⟩ .i64 fun x6 =>
            (bsplit (decide (x6 < (0 : Int)))
              (J true w2)
              ((kLd w2 ⟨b, 2, none⟩ .i64 fun x7 =>
              (bsplit (decide (x7 > (1 : Int)))
                (J true w2)
                ((kLdS w2 ⟨b, 4, none⟩ fun _ x_l _ =>
                (bsplit (decide ((x_l : Int) < (1 : Int)))
                  (J true w2)
                  ((kLd w2 ⟨b, 3, none⟩ .i64 fun x8 =>
                  (bsplit (decide (x8 < (0 : Int)))
                    (J true w2)
                    ((kLd w2 ⟨b, 3, none⟩ .i64 fun x9 =>
                    (bsplit (decide (x9 > (2054 : Int)))
                      (J true w2)
                      ((kLd w2 ⟨b, 3, none⟩ .i64 fun x10 =>
                      (kLdS w2 ⟨b, 4, none⟩ fun _ x_l1 _ =>
                      (kW .i64 (x10 + (x_l1 : Int)) fun x11 =>
                      J (decide (x11 > (2054 : Int))) w2))))))))))))))))))))))))))))))))))))))
theorem F_ref18_Valid_eq (bits : Int) (p_0 : Int) (p_1 : Int) (p_2 : Int) (p_3 : Int) (p_4_a : Option Addr) (p_4_l : Nat) (p_4_c : Nat) (w : World) (R : Value → World → Prop) : sxFn Try.prog TT h_ref18_Valid Try.f71 #[(.int .i64 bits), (.agg #[.int .i64 p_0, .int .i64 p_1, .int .i64 p_2, .int .i64 p_3, .slice p_4_a p_4_l p_4_c])] w R = F_ref18_Valid bits p_0 p_1 p_2 p_3 p_4_a p_4_l p_4_c w R := by kernel_rfl
theorem F_ref18_Valid_ok {R : Ending → World → Prop} (bits : Int) (p_0 : Int) (p_1 : Int) (p_2 : Int) (p_3 : Int) (p_4_a : Option Addr) (p_4_l : Nat) (p_4_c : Nat) (w : World) (h : F_ref18_Valid bits p_0 p_1 p_2 p_3 p_4_a p_4_l p_4_c w fun v w' => R (.returned v) w') : Calls Try.prog N_ref18_Valid #[(.int .i64 bits), (.agg #[.int .i64 p_0, .int .i64 p_1, .int .i64 p_2, .int .i64 p_3, .slice p_4_a p_4_l p_4_c])] w R :=
  calls_of (f := 71) follows_ok Try.func71 (Eq.mpr (F_ref18_Valid_eq bits p_0 p_1 p_2 p_3 p_4_a p_4_l p_4_c w _) h)

def h_ref18_Head : H := (.seq .reg (.seq (.seq .reg (.cond (.seq .reg .leaf) .leaf)) (.seq .reg .leaf)))
def F_ref18_Head (part : Int) (w : World) (R : Value → World → Prop) : Prop :=
  (bsplit (decide (part = (0 : Int)))
    (R (.int .i64 (2 : Int)) w)
    ((bsplit (decide (part = (1 : Int)))
      (R (.int .i64 (2 : Int)) w)
      (R (.int .i64 (4 : Int)) w))))
theorem F_ref18_Head_eq (part : Int) (w : World) (R : Value → World → Prop) : sxFn Try.prog TT h_ref18_Head Try.f72 #[(.int .i64 part)] w R = F_ref18_Head part w R := by kernel_rfl
theorem F_ref18_Head_ok {R : Ending → World → Prop} (part : Int) (w : World) (h : F_ref18_Head part w fun v w' => R (.returned v) w') : Calls Try.prog N_ref18_Head #[(.int .i64 part)] w R :=
  calls_of (f := 72) follows_ok Try.func72 (Eq.mpr (F_ref18_Head_eq part w _) h)

def h_ref01_Put : H := (.seq .reg (.seq (.seq .reg (.block (.loop [(0, .p .slice), (7, .p (.int .i64))] [0, 7, 10, 11, 12, 13, 14, 15, 16, 17, 18, 19, 20, 21, 22] (.seq (.seq .reg (.cond .leaf .leaf)) (.seq (.block .reg) .reg))))) (.seq .reg .leaf)))
def F_ref01_Put (b_a : Option Addr) (b_l : Nat) (b_c : Nat) (bytes : Int) (v : Int) (w : World) (R : Value → World → Prop) : Prop :=
  (kW .i64 (bytes - (1 : Int)) fun x =>
  (∃ I : Option Addr → Nat → Nat → Int → Nat × (World → Prop), (I b_a b_l b_c x).2 w ∧
  (∀ (_junk : Env) (b_a1 : Option Addr) (b_l1 : Nat) (b_c1 : Nat) (i : Int) (w1 : World), (I b_a1 b_l1 b_c1 i).2 w1 →
    (bsplit (decide (i ≥ (0 : Int)))
      ((kW .i64 ((8 : Int) * i) fun x1 =>
      (kW .u64 (x1) fun x2 =>
      (0 ≤ x2 ∧ (kLet (Int.fdiv v (2 ^ (min x2.toNat (IntKind.bits .i64)))) fun x3 =>
      (kW .u8 (x3) fun x4 =>
      (kAlloc w1 #[(.int .u8 x4)] Ty_uint8 fun b w2 =>
      (AppP Try.prog #[Ty_S_uint8, Ty_S_uint8] Ty_S_uint8 #[(.slice b_a1 b_l1 b_c1), (.slice (some ⟨b, 0, none⟩) 1 1)] w2 fun x_a x_l x_c w3 =>
      (kW .i64 (i - (1 : Int)) fun x5 =>
      ((I x_a x_l x_c x5).2 w3 ∧ (I x_a x_l x_c x5).1 < (I b_a1 b_l1 b_c1 i).1))))))))))
      (R (.slice b_a1 b_l1 b_c1) w1)))))
theorem F_ref01_Put_eq (b_a : Option Addr) (b_l : Nat) (b_c : Nat) (bytes : Int) (v : Int) (w : World) (R : Value → World → Prop) : sxFn Try.prog TT h_ref01_Put Try.f73 #[(.slice b_a b_l b_c), (.int .i64 bytes), (.int .i64 v)] w R = F_ref01_Put b_a b_l b_c bytes v w R := by kernel_rfl
theorem F_ref01_Put_ok {R : Ending → World → Prop} (b_a : Option Addr) (b_l : Nat) (b_c : Nat) (bytes : Int) (v : Int) (w : World) (h : F_ref01_Put b_a b_l b_c bytes v w fun v w' => R (.returned v) w') : Calls Try.prog N_ref01_Put #[(.slice b_a b_l b_c), (.int .i64 bytes), (.int .i64 v)] w R :=
  calls_of (f := 73) follows_ok Try.func73 (Eq.mpr (F_ref01_Put_eq b_a b_l b_c bytes v w _) h)

def h_slices_Clone_SSbyte_Sbyte : H := (.seq .reg (.seq (.seq .reg (.cond (.seq .reg .leaf) .leaf)) (.seq .reg .leaf)))
def F_slices_Clone_SSbyte_Sbyte (s_a : Option Addr) (s_l : Nat) (s_c : Nat) (w : World) (R : Value → World → Prop) : Prop :=
  (bsplit s_a.isNone
    (R (.slice none 0 0) w)
    ((kAlloc w #[] Ty_S_uint8 fun b w1 =>
    (AppP Try.prog #[Ty_S_S_uint8, Ty_S_S_uint8] Ty_S_S_uint8 #[(.slice (some ⟨b, 0, none⟩) 0 0), (.slice s_a s_l s_c)] w1 fun x_a x_l x_c w2 =>
    R (.slice x_a x_l x_c) w2))))
theorem F_slices_Clone_SSbyte_Sbyte_eq (s_a : Option Addr) (s_l : Nat) (s_c : Nat) (w : World) (R : Value → World → Prop) : sxFn Try.prog TT h_slices_Clone_SSbyte_Sbyte Try.f74 #[(.slice s_a s_l s_c)] w R = F_slices_Clone_SSbyte_Sbyte s_a s_l s_c w R := by kernel_rfl
theorem F_slices_Clone_SSbyte_Sbyte_ok {R : Ending → World → Prop} (s_a : Option Addr) (s_l : Nat) (s_c : Nat) (w : World) (h : F_slices_Clone_SSbyte_Sbyte s_a s_l s_c w fun v w' => R (.returned v) w') : Calls Try.prog N_slices_Clone_SSbyte_Sbyte #[(.slice s_a s_l s_c)] w R :=
  calls_of (f := 74) follows_ok Try.func74 (Eq.mpr (F_slices_Clone_SSbyte_Sbyte_eq s_a s_l s_c w _) h)

def h_receiver_side_number : H := (.seq .reg (.seq .reg .leaf))
def F_receiver_side_number (s_b : Nat) (s_o : Nat) (n : Int) (w : World) (R : Value → World → Prop) : Prop :=
  (bsplit (decide (n ≥ (0 : Int)))
    ((kLd w ⟨s_b, s_o, none⟩ .i64 fun x =>
    (0 ≤ x ∧ (kW .i64 ((1 : Int) * 2 ^ (min x.toNat (IntKind.bits .i64))) fun x1 =>
    (kLet (decide (n < x1)) fun x2 =>
    R (.bool x2) w)))))
    (R (.bool false) w))
theorem F_receiver_side_number_eq (s_b : Nat) (s_o : Nat) (n : Int) (w : World) (R : Value → World → Prop) : sxFn Try.prog TT h_receiver_side_number Try.f75 #[(.pointer (some ⟨s_b, s_o, none⟩)), (.int .i64 n)] w R = F_receiver_side_number s_b s_o n w R := by kernel_rfl
theorem F_receiver_side_number_ok {R : Ending → World → Prop} (s_b : Nat) (s_o : Nat) (n : Int) (w : World) (h : F_receiver_side_number s_b s_o n w fun v w' => R (.returned v) w') : Calls Try.prog N_receiver_side_number #[(.pointer (some ⟨s_b, s_o, none⟩)), (.int .i64 n)] w R :=
  calls_of (f := 75) follows_ok Try.func75 (Eq.mpr (F_receiver_side_number_eq s_b s_o n w _) h)

def h_receiver_side_partials : H := (.seq .reg (.seq .reg (.seq (.seq .reg (.cond (.seq (.draw .no (.one 0 .stable (.one 1 .stable (.one 2 .stable (.one 3 .stable (.one 4 .stable (.one 5 .stable (.one 6 .stable (.one 7 .stable (.one 8 .stable (.one 9 .stable (.one 10 .stable (.one 11 .stable .nil))))))))))))) .leaf) .leaf)) (.seq (.seq .reg (.block (.loop [(32, .p (.int .i64))] [2, 4, 5, 32, 33, 34, 35, 36, 37, 38, 39, 40, 41, 42, 43, 44, 45, 46, 47, 48, 49, 50, 51, 52, 53, 54, 55, 56, 57, 58, 59, 60, 61, 62, 63, 64, 65, 66, 67, 68, 69, 70, 71, 72, 73, 74, 75, 76, 77, 78, 79, 80, 81, 82, 83, 84] (.seq .reg (.seq (.cond .leaf .leaf) (.seq (.block (.seq .reg (.cut [(83, .p .bool)] [37, 38, 39, 40, 41, 42, 43, 44, 45, 46, 47, 48, 49, 50, 51, 52, 53, 54, 55, 56, 57, 58, 59, 60, 61, 62, 63, 64, 65, 66, 67, 68, 69, 70, 71, 72, 73, 74, 75, 76, 77, 78, 79, 80, 81, 82, 83] (.draw .blk (.one 0 .pre (.one 1 .pre (.one 2 .pre (.one 3 .keep (.one 4 .stable (.one 5 .stable (.one 6 .stable (.one 7 .keep (.one 8 .stable (.one 9 .stable (.one 10 .stable (.one 11 .stable (.one 12 .stable (.one 13 .stable (.one 15 .stable (.one 16 .stable (.one 17 .stable (.one 18 .stable (.one 19 .stable (.one 20 .stable (.one 14 .keep (.one 21 .keep (.one 22 .stable (.one 23 .stable (.one 24 .stable (.one 25 .stable (.one 26 .stable (.one 27 .stable (.one 28 .stable (.one 29 .stable (.one 30 .stable (.one 32 .stable (.one 33 .stable (.one 34 .stable (.one 35 .stable (.one 36 .stable (.one 37 .stable (.one 38 .stable (.one 39 .stable (.one 40 .stable (.one 41 .stable (.one 42 .stable (.one 31 .keep (.one 43 .keep (.one 44 .stable (.one 45 .stable (.one 46 .stable .nil)))))))))))))))))))))))))))))))))))))))))))))))) (.cond (.seq .reg .leaf) .leaf)))) .reg)))))) (.seq .reg (.seq (.draw .blk (.one 0 .pre (.one 1 .pre (.one 2 .pre (.one 3 .pre (.one 4 .pre (.one 5 .pre (.one 6 .pre (.one 7 .pre (.one 8 .pre (.one 9 .pre (.one 10 .pre (.one 11 .pre (.one 12 .pre (.one 13 .pre (.one 14 .pre (.one 15 .pre (.one 16 .pre (.one 17 .pre (.one 18 .pre (.one 19 .pre (.one 20 .pre (.one 21 .pre (.one 22 .pre (.one 23 .pre (.one 24 .pre (.one 26 .stable (.one 27 .stable (.one 28 .stable (.one 29 .stable (.one 30 .stable (.one 25 .keep (.one 31 .stable (.one 32 .stable (.one 33 .stable .nil))))))))))))))))))))))))))))))))))) .leaf))))))
def F_receiver_side_partials (s_b : Nat) (s_o : Nat) (w : World) (R : Value → World → Prop) : Prop :=
  (kLdS w ⟨s_b, s_o + 13, none⟩ fun _ x_l _ =>
  (bsplit (decide ((x_l : Int) = (0 : Int)))
    ((kDrew w fun w1 =>
    (kLd w1 ⟨s_b, s_o + 7, none⟩ .i64 fun x =>
    (kLd w1 ⟨s_b, s_o + 6, none⟩ .i64 fun x1 =>
    (kLet (decide (x = x1)) fun x2 =>
    R (.bool x2) w1)))))
    ((kLdS w ⟨s_b, s_o + 13, none⟩ fun x_a1 x_l1 _ =>
    (∃ I : Int → Nat × (World → Prop), (I (0 : Int)).2 w ∧
    (∀ (_junk : Env) (x3 : Int) (w2 : World), (I x3).2 w2 →
      (bsplit (decide (x3 < (x_l1 : Int)))
        ((kIx x_a1 x_l1 x3 fun b =>
        (∃ x_0 : Int, ∃ x_1 : Bool, ∃ x_2 : Int, ∃ x_3_a : Option Addr, ∃ x_3_l x_3_c : Nat, ∃ x_4_a : Option Addr, ∃ x_4_l x_4_c : Nat, cellsAt w2 (b.add (x3.toNat * 5)) 0 [(.int .i64 x_0), (.bool x_1), (.int .i64 x_2), (.slice x_3_a x_3_l x_3_c), (.slice x_4_a x_4_l x_4_c)] ∧
        (kAlloc w2 #[.int .i64 (0 : Int), .bool false, .int .i64 (0 : Int), .slice none 0 0, .slice none 0 0] Ty_api_Partial fun b1 w3 =>
        (sxStore w3 ⟨b1, 0, none⟩ 0 [(.int .i64 x_0), (.bool x_1), (.int .i64 x_2), (.slice x_3_a x_3_l x_3_c), (.slice x_4_a x_4_l x_4_c)] fun w4 =>
        (∃ J : Bool → World → Prop,
        (∀ (_junk : Env) (x10 : Bool) (w12 : World), J x10 w12 →
          (bsplit x10
            (R (.bool false) w12)
            ((kW .i64 (x3 + (1 : Int)) fun x11 =>
            ((I x11).2 w12 ∧ (I x11).1 < (I x3).1))))) ∧
        (kDrew w4 fun w5 =>
        (∃ S : Nat → Prop,
        (kLd w5 ⟨b1, 0, none⟩ .i64 fun x4 =>
        (Calls Try.prog N_receiver_side_number #[(.pointer (some ⟨s_b, s_o, none⟩)), (.int .i64 x4)] w5 fun e_ w6 =>
        ∃ r : Bool, e_ = .returned (.bool r) ∧
        (KeepsB S w5 w6 ∧ (bsplit (!r)
          (J true w6)
          ((S b1 ∧
          (∃ x_01 : Int, ∃ x_11 : Bool, ∃ x_21 : Int, ∃ x_3_a1 : Option Addr, ∃ x_3_l1 x_3_c1 : Nat, ∃ x_4_a1 : Option Addr, ∃ x_4_l1 x_4_c1 : Nat, cellsAt w5 ⟨b1, 0, none⟩ 0 [(.int .i64 x_01), (.bool x_11), (.int .i64 x_21), (.slice x_3_a1 x_3_l1 x_3_c1), (.slice x_4_a1 x_4_l1 x_4_c1)] ∧
          (Calls Try.prog N_receiver_partial #[(.agg #[.int .i64 x_01, .bool x_11, .int .i64 x_21, .slice x_3_a1 x_3_l1 x_3_c1, .slice x_4_a1 x_4_l1 x_4_c1])] w6 fun e_1 w7 =>
          ∃ r1 : Bool, e_1 = .returned (.bool r1) ∧
          (KeepsB S w5 w7 ∧ (bsplit (!r1)
            (J true w7)
            ((S b1 ∧
            (kLd w5 ⟨b1, 0, none⟩ .i64 fun x5 =>
            (S s_b ∧
            (kLd w5 ⟨s_b, s_o + 7, none⟩ .i64 fun x6 =>
            (Calls Try.prog N_receiver_side_place #[(.pointer (some ⟨s_b, s_o, none⟩)), (.int .i64 x5)] w7 fun e_2 w8 =>
            ∃ r2 : Int, e_2 = .returned (.int .i64 r2) ∧
            (KeepsB S w5 w8 ∧ (Calls Try.prog N_receiver_side_place #[(.pointer (some ⟨s_b, s_o, none⟩)), (.int .i64 x6)] w8 fun e_3 w9 =>
            ∃ r3 : Int, e_3 = .returned (.int .i64 r3) ∧
            (KeepsB S w5 w9 ∧ (bsplit (decide (r2 ≥ r3))
              (J true w9)
              ((bsplit (decide (x3 > (0 : Int)))
                ((S b1 ∧
                (kLd w5 ⟨b1, 0, none⟩ .i64 fun x7 =>
                (S s_b ∧
                (kLdS w5 ⟨s_b, s_o + 13, none⟩ fun x_a2 x_l2 _ =>
                (kW .i64 (x3 - (1 : Int)) fun x8 =>
                (kIx x_a2 x_l2 x8 fun b2 =>
                (S (b2.add (x8.toNat * 5)).block ∧
                (kLd w5 (b2.add (x8.toNat * 5)) .i64 fun x9 =>
                (Calls Try.prog N_receiver_side_place #[(.pointer (some ⟨s_b, s_o, none⟩)), (.int .i64 x7)] w9 fun e_4 w10 =>
                ∃ r4 : Int, e_4 = .returned (.int .i64 r4) ∧
                (KeepsB S w5 w10 ∧ (Calls Try.prog N_receiver_side_place #[(.pointer (some ⟨s_b, s_o, none⟩)), (.int .i64 x9)] w10 fun e_5 w11 =>
                ∃ r5 : Int, e_5 = .returned (.int .i64 r5) ∧
                (KeepsB S w5 w11 ∧ J (decide (r4 ≤ r5)) w11)))))))))))))
                (J false w9)))))))))))))))))))))))))))))))
        ((kLdS w2 ⟨s_b, s_o + 13, none⟩ fun x_a3 x_l3 _ =>
        (kIx x_a3 x_l3 (0 : Int) fun b3 =>
        (∃ x_02 : Int, ∃ x_12 : Bool, ∃ x_22 : Int, ∃ x_3_a2 : Option Addr, ∃ x_3_l2 x_3_c2 : Nat, ∃ x_4_a2 : Option Addr, ∃ x_4_l2 x_4_c2 : Nat, cellsAt w2 (b3.add ((0 : Int).toNat * 5)) 0 [(.int .i64 x_02), (.bool x_12), (.int .i64 x_22), (.slice x_3_a2 x_3_l2 x_3_c2), (.slice x_4_a2 x_4_l2 x_4_c2)] ∧
        (kAlloc w2 #[.int .i64 (0 : Int), .bool false, .int .i64 (0 : Int), .slice none 0 0, .slice none 0 0] Ty_api_Partial fun b4 w13 =>
        (sxStore w13 ⟨b4, 0, none⟩ 0 [(.int .i64 x_02), (.bool x_12), (.int .i64 x_22), (.slice x_3_a2 x_3_l2 x_3_c2), (.slice x_4_a2 x_4_l2 x_4_c2)] fun w14 =>
        (kDrew w14 fun w15 =>
        (∃ S1 : Nat → Prop,
        (kLdB w15 ⟨b4, 1, none⟩ fun x12 =>
        (bsplit x12
          ((kLd w15 ⟨b4, 0, none⟩ .i64 fun x13 =>
          (kLd w15 ⟨s_b, s_o + 6, none⟩ .i64 fun x14 =>
          (bsplit (!(decide (x13 = x14)))
            ((kLdS w15 ⟨s_b, s_o + 13, none⟩ fun x_a4 x_l4 _ =>
            (kW .i64 ((x_l : Int) - (1 : Int)) fun x15 =>
            (kIx x_a4 x_l4 x15 fun b5 =>
            (kLd w15 (b5.add (x15.toNat * 5)) .i64 fun x16 =>
            (S1 s_b ∧
            (kLd w15 ⟨s_b, s_o + 7, none⟩ .i64 fun x17 =>
            (Calls Try.prog N_receiver_side_behind #[(.pointer (some ⟨s_b, s_o, none⟩)), (.int .i64 x16)] w15 fun e_6 w16 =>
            ∃ r6 : Int, e_6 = .returned (.int .i64 r6) ∧
            (KeepsB S1 w15 w16 ∧ (kLet (decide (r6 = x17)) fun x18 =>
            R (.bool x18) w16))))))))))
            (R (.bool false) w15)))))
          ((kLdS w15 ⟨s_b, s_o + 13, none⟩ fun x_a5 x_l5 _ =>
          (kW .i64 ((x_l : Int) - (1 : Int)) fun x19 =>
          (kIx x_a5 x_l5 x19 fun b6 =>
          (kLd w15 (b6.add (x19.toNat * 5)) .i64 fun x20 =>
          (S1 s_b ∧
          (kLd w15 ⟨s_b, s_o + 7, none⟩ .i64 fun x21 =>
          (Calls Try.prog N_receiver_side_behind #[(.pointer (some ⟨s_b, s_o, none⟩)), (.int .i64 x20)] w15 fun e_7 w17 =>
          ∃ r7 : Int, e_7 = .returned (.int .i64 r7) ∧
          (KeepsB S1 w15 w17 ∧ (kLet (decide (r7 = x21)) fun x22 =>
          R (.bool x22) w17)))))))))))))))))))))))))))
theorem F_receiver_side_partials_eq (s_b : Nat) (s_o : Nat) (w : World) (R : Value → World → Prop) : sxFn Try.prog TT h_receiver_side_partials Try.f76 #[(.pointer (some ⟨s_b, s_o, none⟩))] w R = F_receiver_side_partials s_b s_o w R := by kernel_rfl
theorem F_receiver_side_partials_ok {R : Ending → World → Prop} (s_b : Nat) (s_o : Nat) (w : World) (h : F_receiver_side_partials s_b s_o w fun v w' => R (.returned v) w') : Calls Try.prog N_receiver_side_partials #[(.pointer (some ⟨s_b, s_o, none⟩))] w R :=
  calls_of (f := 76) follows_ok Try.func76 (Eq.mpr (F_receiver_side_partials_eq s_b s_o w _) h)

def h_slices_Clone_Sapi_Partial_api_Partial : H := (.seq .reg (.seq (.seq .reg (.cond (.seq .reg .leaf) .leaf)) (.seq .reg .leaf)))
def F_slices_Clone_Sapi_Partial_api_Partial (s_a : Option Addr) (s_l : Nat) (s_c : Nat) (w : World) (R : Value → World → Prop) : Prop :=
  (bsplit s_a.isNone
    (R (.slice none 0 0) w)
    ((kAlloc w #[] Ty_api_Partial fun b w1 =>
    (AppP Try.prog #[Ty_S_api_Partial, Ty_S_api_Partial] Ty_S_api_Partial #[(.slice (some ⟨b, 0, none⟩) 0 0), (.slice s_a s_l s_c)] w1 fun x_a x_l x_c w2 =>
    R (.slice x_a x_l x_c) w2))))
theorem F_slices_Clone_Sapi_Partial_api_Partial_eq (s_a : Option Addr) (s_l : Nat) (s_c : Nat) (w : World) (R : Value → World → Prop) : sxFn Try.prog TT h_slices_Clone_Sapi_Partial_api_Partial Try.f77 #[(.slice s_a s_l s_c)] w R = F_slices_Clone_Sapi_Partial_api_Partial s_a s_l s_c w R := by kernel_rfl
theorem F_slices_Clone_Sapi_Partial_api_Partial_ok {R : Ending → World → Prop} (s_a : Option Addr) (s_l : Nat) (s_c : Nat) (w : World) (h : F_slices_Clone_Sapi_Partial_api_Partial s_a s_l s_c w fun v w' => R (.returned v) w') : Calls Try.prog N_slices_Clone_Sapi_Partial_api_Partial #[(.slice s_a s_l s_c)] w R :=
  calls_of (f := 77) follows_ok Try.func77 (Eq.mpr (F_slices_Clone_Sapi_Partial_api_Partial_eq s_a s_l s_c w _) h)

def h_slices_Clone_Sapi_Range_api_Range : H := (.seq .reg (.seq (.seq .reg (.cond (.seq .reg .leaf) .leaf)) (.seq .reg .leaf)))
def F_slices_Clone_Sapi_Range_api_Range (s_a : Option Addr) (s_l : Nat) (s_c : Nat) (w : World) (R : Value → World → Prop) : Prop :=
  (bsplit s_a.isNone
    (R (.slice none 0 0) w)
    ((kAlloc w #[] Ty_api_Range fun b w1 =>
    (AppP Try.prog #[Ty_S_api_Range, Ty_S_api_Range] Ty_S_api_Range #[(.slice (some ⟨b, 0, none⟩) 0 0), (.slice s_a s_l s_c)] w1 fun x_a x_l x_c w2 =>
    R (.slice x_a x_l x_c) w2))))
theorem F_slices_Clone_Sapi_Range_api_Range_eq (s_a : Option Addr) (s_l : Nat) (s_c : Nat) (w : World) (R : Value → World → Prop) : sxFn Try.prog TT h_slices_Clone_Sapi_Range_api_Range Try.f78 #[(.slice s_a s_l s_c)] w R = F_slices_Clone_Sapi_Range_api_Range s_a s_l s_c w R := by kernel_rfl
theorem F_slices_Clone_Sapi_Range_api_Range_ok {R : Ending → World → Prop} (s_a : Option Addr) (s_l : Nat) (s_c : Nat) (w : World) (h : F_slices_Clone_Sapi_Range_api_Range s_a s_l s_c w fun v w' => R (.returned v) w') : Calls Try.prog N_slices_Clone_Sapi_Range_api_Range #[(.slice s_a s_l s_c)] w R :=
  calls_of (f := 78) follows_ok Try.func78 (Eq.mpr (F_slices_Clone_Sapi_Range_api_Range_eq s_a s_l s_c w _) h)

def h_serial_Distance : H := (.seq .reg (.seq .reg .leaf))
def F_serial_Distance (n : Int) (a : Int) (b : Int) (w : World) (R : Value → World → Prop) : Prop :=
  (kW .i64 (b - a) fun x =>
  (Calls Try.prog N_serial_Low #[(.int .i64 n), (.int .i64 x)] w fun e_ w1 =>
  ∃ r : Int, e_ = .returned (.int .i64 r) ∧
  R (.int .i64 r) w1))
theorem F_serial_Distance_eq (n : Int) (a : Int) (b : Int) (w : World) (R : Value → World → Prop) : sxFn Try.prog TT h_serial_Distance Try.f79 #[(.int .i64 n), (.int .i64 a), (.int .i64 b)] w R = F_serial_Distance n a b w R := by kernel_rfl
theorem F_serial_Distance_ok {R : Ending → World → Prop} (n : Int) (a : Int) (b : Int) (w : World) (h : F_serial_Distance n a b w fun v w' => R (.returned v) w') : Calls Try.prog N_serial_Distance #[(.int .i64 n), (.int .i64 a), (.int .i64 b)] w R :=
  calls_of (f := 79) follows_ok Try.func79 (Eq.mpr (F_serial_Distance_eq n a b w _) h)

def h_receiver_piece_contradicts : H := (.seq .reg (.seq .reg (.seq (.block (.seq .reg (.cond (.seq (.draw .blk (.one 0 .pre (.one 1 .pre (.one 2 .pre (.one 3 .pre (.one 4 .pre (.one 5 .pre (.one 6 .pre (.one 7 .pre (.one 8 .pre (.one 9 .pre (.one 10 .pre (.one 12 .stable (.one 13 .stable (.one 11 .keep (.one 14 .stable (.one 15 .stable (.one 16 .stable .nil)))))))))))))))))) .leaf) (.seq .reg (.cond (.seq .reg .leaf) .leaf))))) (.seq .reg .leaf))))
def F_receiver_piece_contradicts (p_0 : Int) (p_1 : Int) (p_2 : Int) (p_3 : Int) (p_4_a : Option Addr) (p_4_l : Nat) (p_4_c : Nat) (p_5 : Int) (p_6 : Bool) (x_0 : Int) (x_1 : Bool) (x_2 : Int) (x_3_a : Option Addr) (x_3_l : Nat) (x_3_c : Nat) (x_4_a : Option Addr) (x_4_l : Nat) (x_4_c : Nat) (w : World) (R : Value → World → Prop) : Prop :=
  (kAlloc w #[(.int .i64 p_0), (.int .i64 p_1), (.int .i64 p_2), (.int .i64 p_3), (.slice p_4_a p_4_l p_4_c), (.int .i64 p_5), (.bool p_6)] Ty_receiver_piece fun b w1 =>
  (kAlloc w1 #[(.int .i64 x_0), (.bool x_1), (.int .i64 x_2), (.slice x_3_a x_3_l x_3_c), (.slice x_4_a x_4_l x_4_c)] Ty_api_Partial fun b1 w2 =>
  (kLd w2 ⟨b1, 2, none⟩ .i64 fun x =>
  (kLet (!decide (x = (-1 : Int))) fun known =>
  (kLdB w2 ⟨b, 6, none⟩ fun x1 =>
  (bsplit x1
    ((kDrew w2 fun w3 =>
    (∃ S : Nat → Prop,
    (bsplit known
      ((kLd w3 ⟨b1, 2, none⟩ .i64 fun x2 =>
      (kLd w3 ⟨b, 5, none⟩ .i64 fun x3 =>
      (bsplit (!decide (x2 = x3))
        (R (.bool true) w3)
        ((kLdS w3 ⟨b1, 4, none⟩ fun x_a x_l x_c =>
        (S b ∧
        (kLd w3 ⟨b, 5, none⟩ .i64 fun x4 =>
        (Calls Try.prog N_receiver_end #[(.slice x_a x_l x_c)] w3 fun e_ w4 =>
        ∃ r : Int, e_ = .returned (.int .i64 r) ∧
        (KeepsB S w3 w4 ∧ (kLet (decide (r > x4)) fun x5 =>
        R (.bool x5) w4)))))))))))
      ((kLdS w3 ⟨b1, 4, none⟩ fun x_a1 x_l1 x_c1 =>
      (S b ∧
      (kLd w3 ⟨b, 5, none⟩ .i64 fun x6 =>
      (Calls Try.prog N_receiver_end #[(.slice x_a1 x_l1 x_c1)] w3 fun e_1 w5 =>
      ∃ r1 : Int, e_1 = .returned (.int .i64 r1) ∧
      (KeepsB S w3 w5 ∧ (kLet (decide (r1 > x6)) fun x7 =>
      R (.bool x7) w5)))))))))))
    ((bsplit known
      ((kLd w2 ⟨b, 5, none⟩ .i64 fun x8 =>
      (kLd w2 ⟨b1, 2, none⟩ .i64 fun x9 =>
      (kLet (decide (x8 ≥ x9)) fun x10 =>
      R (.bool x10) w2))))
      (R (.bool false) w2)))))))))
theorem F_receiver_piece_contradicts_eq (p_0 : Int) (p_1 : Int) (p_2 : Int) (p_3 : Int) (p_4_a : Option Addr) (p_4_l : Nat) (p_4_c : Nat) (p_5 : Int) (p_6 : Bool) (x_0 : Int) (x_1 : Bool) (x_2 : Int) (x_3_a : Option Addr) (x_3_l : Nat) (x_3_c : Nat) (x_4_a : Option Addr) (x_4_l : Nat) (x_4_c : Nat) (w : World) (R : Value → World → Prop) : sxFn Try.prog TT h_receiver_piece_contradicts Try.f80 #[(.agg #[.int .i64 p_0, .int .i64 p_1, .int .i64 p_2, .int .i64 p_3, .slice p_4_a p_4_l p_4_c, .int .i64 p_5, .bool p_6]), (.agg #[.int .i64 x_0, .bool x_1, .int .i64 x_2, .slice x_3_a x_3_l x_3_c, .slice x_4_a x_4_l x_4_c])] w R = F_receiver_piece_contradicts p_0 p_1 p_2 p_3 p_4_a p_4_l p_4_c p_5 p_6 x_0 x_1 x_2 x_3_a x_3_l x_3_c x_4_a x_4_l x_4_c w R := by kernel_rfl
theorem F_receiver_piece_contradicts_ok {R : Ending → World → Prop} (p_0 : Int) (p_1 : Int) (p_2 : Int) (p_3 : Int) (p_4_a : Option Addr) (p_4_l : Nat) (p_4_c : Nat) (p_5 : Int) (p_6 : Bool) (x_0 : Int) (x_1 : Bool) (x_2 : Int) (x_3_a : Option Addr) (x_3_l : Nat) (x_3_c : Nat) (x_4_a : Option Addr) (x_4_l : Nat) (x_4_c : Nat) (w : World) (h : F_receiver_piece_contradicts p_0 p_1 p_2 p_3 p_4_a p_4_l p_4_c p_5 p_6 x_0 x_1 x_2 x_3_a x_3_l x_3_c x_4_a x_4_l x_4_c w fun v w' => R (.returned v) w') : Calls Try.prog N_receiver_piece_contradicts #[(.agg #[.int .i64 p_0, .int .i64 p_1, .int .i64 p_2, .int .i64 p_3, .slice p_4_a p_4_l p_4_c, .int .i64 p_5, .bool p_6]), (.agg #[.int .i64 x_0, .bool x_1, .int .i64 x_2, .slice x_3_a x_3_l x_3_c, .slice x_4_a x_4_l x_4_c])] w R :=
  calls_of (f := 80) follows_ok Try.func80 (Eq.mpr (F_receiver_piece_contradicts_eq p_0 p_1 p_2 p_3 p_4_a p_4_l p_4_c p_5 p_6 x_0 x_1 x_2 x_3_a x_3_l x_3_c x_4_a x_4_l x_4_c w _) h)

def h_receiver_piece_known : H := (.seq .reg (.seq .reg (.seq .reg .leaf)))
def F_receiver_piece_known (p_0 : Int) (p_1 : Int) (p_2 : Int) (p_3 : Int) (p_4_a : Option Addr) (p_4_l : Nat) (p_4_c : Nat) (p_5 : Int) (p_6 : Bool) (x_0 : Int) (x_1 : Bool) (x_2 : Int) (x_3_a : Option Addr) (x_3_l : Nat) (x_3_c : Nat) (x_4_a : Option Addr) (x_4_l : Nat) (x_4_c : Nat) (w : World) (R : Value → World → Prop) : Prop :=
  (kAlloc w #[(.int .i64 p_0), (.int .i64 p_1), (.int .i64 p_2), (.int .i64 p_3), (.slice p_4_a p_4_l p_4_c), (.int .i64 p_5), (.bool p_6)] Ty_receiver_piece fun b w1 =>
  (kAlloc w1 #[(.int .i64 x_0), (.bool x_1), (.int .i64 x_2), (.slice x_3_a x_3_l x_3_c), (.slice x_4_a x_4_l x_4_c)] Ty_api_Partial fun b1 w2 =>
  (kLdS w2 ⟨b1, 4, none⟩ fun x_a x_l x_c =>
  (Calls Try.prog N_slices_ContainsFunc_Sapi_Range_api_Range #[(.slice x_a x_l x_c), (.func (.func N_receiver_piece_known_1) #[] #[(.pointer (some ⟨b, 0, none⟩))])] w2 fun e_ w3 =>
  ∃ r : Bool, e_ = .returned (.bool r) ∧
  (bsplit r
    ((kLdB w3 ⟨b, 6, none⟩ fun x =>
    (bsplit (!x)
      (R (.bool true) w3)
      ((kLd w3 ⟨b1, 2, none⟩ .i64 fun x1 =>
      (kLet (!decide (x1 = (-1 : Int))) fun x2 =>
      R (.bool x2) w3))))))
    (R (.bool false) w3))))))
theorem F_receiver_piece_known_eq (p_0 : Int) (p_1 : Int) (p_2 : Int) (p_3 : Int) (p_4_a : Option Addr) (p_4_l : Nat) (p_4_c : Nat) (p_5 : Int) (p_6 : Bool) (x_0 : Int) (x_1 : Bool) (x_2 : Int) (x_3_a : Option Addr) (x_3_l : Nat) (x_3_c : Nat) (x_4_a : Option Addr) (x_4_l : Nat) (x_4_c : Nat) (w : World) (R : Value → World → Prop) : sxFn Try.prog TT h_receiver_piece_known Try.f81 #[(.agg #[.int .i64 p_0, .int .i64 p_1, .int .i64 p_2, .int .i64 p_3, .slice p_4_a p_4_l p_4_c, .int .i64 p_5, .bool p_6]), (.agg #[.int .i64 x_0, .bool x_1, .int .i64 x_2, .slice x_3_a x_3_l x_3_c, .slice x_4_a x_4_l x_4_c])] w R = F_receiver_piece_known p_0 p_1 p_2 p_3 p_4_a p_4_l p_4_c p_5 p_6 x_0 x_1 x_2 x_3_a x_3_l x_3_c x_4_a x_4_l x_4_c w R := by kernel_rfl
theorem F_receiver_piece_known_ok {R : Ending → World → Prop} (p_0 : Int) (p_1 : Int) (p_2 : Int) (p_3 : Int) (p_4_a : Option Addr) (p_4_l : Nat) (p_4_c : Nat) (p_5 : Int) (p_6 : Bool) (x_0 : Int) (x_1 : Bool) (x_2 : Int) (x_3_a : Option Addr) (x_3_l : Nat) (x_3_c : Nat) (x_4_a : Option Addr) (x_4_l : Nat) (x_4_c : Nat) (w : World) (h : F_receiver_piece_known p_0 p_1 p_2 p_3 p_4_a p_4_l p_4_c p_5 p_6 x_0 x_1 x_2 x_3_a x_3_l x_3_c x_4_a x_4_l x_4_c w fun v w' => R (.returned v) w') : Calls Try.prog N_receiver_piece_known #[(.agg #[.int .i64 p_0, .int .i64 p_1, .int .i64 p_2, .int .i64 p_3, .slice p_4_a p_4_l p_4_c, .int .i64 p_5, .bool p_6]), (.agg #[.int .i64 x_0, .bool x_1, .int .i64 x_2, .slice x_3_a x_3_l x_3_c, .slice x_4_a x_4_l x_4_c])] w R :=
  calls_of (f := 81) follows_ok Try.func81 (Eq.mpr (F_receiver_piece_known_eq p_0 p_1 p_2 p_3 p_4_a p_4_l p_4_c p_5 p_6 x_0 x_1 x_2 x_3_a x_3_l x_3_c x_4_a x_4_l x_4_c w _) h)

def h_slices_rotateRight_api_Partial : H := .reg
def F_slices_rotateRight_api_Partial (s_a : Option Addr) (s_l : Nat) (s_c : Nat) (r : Int) (w : World) (R : Value → World → Prop) : Prop :=
  (kW .i64 ((s_l : Int) - r) fun x =>
  (Calls Try.prog N_slices_rotateLeft_api_Partial #[(.slice s_a s_l s_c), (.int .i64 x)] w fun e_ w1 =>
  e_ = .returned (.tuple #[]) ∧
  R (.tuple #[]) w1))
theorem F_slices_rotateRight_api_Partial_eq (s_a : Option Addr) (s_l : Nat) (s_c : Nat) (r : Int) (w : World) (R : Value → World → Prop) : sxFn Try.prog TT h_slices_rotateRight_api_Partial Try.f83 #[(.slice s_a s_l s_c), (.int .i64 r)] w R = F_slices_rotateRight_api_Partial s_a s_l s_c r w R := by kernel_rfl
theorem F_slices_rotateRight_api_Partial_ok {R : Ending → World → Prop} (s_a : Option Addr) (s_l : Nat) (s_c : Nat) (r : Int) (w : World) (h : F_slices_rotateRight_api_Partial s_a s_l s_c r w fun v w' => R (.returned v) w') : Calls Try.prog N_slices_rotateRight_api_Partial #[(.slice s_a s_l s_c), (.int .i64 r)] w R :=
  calls_of (f := 83) follows_ok Try.func83 (Eq.mpr (F_slices_rotateRight_api_Partial_eq s_a s_l s_c r w _) h)

def h_segment_Union : H := (.seq .reg (.cut [] [4, 5, 10, 11, 12, 13, 14, 15, 16, 17, 18] (.seq .reg (.cond (.seq .reg .leaf) .leaf)) (.seq .reg (.seq (.seq .reg (.block (.loop [(6, .p .slice), (7, .p .slice), (21, .p (.int .i64))] [6, 7, 9, 21, 22, 23, 24, 25, 26, 27, 28, 29, 30, 31, 32, 33, 34, 35, 36, 37, 38, 39, 40, 41, 42, 43, 44, 45, 46, 47, 48, 49, 50, 51, 52, 53, 54, 55, 56, 57, 58, 59, 60] (.seq .reg (.seq (.cond .leaf .leaf) (.seq (.block (.seq .reg (.seq .reg (.block (.seq .reg (.cond .reg (.seq .reg (.cond .reg (.draw .blk (.one 0 .pre (.one 1 .pre (.one 2 .pre (.one 3 .pre (.one 4 .pre (.one 5 .pre (.one 6 .pre (.one 7 .stable (.one 8 .stable (.one 9 .stable (.one 10 .pre (.one 11 .keep (.one 12 .stable (.one 13 .last .nil))))))))))))))))))))))) .reg)))))) (.seq .reg .leaf)))))
def F_segment_Union (l_a : Option Addr) (l_l : Nat) (l_c : Nat) (r_0 : Int) (r_1 : Int) (r_2 : Int) (w : World) (R : Value → World → Prop) : Prop :=
  (kAlloc w #[(.int .i64 r_0), (.int .i64 r_1), (.int .i64 r_2)] Ty_api_Range fun b w1 =>
  (∃ J : World → Prop,
  (∀ (_junk : Env)  (w5 : World), J w5 →
    (∃ I : Option Addr → Nat → Nat → Option Addr → Nat → Nat → Int → Nat × (World → Prop), (I none 0 0 none 0 0 (0 : Int)).2 w5 ∧
    (∀ (_junk : Env) (before_a : Option Addr) (before_l : Nat) (before_c : Nat) (behind_a : Option Addr) (behind_l : Nat) (behind_c : Nat) (x : Int) (w6 : World), (I before_a before_l before_c behind_a behind_l behind_c x).2 w6 →
      (bsplit (decide (x < (l_l : Int)))
        ((kIx l_a l_l x fun b2 =>
        (∃ x_01 x_11 x_21 : Int, cellsAt w6 (b2.add (x.toNat * 3)) 0 [(.int .i64 x_01), (.int .i64 x_11), (.int .i64 x_21)] ∧
        (kAlloc w6 #[.int .i64 (0 : Int), .int .i64 (0 : Int), .int .i64 (0 : Int)] Ty_api_Range fun b3 w7 =>
        (sxStore w7 ⟨b3, 0, none⟩ 0 [(.int .i64 x_01), (.int .i64 x_11), (.int .i64 x_21)] fun w8 =>
        (kLd w8 ⟨b, 0, none⟩ .i64 fun x1 =>
        (kSet w8 ⟨b3, 0, none⟩ (.int .i64 x1) fun w9 =>
        (kLd w9 ⟨b3, 2, none⟩ .i64 fun x2 =>
        (kLd w9 ⟨b, 1, none⟩ .i64 fun x3 =>
        (kLet (decide (x2 < x3)) fun x4 =>
        (bsplit x4
          ((∃ x_02 x_12 x_22 : Int, cellsAt w9 ⟨b3, 0, none⟩ 0 [(.int .i64 x_02), (.int .i64 x_12), (.int .i64 x_22)] ∧
          (kAlloc w9 #[(.int .i64 x_02), (.int .i64 x_12), (.int .i64 x_22)] Ty_api_Range fun b4 w10 =>
          (AppP Try.prog #[Ty_S_api_Range, Ty_S_api_Range] Ty_S_api_Range #[(.slice before_a before_l before_c), (.slice (some ⟨b4, 0, none⟩) 1 1)] w10 fun x_a x_l x_c w11 =>
          (kW .i64 (x + (1 : Int)) fun x5 =>
          ((I x_a x_l x_c behind_a behind_l behind_c x5).2 w11 ∧ (I x_a x_l x_c behind_a behind_l behind_c x5).1 < (I before_a before_l before_c behind_a behind_l behind_c x).1))))))
          ((kLd w9 ⟨b3, 1, none⟩ .i64 fun x6 =>
          (kLd w9 ⟨b, 2, none⟩ .i64 fun x7 =>
          (kLet (decide (x6 > x7)) fun x8 =>
          (bsplit x8
            ((∃ x_03 x_13 x_23 : Int, cellsAt w9 ⟨b3, 0, none⟩ 0 [(.int .i64 x_03), (.int .i64 x_13), (.int .i64 x_23)] ∧
            (kAlloc w9 #[(.int .i64 x_03), (.int .i64 x_13), (.int .i64 x_23)] Ty_api_Range fun b5 w12 =>
            (AppP Try.prog #[Ty_S_api_Range, Ty_S_api_Range] Ty_S_api_Range #[(.slice behind_a behind_l behind_c), (.slice (some ⟨b5, 0, none⟩) 1 1)] w12 fun x_a1 x_l1 x_c1 w13 =>
            (kW .i64 (x + (1 : Int)) fun x9 =>
            ((I before_a before_l before_c x_a1 x_l1 x_c1 x9).2 w13 ∧ (I before_a before_l before_c x_a1 x_l1 x_c1 x9).1 < (I before_a before_l before_c behind_a behind_l behind_c x).1))))))
            ((kDrew w9 fun w14 =>
            (∃ S : Nat → Prop,
            (kLd w14 ⟨b, 1, none⟩ .i64 fun x10 =>
            (kLd w14 ⟨b3, 1, none⟩ .i64 fun x11 =>
            (kLd w14 ⟨b, 2, none⟩ .i64 fun x12 =>
            (S b3 ∧
            (kLd w14 ⟨b3, 2, none⟩ .i64 fun x13 =>
            (kSet w14 ⟨b, 1, none⟩ (.int .i64 (if x11 < x10 then x11 else x10)) fun w15 =>
            (KeepsB S w14 w15 ∧ (kSet w15 ⟨b, 2, none⟩ (.int .i64 (if x13 > x12 then x13 else x12)) fun w16 =>
            (kW .i64 (x + (1 : Int)) fun x14 =>
            ((I before_a before_l before_c behind_a behind_l behind_c x14).2 w16 ∧ (I before_a before_l before_c behind_a behind_l behind_c x14).1 < (I before_a before_l before_c behind_a behind_l behind_c x).1)))))))))))))))))))))))))))))
        ((∃ x_04 x_14 x_24 : Int, cellsAt w6 ⟨b, 0, none⟩ 0 [(.int .i64 x_04), (.int .i64 x_14), (.int .i64 x_24)] ∧
        (kAlloc w6 #[(.int .i64 x_04), (.int .i64 x_14), (.int .i64 x_24)] Ty_api_Range fun b6 w17 =>
        (kAlloc w17 #[(.slice before_a before_l before_c), (.slice (some ⟨b6, 0, none⟩) 1 1), (.slice behind_a behind_l behind_c)] Ty_S_api_Range fun b7 w18 =>
        (Calls Try.prog N_slices_Concat_Sapi_Range_api_Range #[(.slice (some ⟨b7, 0, none⟩) 3 3)] w18 fun e_2 w19 =>
        ∃ r_a : Option Addr, ∃ r_l r_c : Nat, e_2 = .returned (.slice r_a r_l r_c) ∧
        R (.tuple #[(.slice r_a r_l r_c), (.int .i64 (0 : Int))]) w19))))))))) ∧
  (Calls Try.prog N_segment_Normal #[(.slice l_a l_l l_c)] w1 fun e_ w2 =>
  ∃ r : Bool, e_ = .returned (.bool r) ∧
  (bsplit (!r)
    (R (.tuple #[(.slice none 0 0), (.int .i64 (4 : Int))]) w2)
    ((∃ x_0 x_1 x_2 : Int, cellsAt w2 ⟨b, 0, none⟩ 0 [(.int .i64 x_0), (.int .i64 x_1), (.int .i64 x_2)] ∧
    (kAlloc w2 #[(.int .i64 x_0), (.int .i64 x_1), (.int .i64 x_2)] Ty_api_Range fun b1 w3 =>
    (Calls Try.prog N_segment_Normal #[(.slice (some ⟨b1, 0, none⟩) 1 1)] w3 fun e_1 w4 =>
    ∃ r1 : Bool, e_1 = .returned (.bool r1) ∧
    (bsplit (!r1)
      (R (.tuple #[(.slice none 0 0), (.int .i64 (4 : Int))]) w4)
      (J w4))))))))))
theorem F_segment_Union_eq (l_a : Option Addr) (l_l : Nat) (l_c : Nat) (r_0 : Int) (r_1 : Int) (r_2 : Int) (w : World) (R : Value → World → Prop) : sxFn Try.prog TT h_segment_Union Try.f84 #[(.slice l_a l_l l_c), (.agg #[.int .i64 r_0, .int .i64 r_1, .int .i64 r_2])] w R = F_segment_Union l_a l_l l_c r_0 r_1 r_2 w R := by kernel_rfl
theorem F_segment_Union_ok {R : Ending → World → Prop} (l_a : Option Addr) (l_l : Nat) (l_c : Nat) (r_0 : Int) (r_1 : Int) (r_2 : Int) (w : World) (h : F_segment_Union l_a l_l l_c r_0 r_1 r_2 w fun v w' => R (.returned v) w') : Calls Try.prog N_segment_Union #[(.slice l_a l_l l_c), (.agg #[.int .i64 r_0, .int .i64 r_1, .int .i64 r_2])] w R :=
  calls_of (f := 84) follows_ok Try.func84 (Eq.mpr (F_segment_Union_eq l_a l_l l_c r_0 r_1 r_2 w _) h)

def h_receiver_partial : H := (.seq .reg (.seq (.seq .reg (.cond (.seq .reg .leaf) .leaf)) (.cut [] [2, 25, 26, 27, 28, 29, 30, 31, 32, 33, 34, 35, 36, 37, 38, 39, 40, 41, 42, 43, 44, 45] (.seq .reg (.cond (.seq .reg .leaf) .leaf)) (.seq .reg (.seq (.cut [(81, .p .bool)] [47, 48, 49, 50, 51, 52, 53, 54, 55, 56, 57, 58, 59, 60, 61, 62, 63, 64, 65, 66, 67, 68, 69, 70, 71, 72, 73, 74, 75, 76, 77, 78, 79, 80, 81] (.draw .blk (.one 0 .pre (.one 1 .pre (.one 2 .pre (.one 3 .pre (.one 4 .pre (.one 5 .pre (.one 6 .pre (.one 7 .keep (.one 8 .stable (.one 9 .stable (.one 10 .stable (.one 11 .stable (.one 12 .stable (.one 13 .stable (.one 14 .keep (.one 15 .stable (.one 16 .stable (.one 17 .stable (.one 18 .stable (.one 19 .stable (.one 20 .stable (.one 21 .stable (.one 22 .keep (.one 23 .stable (.one 24 .stable (.one 25 .stable (.one 26 .stable (.one 27 .stable (.one 28 .stable (.one 29 .stable (.one 30 .stable (.one 31 .stable (.one 32 .stable (.one 33 .keep (.one 34 .stable .nil)))))))))))))))))))))))))))))))))))) (.cond (.seq .reg .leaf) .leaf)) (.seq .reg (.seq (.seq .reg (.block (.loop [(95, .p (.int .i64))] [2, 7, 95, 96, 97, 98, 99, 100, 101, 102, 103, 104, 105, 106, 107] (.seq .reg (.seq (.cond .leaf .leaf) (.seq (.block (.seq .reg (.seq .reg (.cond (.seq .reg .leaf) .leaf)))) .reg)))))) (.seq .reg .leaf))))))))
def F_receiver_partial (p_0 : Int) (p_1 : Bool) (p_2 : Int) (p_3_a : Option Addr) (p_3_l : Nat) (p_3_c : Nat) (p_4_a : Option Addr) (p_4_l : Nat) (p_4_c : Nat) (w : World) (R : Value → World → Prop) : Prop :=
  (kAlloc w #[(.int .i64 p_0), (.bool p_1), (.int .i64 p_2), (.slice p_3_a p_3_l p_3_c), (.slice p_4_a p_4_l p_4_c)] Ty_api_Partial fun b w1 =>
  (kLdB w1 ⟨b, 1, none⟩ fun x =>
  (bsplit x
    ((kLd w1 ⟨b, 2, none⟩ .i64 fun x1 =>
    (bsplit (decide (x1 = (0 : Int)))
      ((kLdS w1 ⟨b, 3, none⟩ fun _ x_l _ =>
      (bsplit (decide ((x_l : Int) = (0 : Int)))
        ((kLdS w1 ⟨b, 4, none⟩ fun _ x_l1 _ =>
        (kLet (decide ((x_l1 : Int) = (0 : Int))) fun x2 =>
        R (.bool x2) w1)))
        (R (.bool false) w1))))
      (R (.bool false) w1))))
    ((∃ J : World → Prop,
    (∀ (_junk : Env)  (w2 : World), J w2 →
      (∃ J1 : Bool → World → Prop,
      (∀ (_junk : Env) (x7 : Bool) (w8 : World), J1 x7 w8 →
        (bsplit x7
          (R (.bool false) w8)
          ((kLdS w8 ⟨b, 4, none⟩ fun x_a9 x_l9 x_c9 =>
          (kLd w8 ⟨b, 0, none⟩ .i64 fun x8 =>
          (kLdS w8 ⟨b, 3, none⟩ fun _ x_l10 _ =>
          (Calls Try.prog N_segment_Gaps #[(.slice x_a9 x_l9 x_c9), (.int .i64 x8), (.int .i64 (x_l10 : Int))] w8 fun e_4 w9 =>
          ∃ r_a : Option Addr, ∃ r_l r_c : Nat, ∃ r4 : Int, e_4 = .returned (.tuple #[(.slice r_a r_l r_c), (.int .i64 r4)]) ∧
          (∃ I : Int → Nat × (World → Prop), (I (0 : Int)).2 w9 ∧
          (∀ (_junk : Env) (x9 : Int) (w10 : World), (I x9).2 w10 →
            (bsplit (decide (x9 < (r_l : Int)))
              ((kIx r_a r_l x9 fun b1 =>
              (∃ x_01 x_11 x_21 : Int, cellsAt w10 (b1.add (x9.toNat * 3)) 0 [(.int .i64 x_01), (.int .i64 x_11), (.int .i64 x_21)] ∧
              (kAlloc w10 #[.int .i64 (0 : Int), .int .i64 (0 : Int), .int .i64 (0 : Int)] Ty_api_Range fun b2 w11 =>
              (sxStore w11 ⟨b2, 0, none⟩ 0 [(.int .i64 x_01), (.int .i64 x_11), (.int .i64 x_21)] fun w12 =>
              (kLdS w12 ⟨b, 3, none⟩ fun x_a11 _ x_c11 =>
              (kLd w12 ⟨b2, 1, none⟩ .i64 fun x10 =>
              (kLd w12 ⟨b2, 2, none⟩ .i64 fun x11 =>
              ((0 ≤ x11 ∧ x11 ≤ ((x_c11 : Nat) : Int)) ∧ ((0 ≤ x10 ∧ x10 ≤ ((x11.toNat : Nat) : Int)) ∧ (Calls Try.prog N_slices_ContainsFunc_Sbyte_byte #[(.slice (slAddr x_c11 (x10.toNat) 1 x_a11) (x11.toNat - x10.toNat) (x_c11 - x10.toNat)), (.func (.func N_receiver_partial_2) #[] #[])] w12 fun e_5 w13 =>
              ∃ r5 : Bool, e_5 = .returned (.bool r5) ∧
              (bsplit r5
                (R (.bool false) w13)
                ((kW .i64 (x9 + (1 : Int)) fun x12 =>
                ((I x12).2 w13 ∧ (I x12).1 < (I x9).1)))))))))))))))
              (R (.bool true) w10))))))))))) ∧
      (kDrew w2 fun w3 =>
      (∃ S : Nat → Prop,
      (kLdS w3 ⟨b, 4, none⟩ fun _ x_l3 _ =>
      (bsplit (decide ((x_l3 : Int) = (0 : Int)))
        (J1 true w3)
        ((kLdS w3 ⟨b, 4, none⟩ fun x_a4 x_l4 x_c4 =>
        (Calls Try.prog N_segment_Normal #[(.slice x_a4 x_l4 x_c4)] w3 fun e_ w4 =>
        ∃ r : Bool, e_ = .returned (.bool r) ∧
        (KeepsB S w3 w4 ∧ (bsplit (!r)
          (J1 true w4)
          ((S b ∧
          (kLdS w3 ⟨b, 4, none⟩ fun x_a5 x_l5 x_c5 =>
          (Calls Try.prog N_slices_ContainsFunc_Sapi_Range_api_Range #[(.slice x_a5 x_l5 x_c5), (.func (.func N_receiver_partial_1) #[] #[(.pointer (some ⟨b, 0, none⟩))])] w4 fun e_1 w5 =>
          ∃ r1 : Bool, e_1 = .returned (.bool r1) ∧
          (KeepsB S w3 w5 ∧ (bsplit r1
            (J1 true w5)
            ((S b ∧
            (kLdS w3 ⟨b, 3, none⟩ fun _ x_l6 _ =>
            (S b ∧
            (kLdS w3 ⟨b, 4, none⟩ fun x_a7 x_l7 x_c7 =>
            (Calls Try.prog N_receiver_end #[(.slice x_a7 x_l7 x_c7)] w5 fun e_2 w6 =>
            ∃ r2 : Int, e_2 = .returned (.int .i64 r2) ∧
            (KeepsB S w3 w6 ∧ (bsplit (!decide ((x_l6 : Int) = r2))
              (J1 true w6)
              ((S b ∧
              (kLdS w3 ⟨b, 3, none⟩ fun _ x_l8 _ =>
              (bsplit (decide ((x_l8 : Int) > (2054 : Int)))
                (J1 true w6)
                ((S b ∧
                (∃ x_0 : Int, ∃ x_1 : Bool, ∃ x_2 : Int, ∃ x_3_a : Option Addr, ∃ x_3_l x_3_c : Nat, ∃ x_4_a : Option Addr, ∃ x_4_l x_4_c : Nat, cellsAt w3 ⟨b, 0, none⟩ 0 [(.int .i64 x_0), (.bool x_1), (.int .i64 x_2), (.slice x_3_a x_3_l x_3_c), (.slice x_4_a x_4_l x_4_c)] ∧
                (Calls Try.prog N_receiver_complete #[(.agg #[.int .i64 x_0, .bool x_1, .int .i64 x_2, .slice x_3_a x_3_l x_3_c, .slice x_4_a x_4_l x_4_c])] w6 fun e_3 w7 =>
                ∃ r3 : Bool, e_3 = .returned (.bool r3) ∧
                (KeepsB S w3 w7 ∧ J1 r3 w7)))))))))))))))))))))))))))))))))) ∧
    (kLd w1 ⟨b, 2, none⟩ .i64 fun x3 =>
    (bsplit (!decide (x3 = (-1 : Int)))
      ((kLd w1 ⟨b, 2, none⟩ .i64 fun x4 =>
      (bsplit (decide (x4 < (1 : Int)))
        (R (.bool false) w1)
        ((kLd w1 ⟨b, 2, none⟩ .i64 fun x5 =>
        (bsplit (decide (x5 > (2054 : Int)))
          (R (.bool false) w1)
          ((kLdS w1 ⟨b, 3, none⟩ fun _ x_l2 _ =>
          (kLd w1 ⟨b, 2, none⟩ .i64 fun x6 =>
          (bsplit (decide ((x_l2 : Int) > x6))
            (R (.bool false) w1)
            (J w1)))))))))))
      (J w1))))))))
theorem F_receiver_partial_eq (p_0 : Int) (p_1 : Bool) (p_2 : Int) (p_3_a : Option Addr) (p_3_l : Nat) (p_3_c : Nat) (p_4_a : Option Addr) (p_4_l : Nat) (p_4_c : Nat) (w : World) (R : Value → World → Prop) : sxFn Try.prog TT h_receiver_partial Try.f85 #[(.agg #[.int .i64 p_0, .bool p_1, .int .i64 p_2, .slice p_3_a p_3_l p_3_c, .slice p_4_a p_4_l p_4_c])] w R = F_receiver_partial p_0 p_1 p_2 p_3_a p_3_l p_3_c p_4_a p_4_l p_4_c w R := by kernel_rfl
theorem F_receiver_partial_ok {R : Ending → World → Prop} (p_0 : Int) (p_1 : Bool) (p_2 : Int) (p_3_a : Option Addr) (p_3_l : Nat) (p_3_c : Nat) (p_4_a : Option Addr) (p_4_l : Nat) (p_4_c : Nat) (w : World) (h : F_receiver_partial p_0 p_1 p_2 p_3_a p_3_l p_3_c p_4_a p_4_l p_4_c w fun v w' => R (.returned v) w') : Calls Try.prog N_receiver_partial #[(.agg #[.int .i64 p_0, .bool p_1, .int .i64 p_2, .slice p_3_a p_3_l p_3_c, .slice p_4_a p_4_l p_4_c])] w R :=
  calls_of (f := 85) follows_ok Try.func85 (Eq.mpr (F_receiver_partial_eq p_0 p_1 p_2 p_3_a p_3_l p_3_c p_4_a p_4_l p_4_c w _) h)

def h_receiver_end : H := (.seq .reg (.seq (.seq .reg (.cond (.seq .reg .leaf) .leaf)) (.seq .reg .leaf)))
def F_receiver_end (l_a : Option Addr) (l_l : Nat) (_ : Nat) (w : World) (R : Value → World → Prop) : Prop :=
  (bsplit (decide ((l_l : Int) = (0 : Int)))
    (R (.int .i64 (0 : Int)) w)
    ((kW .i64 ((l_l : Int) - (1 : Int)) fun x =>
    (kIx l_a l_l x fun b =>
    (kLd w ((b.add (x.toNat * 3)).add 2) .i64 fun x1 =>
    R (.int .i64 x1) w)))))
theorem F_receiver_end_eq (l_a : Option Addr) (l_l : Nat) (l_c : Nat) (w : World) (R : Value → World → Prop) : sxFn Try.prog TT h_receiver_end Try.f86 #[(.slice l_a l_l l_c)] w R = F_receiver_end l_a l_l l_c w R := by kernel_rfl
theorem F_receiver_end_ok {R : Ending → World → Prop} (l_a : Option Addr) (l_l : Nat) (l_c : Nat) (w : World) (h : F_receiver_end l_a l_l l_c w fun v w' => R (.returned v) w') : Calls Try.prog N_receiver_end #[(.slice l_a l_l l_c)] w R :=
  calls_of (f := 86) follows_ok Try.func86 (Eq.mpr (F_receiver_end_eq l_a l_l l_c w _) h)

def h_receiver_piece_known_1 : H := (.seq .reg (.seq .reg .leaf))
def F_receiver_piece_known_1 (r_0 : Int) (r_1 : Int) (r_2 : Int) (cap0_b : Nat) (cap0_o : Nat) (w : World) (R : Value → World → Prop) : Prop :=
  (kAlloc w #[(.int .i64 r_0), (.int .i64 r_1), (.int .i64 r_2)] Ty_api_Range fun b w1 =>
  (kLd w1 ⟨b, 1, none⟩ .i64 fun x =>
  (kLd w1 ⟨cap0_b, cap0_o + 3, none⟩ .i64 fun x1 =>
  (bsplit (decide (x ≤ x1))
    ((kLd w1 ⟨b, 2, none⟩ .i64 fun x2 =>
    (kLd w1 ⟨cap0_b, cap0_o + 5, none⟩ .i64 fun x3 =>
    (kLet (decide (x2 ≥ x3)) fun x4 =>
    R (.bool x4) w1))))
    (R (.bool false) w1)))))
theorem F_receiver_piece_known_1_eq (r_0 : Int) (r_1 : Int) (r_2 : Int) (cap0_b : Nat) (cap0_o : Nat) (w : World) (R : Value → World → Prop) : sxFn Try.prog TT h_receiver_piece_known_1 Try.f87 #[(.agg #[.int .i64 r_0, .int .i64 r_1, .int .i64 r_2]), (.pointer (some ⟨cap0_b, cap0_o, none⟩))] w R = F_receiver_piece_known_1 r_0 r_1 r_2 cap0_b cap0_o w R := by kernel_rfl
theorem F_receiver_piece_known_1_ok {R : Ending → World → Prop} (r_0 : Int) (r_1 : Int) (r_2 : Int) (cap0_b : Nat) (cap0_o : Nat) (w : World) (h : F_receiver_piece_known_1 r_0 r_1 r_2 cap0_b cap0_o w fun v w' => R (.returned v) w') : Calls Try.prog N_receiver_piece_known_1 #[(.agg #[.int .i64 r_0, .int .i64 r_1, .int .i64 r_2]), (.pointer (some ⟨cap0_b, cap0_o, none⟩))] w R :=
  calls_of (f := 87) follows_ok Try.func87 (Eq.mpr (F_receiver_piece_known_1_eq r_0 r_1 r_2 cap0_b cap0_o w _) h)

def h_slices_ContainsFunc_Sapi_Range_api_Range : H := (.seq .reg (.seq .reg .leaf))
def F_slices_ContainsFunc_Sapi_Range_api_Range (s_a : Option Addr) (s_l : Nat) (s_c : Nat) (f_g : Nat) (f_f : Array Value) (f_c : Array Value) (w : World) (R : Value → World → Prop) : Prop :=
  (Calls Try.prog N_slices_IndexFunc_Sapi_Range_api_Range #[(.slice s_a s_l s_c), (.func (.func f_g) f_f f_c)] w fun e_ w1 =>
  ∃ r : Int, e_ = .returned (.int .i64 r) ∧
  (kLet (decide (r ≥ (0 : Int))) fun x =>
  R (.bool x) w1))
theorem F_slices_ContainsFunc_Sapi_Range_api_Range_eq (s_a : Option Addr) (s_l : Nat) (s_c : Nat) (f_g : Nat) (f_f : Array Value) (f_c : Array Value) (w : World) (R : Value → World → Prop) : sxFn Try.prog TT h_slices_ContainsFunc_Sapi_Range_api_Range Try.f88 #[(.slice s_a s_l s_c), (.func (.func f_g) f_f f_c)] w R = F_slices_ContainsFunc_Sapi_Range_api_Range s_a s_l s_c f_g f_f f_c w R := by kernel_rfl
theorem F_slices_ContainsFunc_Sapi_Range_api_Range_ok {R : Ending → World → Prop} (s_a : Option Addr) (s_l : Nat) (s_c : Nat) (f_g : Nat) (f_f : Array Value) (f_c : Array Value) (w : World) (h : F_slices_ContainsFunc_Sapi_Range_api_Range s_a s_l s_c f_g f_f f_c w fun v w' => R (.returned v) w') : Calls Try.prog N_slices_ContainsFunc_Sapi_Range_api_Range #[(.slice s_a s_l s_c), (.func (.func f_g) f_f f_c)] w R :=
  calls_of (f := 88) follows_ok Try.func88 (Eq.mpr (F_slices_ContainsFunc_Sapi_Range_api_Range_eq s_a s_l s_c f_g f_f f_c w _) h)

def h_slices_rotateLeft_api_Partial : H := (.seq .reg (.seq .reg .reg))
def F_slices_rotateLeft_api_Partial (s_a : Option Addr) (s_l : Nat) (s_c : Nat) (r : Int) (w : World) (R : Value → World → Prop) : Prop :=
  ((0 ≤ r ∧ r ≤ ((s_c : Nat) : Int)) ∧ (Calls Try.prog N_slices_Reverse_Sapi_Partial_api_Partial #[(.slice (slAddr s_c 0 5 s_a) (r.toNat - 0) (s_c - 0))] w fun e_ w1 =>
  e_ = .returned (.tuple #[]) ∧
  ((0 ≤ r ∧ r ≤ ((s_l : Nat) : Int)) ∧ (Calls Try.prog N_slices_Reverse_Sapi_Partial_api_Partial #[(.slice (slAddr s_c (r.toNat) 5 s_a) (s_l - r.toNat) (s_c - r.toNat))] w1 fun e_1 w2 =>
  e_1 = .returned (.tuple #[]) ∧
  (Calls Try.prog N_slices_Reverse_Sapi_Partial_api_Partial #[(.slice s_a s_l s_c)] w2 fun e_2 w3 =>
  e_2 = .returned (.tuple #[]) ∧
  R (.tuple #[]) w3)))))
theorem F_slices_rotateLeft_api_Partial_eq (s_a : Option Addr) (s_l : Nat) (s_c : Nat) (r : Int) (w : World) (R : Value → World → Prop) : sxFn Try.prog TT h_slices_rotateLeft_api_Partial Try.f89 #[(.slice s_a s_l s_c), (.int .i64 r)] w R = F_slices_rotateLeft_api_Partial s_a s_l s_c r w R := by kernel_rfl
theorem F_slices_rotateLeft_api_Partial_ok {R : Ending → World → Prop} (s_a : Option Addr) (s_l : Nat) (s_c : Nat) (r : Int) (w : World) (h : F_slices_rotateLeft_api_Partial s_a s_l s_c r w fun v w' => R (.returned v) w') : Calls Try.prog N_slices_rotateLeft_api_Partial #[(.slice s_a s_l s_c), (.int .i64 r)] w R :=
  calls_of (f := 89) follows_ok Try.func89 (Eq.mpr (F_slices_rotateLeft_api_Partial_eq s_a s_l s_c r w _) h)

def h_segment_Normal : H := (.seq .reg (.seq (.seq .reg (.block (.loop [(7, .p (.int .i64))] [2, 3, 4, 7, 8, 9, 10, 11, 12, 13, 14, 15, 16, 17, 18, 19, 20, 21, 22, 23, 24, 25, 26, 27, 28, 29, 30, 31, 32, 33, 34, 35, 36, 37] (.seq .reg (.seq (.cond .leaf .leaf) (.seq (.block (.seq .reg (.seq (.draw .no (.one 0 .stable (.one 1 .stable (.one 2 .stable (.one 3 .stable (.one 4 .stable (.one 5 .stable (.one 6 .stable (.one 7 .stable (.one 8 .stable (.one 9 .stable (.one 10 .stable (.one 11 .stable (.one 12 .stable (.one 13 .stable (.one 14 .stable (.one 15 .stable (.one 16 .stable (.one 17 .stable (.one 18 .stable (.one 19 .stable (.one 20 .stable (.one 21 .stable (.one 22 .stable (.one 23 .stable (.one 24 .stable .nil)))))))))))))))))))))))))) (.cond (.seq .reg .leaf) .leaf)))) .reg)))))) (.seq .reg .leaf)))
def F_segment_Normal (l_a : Option Addr) (l_l : Nat) (_ : Nat) (w : World) (R : Value → World → Prop) : Prop :=
  (∃ I : Int → Nat × (World → Prop), (I (0 : Int)).2 w ∧
  (∀ (_junk : Env) (x : Int) (w1 : World), (I x).2 w1 →
    (bsplit (decide (x < (l_l : Int)))
      ((kIx l_a l_l x fun b =>
      (∃ x_0 x_1 x_2 : Int, cellsAt w1 (b.add (x.toNat * 3)) 0 [(.int .i64 x_0), (.int .i64 x_1), (.int .i64 x_2)] ∧
      (kAlloc w1 #[.int .i64 (0 : Int), .int .i64 (0 : Int), .int .i64 (0 : Int)] Ty_api_Range fun b1 w2 =>
      (sxStore w2 ⟨b1, 0, none⟩ 0 [(.int .i64 x_0), (.int .i64 x_1), (.int .i64 x_2)] fun w3 =>
      (kDrew w3 fun w4 =>
      (kLd w4 ⟨b1, 1, none⟩ .i64 fun x1 =>
      (bsplit (decide (x1 < (0 : Int)))
        (R (.bool false) w4)
        ((kLd w4 ⟨b1, 1, none⟩ .i64 fun x3 =>
        (kLd w4 ⟨b1, 2, none⟩ .i64 fun x4 =>
        (bsplit (decide (x3 ≥ x4))
          (R (.bool false) w4)
          ((bsplit (decide (x > (0 : Int)))
            ((kLd w4 ⟨b1, 1, none⟩ .i64 fun x6 =>
            (kW .i64 (x - (1 : Int)) fun x7 =>
            (kIx l_a l_l x7 fun b2 =>
            (kLd w4 ((b2.add (x7.toNat * 3)).add 2) .i64 fun x8 =>
            (bsplit (decide (x6 ≤ x8))
              (R (.bool false) w4)
              ((kW .i64 (x + (1 : Int)) fun x9 =>
              ((I x9).2 w4 ∧ (I x9).1 < (I x).1)))))))))
            ((kW .i64 (x + (1 : Int)) fun x10 =>
              ((I x10).2 w4 ∧ (I x10).1 < (I x).1)))))))))))))))))
      (R (.bool true) w1))))
theorem F_segment_Normal_eq (l_a : Option Addr) (l_l : Nat) (l_c : Nat) (w : World) (R : Value → World → Prop) : sxFn Try.prog TT h_segment_Normal Try.f90 #[(.slice l_a l_l l_c)] w R = F_segment_Normal l_a l_l l_c w R := by kernel_rfl
theorem F_segment_Normal_ok {R : Ending → World → Prop} (l_a : Option Addr) (l_l : Nat) (l_c : Nat) (w : World) (h : F_segment_Normal l_a l_l l_c w fun v w' => R (.returned v) w') : Calls Try.prog N_segment_Normal #[(.slice l_a l_l l_c)] w R :=
  calls_of (f := 90) follows_ok Try.func90 (Eq.mpr (F_segment_Normal_eq l_a l_l l_c w _) h)

def h_slices_Concat_Sapi_Range_api_Range : H := (.seq .reg (.seq .reg (.seq (.seq .reg (.block (.loop [(3, .p (.int .i64)), (11, .p (.int .i64))] [3, 5, 11, 12, 13, 14, 15, 16, 17, 18, 19, 20, 21, 22] (.seq .reg (.seq (.cond .leaf .leaf) (.seq (.block (.seq .reg (.seq .reg (.seq .reg (.cond .reg .leaf))))) .reg)))))) (.seq .reg (.seq (.seq .reg (.block (.loop [(6, .p .slice), (27, .p (.int .i64))] [6, 8, 27, 28, 29, 30, 31, 32, 33, 34] (.seq .reg (.seq (.cond .leaf .leaf) (.seq (.block (.seq .reg .reg)) .reg)))))) (.seq .reg .leaf))))))
def F_slices_Concat_Sapi_Range_api_Range (slices_a : Option Addr) (slices_l : Nat) (_ : Nat) (w : World) (R : Value → World → Prop) : Prop :=
  (∃ I : Int → Int → Nat × (World → Prop), (I (0 : Int) (0 : Int)).2 w ∧
  (∀ (_junk : Env) (size : Int) (x : Int) (w1 : World), (I size x).2 w1 →
    (bsplit (decide (x < (slices_l : Int)))
      ((kIx slices_a slices_l x fun b =>
      (kLdS w1 (b.add (x.toNat * 1)) fun _ x_l _ =>
      (kW .i64 (size + (x_l : Int)) fun x1 =>
      (bsplit (decide (x1 < (0 : Int)))
        (False)
        ((kW .i64 (x + (1 : Int)) fun x2 =>
        ((I x1 x2).2 w1 ∧ (I x1 x2).1 < (I size x).1))))))))
      ((Calls Try.prog N_slices_Grow_Sapi_Range_api_Range #[(.slice none 0 0), (.int .i64 size)] w1 fun e_ w2 =>
      ∃ r_a : Option Addr, ∃ r_l r_c : Nat, e_ = .returned (.slice r_a r_l r_c) ∧
      (∃ I1 : Option Addr → Nat → Nat → Int → Nat × (World → Prop), (I1 r_a r_l r_c (0 : Int)).2 w2 ∧
      (∀ (_junk : Env) (newslice_a : Option Addr) (newslice_l : Nat) (newslice_c : Nat) (x3 : Int) (w3 : World), (I1 newslice_a newslice_l newslice_c x3).2 w3 →
        (bsplit (decide (x3 < (slices_l : Int)))
          ((kIx slices_a slices_l x3 fun b1 =>
          (kLdS w3 (b1.add (x3.toNat * 1)) fun x_a1 x_l1 x_c1 =>
          (AppP Try.prog #[Ty_S_api_Range, Ty_S_api_Range] Ty_S_api_Range #[(.slice newslice_a newslice_l newslice_c), (.slice x_a1 x_l1 x_c1)] w3 fun x_a2 x_l2 x_c2 w4 =>
          (kW .i64 (x3 + (1 : Int)) fun x4 =>
          ((I1 x_a2 x_l2 x_c2 x4).2 w4 ∧ (I1 x_a2 x_l2 x_c2 x4).1 < (I1 newslice_a newslice_l newslice_c x3).1))))))
          (R (.slice newslice_a newslice_l newslice_c) w3)))))))))
theorem F_slices_Concat_Sapi_Range_api_Range_eq (slices_a : Option Addr) (slices_l : Nat) (slices_c : Nat) (w : World) (R : Value → World → Prop) : sxFn Try.prog TT h_slices_Concat_Sapi_Range_api_Range Try.f91 #[(.slice slices_a slices_l slices_c)] w R = F_slices_Concat_Sapi_Range_api_Range slices_a slices_l slices_c w R := by kernel_rfl
theorem F_slices_Concat_Sapi_Range_api_Range_ok {R : Ending → World → Prop} (slices_a : Option Addr) (slices_l : Nat) (slices_c : Nat) (w : World) (h : F_slices_Concat_Sapi_Range_api_Range slices_a slices_l slices_c w fun v w' => R (.returned v) w') : Calls Try.prog N_slices_Concat_Sapi_Range_api_Range #[(.slice slices_a slices_l slices_c)] w R :=
  calls_of (f := 91) follows_ok Try.func91 (Eq.mpr (F_slices_Concat_Sapi_Range_api_Range_eq slices_a slices_l slices_c w _) h)

def h_receiver_partial_1 : H := (.seq .reg (.seq .reg .leaf))
def F_receiver_partial_1 (r_0 : Int) (r_1 : Int) (r_2 : Int) (cap0_b : Nat) (cap0_o : Nat) (w : World) (R : Value → World → Prop) : Prop :=
  (kAlloc w #[(.int .i64 r_0), (.int .i64 r_1), (.int .i64 r_2)] Ty_api_Range fun b w1 =>
  (kLd w1 ⟨b, 0, none⟩ .i64 fun x =>
  (kLd w1 ⟨cap0_b, cap0_o, none⟩ .i64 fun x1 =>
  (kLet (!decide (x = x1)) fun x2 =>
  R (.bool x2) w1))))
theorem F_receiver_partial_1_eq (r_0 : Int) (r_1 : Int) (r_2 : Int) (cap0_b : Nat) (cap0_o : Nat) (w : World) (R : Value → World → Prop) : sxFn Try.prog TT h_receiver_partial_1 Try.f92 #[(.agg #[.int .i64 r_0, .int .i64 r_1, .int .i64 r_2]), (.pointer (some ⟨cap0_b, cap0_o, none⟩))] w R = F_receiver_partial_1 r_0 r_1 r_2 cap0_b cap0_o w R := by kernel_rfl
theorem F_receiver_partial_1_ok {R : Ending → World → Prop} (r_0 : Int) (r_1 : Int) (r_2 : Int) (cap0_b : Nat) (cap0_o : Nat) (w : World) (h : F_receiver_partial_1 r_0 r_1 r_2 cap0_b cap0_o w fun v w' => R (.returned v) w') : Calls Try.prog N_receiver_partial_1 #[(.agg #[.int .i64 r_0, .int .i64 r_1, .int .i64 r_2]), (.pointer (some ⟨cap0_b, cap0_o, none⟩))] w R :=
  calls_of (f := 92) follows_ok Try.func92 (Eq.mpr (F_receiver_partial_1_eq r_0 r_1 r_2 cap0_b cap0_o w _) h)

def h_segment_Gaps : H := (.seq .reg (.seq (.seq .reg (.cond (.seq .reg .leaf) .leaf)) (.cut [] [6, 7, 8, 16, 17, 18, 19, 20, 21, 22, 23, 24, 25, 26, 27, 28, 29, 30, 31, 32, 33] (.seq .reg (.seq .reg (.cond (.seq .reg .leaf) .leaf))) (.seq .reg (.seq .reg (.seq (.seq .reg (.block (.loop [(9, .p .slice), (10, .p (.int .i64)), (42, .p (.int .i64))] [9, 10, 12, 42, 43, 44, 45, 46, 47, 48, 49, 50, 51, 52, 53, 54, 55, 56, 57, 58, 59, 60] (.seq .reg (.seq (.cond .leaf .leaf) (.seq (.block (.seq .reg (.seq (.seq .reg (.cond .reg .leaf)) .reg))) .reg)))))) (.seq .reg .leaf)))))))
def F_segment_Gaps (l_a : Option Addr) (l_l : Nat) (l_c : Nat) (sn : Int) (length : Int) (w : World) (R : Value → World → Prop) : Prop :=
  (Calls Try.prog N_segment_Normal #[(.slice l_a l_l l_c)] w fun e_ w1 =>
  ∃ r : Bool, e_ = .returned (.bool r) ∧
  (bsplit (!r)
    (R (.tuple #[(.slice none 0 0), (.int .i64 (4 : Int))]) w1)
    ((∃ J : World → Prop,
    (∀ (_junk : Env)  (w2 : World), J w2 →
      (Calls Try.prog N_slices_Clone_Sapi_Range_api_Range #[(.slice l_a l_l l_c)] w2 fun e_1 w3 =>
      ∃ r_a : Option Addr, ∃ r_l r_c : Nat, e_1 = .returned (.slice r_a r_l r_c) ∧
      (kAlloc w3 #[(.int .i64 (0 : Int)), (.int .i64 length), (.int .i64 length)] Ty_api_Range fun b1 w4 =>
      (AppP Try.prog #[Ty_S_api_Range, Ty_S_api_Range] Ty_S_api_Range #[(.slice r_a r_l r_c), (.slice (some ⟨b1, 0, none⟩) 1 1)] w4 fun x_a x_l _ w5 =>
      (∃ I : Option Addr → Nat → Nat → Int → Int → Nat × (World → Prop), (I none 0 0 (0 : Int) (0 : Int)).2 w5 ∧
      (∀ (_junk : Env) (out_a : Option Addr) (out_l : Nat) (out_c : Nat) (at1 : Int) (x2 : Int) (w6 : World), (I out_a out_l out_c at1 x2).2 w6 →
        (bsplit (decide (x2 < (x_l : Int)))
          ((kIx x_a x_l x2 fun b2 =>
          (∃ x_0 x_1 x_2 : Int, cellsAt w6 (b2.add (x2.toNat * 3)) 0 [(.int .i64 x_0), (.int .i64 x_1), (.int .i64 x_2)] ∧
          (kAlloc w6 #[.int .i64 (0 : Int), .int .i64 (0 : Int), .int .i64 (0 : Int)] Ty_api_Range fun b3 w7 =>
          (sxStore w7 ⟨b3, 0, none⟩ 0 [(.int .i64 x_0), (.int .i64 x_1), (.int .i64 x_2)] fun w8 =>
          (kLd w8 ⟨b3, 1, none⟩ .i64 fun x3 =>
          (bsplit (decide (x3 > at1))
            ((kLd w8 ⟨b3, 1, none⟩ .i64 fun x4 =>
            (kAlloc w8 #[(.int .i64 sn), (.int .i64 at1), (.int .i64 x4)] Ty_api_Range fun b4 w9 =>
            (AppP Try.prog #[Ty_S_api_Range, Ty_S_api_Range] Ty_S_api_Range #[(.slice out_a out_l out_c), (.slice (some ⟨b4, 0, none⟩) 1 1)] w9 fun x_a1 x_l1 x_c1 w10 =>
            (kLd w10 ⟨b3, 2, none⟩ .i64 fun x5 =>
            (kW .i64 (x2 + (1 : Int)) fun x6 =>
            ((I x_a1 x_l1 x_c1 x5 x6).2 w10 ∧ (I x_a1 x_l1 x_c1 x5 x6).1 < (I out_a out_l out_c at1 x2).1)))))))
            ((kLd w8 ⟨b3, 2, none⟩ .i64 fun x7 =>
            (kW .i64 (x2 + (1 : Int)) fun x8 =>
            ((I out_a out_l out_c x7 x8).2 w8 ∧ (I out_a out_l out_c x7 x8).1 < (I out_a out_l out_c at1 x2).1)))))))))))
          (R (.tuple #[(.slice out_a out_l out_c), (.int .i64 (0 : Int))]) w6)))))))) ∧
    (bsplit (decide (length < (0 : Int)))
      (R (.tuple #[(.slice none 0 0), (.int .i64 (3 : Int))]) w1)
      ((bsplit (decide ((l_l : Int) > (0 : Int)))
        ((kW .i64 ((l_l : Int) - (1 : Int)) fun x =>
        (kIx l_a l_l x fun b =>
        (kLd w1 ((b.add (x.toNat * 3)).add 2) .i64 fun x1 =>
        (bsplit (decide (length < x1))
          (R (.tuple #[(.slice none 0 0), (.int .i64 (3 : Int))]) w1)
          (J w1))))))
        (J w1))))))))
theorem F_segment_Gaps_eq (l_a : Option Addr) (l_l : Nat) (l_c : Nat) (sn : Int) (length : Int) (w : World) (R : Value → World → Prop) : sxFn Try.prog TT h_segment_Gaps Try.f93 #[(.slice l_a l_l l_c), (.int .i64 sn), (.int .i64 length)] w R = F_segment_Gaps l_a l_l l_c sn length w R := by kernel_rfl
theorem F_segment_Gaps_ok {R : Ending → World → Prop} (l_a : Option Addr) (l_l : Nat) (l_c : Nat) (sn : Int) (length : Int) (w : World) (h : F_segment_Gaps l_a l_l l_c sn length w fun v w' => R (.returned v) w') : Calls Try.prog N_segment_Gaps #[(.slice l_a l_l l_c), (.int .i64 sn), (.int .i64 length)] w R :=
  calls_of (f := 93) follows_ok Try.func93 (Eq.mpr (F_segment_Gaps_eq l_a l_l l_c sn length w _) h)

def h_slices_ContainsFunc_Sbyte_byte : H := (.seq .reg (.seq .reg .leaf))
def F_slices_ContainsFunc_Sbyte_byte (s_a : Option Addr) (s_l : Nat) (s_c : Nat) (f_g : Nat) (f_f : Array Value) (f_c : Array Value) (w : World) (R : Value → World → Prop) : Prop :=
  (Calls Try.prog N_slices_IndexFunc_Sbyte_byte #[(.slice s_a s_l s_c), (.func (.func f_g) f_f f_c)] w fun e_ w1 =>
  ∃ r : Int, e_ = .returned (.int .i64 r) ∧
  (kLet (decide (r ≥ (0 : Int))) fun x =>
  R (.bool x) w1))
theorem F_slices_ContainsFunc_Sbyte_byte_eq (s_a : Option Addr) (s_l : Nat) (s_c : Nat) (f_g : Nat) (f_f : Array Value) (f_c : Array Value) (w : World) (R : Value → World → Prop) : sxFn Try.prog TT h_slices_ContainsFunc_Sbyte_byte Try.f94 #[(.slice s_a s_l s_c), (.func (.func f_g) f_f f_c)] w R = F_slices_ContainsFunc_Sbyte_byte s_a s_l s_c f_g f_f f_c w R := by kernel_rfl
theorem F_slices_ContainsFunc_Sbyte_byte_ok {R : Ending → World → Prop} (s_a : Option Addr) (s_l : Nat) (s_c : Nat) (f_g : Nat) (f_f : Array Value) (f_c : Array Value) (w : World) (h : F_slices_ContainsFunc_Sbyte_byte s_a s_l s_c f_g f_f f_c w fun v w' => R (.returned v) w') : Calls Try.prog N_slices_ContainsFunc_Sbyte_byte #[(.slice s_a s_l s_c), (.func (.func f_g) f_f f_c)] w R :=
  calls_of (f := 94) follows_ok Try.func94 (Eq.mpr (F_slices_ContainsFunc_Sbyte_byte_eq s_a s_l s_c f_g f_f f_c w _) h)

def h_receiver_partial_2 : H := (.seq .reg (.seq .reg .leaf))
def F_receiver_partial_2 (c : Int) (w : World) (R : Value → World → Prop) : Prop :=
  (kLet (!decide (c = (0 : Int))) fun x =>
  R (.bool x) w)
theorem F_receiver_partial_2_eq (c : Int) (w : World) (R : Value → World → Prop) : sxFn Try.prog TT h_receiver_partial_2 Try.f95 #[(.int .u8 c)] w R = F_receiver_partial_2 c w R := by kernel_rfl
theorem F_receiver_partial_2_ok {R : Ending → World → Prop} (c : Int) (w : World) (h : F_receiver_partial_2 c w fun v w' => R (.returned v) w') : Calls Try.prog N_receiver_partial_2 #[(.int .u8 c)] w R :=
  calls_of (f := 95) follows_ok Try.func95 (Eq.mpr (F_receiver_partial_2_eq c w _) h)

def h_slices_IndexFunc_Sapi_Range_api_Range : H := (.seq .reg (.seq (.seq .reg (.block (.loop [(8, .p (.int .i64))] [4, 5, 8, 9, 10, 11, 12, 13, 14, 15, 16, 17, 18] (.seq .reg (.seq (.cond .leaf .leaf) (.seq (.block (.seq .reg (.seq .reg (.cond (.seq .reg .leaf) .leaf)))) .reg)))))) (.seq .reg .leaf)))
def F_slices_IndexFunc_Sapi_Range_api_Range (s_a : Option Addr) (s_l : Nat) (_ : Nat) (f_g : Nat) (f_f : Array Value) (f_c : Array Value) (w : World) (R : Value → World → Prop) : Prop :=
  (∃ I : Int → Nat × (World → Prop), (I (0 : Int)).2 w ∧
  (∀ (_junk : Env) (x : Int) (w1 : World), (I x).2 w1 →
    (bsplit (decide (x < (s_l : Int)))
      ((kIx s_a s_l x fun b =>
      (∃ x_0 x_1 x_2 : Int, cellsAt w1 (b.add (x.toNat * 3)) 0 [(.int .i64 x_0), (.int .i64 x_1), (.int .i64 x_2)] ∧
      (okFn Try.prog f_g = true ∧ Calls Try.prog f_g (f_f ++ #[(.agg #[.int .i64 x_0, .int .i64 x_1, .int .i64 x_2])] ++ f_c) w1 fun e_ w2 =>
      ∃ r : Bool, e_ = .returned (.bool r) ∧
      (bsplit r
        (R (.int .i64 x) w2)
        ((kW .i64 (x + (1 : Int)) fun x1 =>
        ((I x1).2 w2 ∧ (I x1).1 < (I x).1))))))))
      (R (.int .i64 (-1 : Int)) w1))))
theorem F_slices_IndexFunc_Sapi_Range_api_Range_eq (s_a : Option Addr) (s_l : Nat) (s_c : Nat) (f_g : Nat) (f_f : Array Value) (f_c : Array Value) (w : World) (R : Value → World → Prop) : sxFn Try.prog TT h_slices_IndexFunc_Sapi_Range_api_Range Try.f96 #[(.slice s_a s_l s_c), (.func (.func f_g) f_f f_c)] w R = F_slices_IndexFunc_Sapi_Range_api_Range s_a s_l s_c f_g f_f f_c w R := by kernel_rfl
theorem F_slices_IndexFunc_Sapi_Range_api_Range_ok {R : Ending → World → Prop} (s_a : Option Addr) (s_l : Nat) (s_c : Nat) (f_g : Nat) (f_f : Array Value) (f_c : Array Value) (w : World) (h : F_slices_IndexFunc_Sapi_Range_api_Range s_a s_l s_c f_g f_f f_c w fun v w' => R (.returned v) w') : Calls Try.prog N_slices_IndexFunc_Sapi_Range_api_Range #[(.slice s_a s_l s_c), (.func (.func f_g) f_f f_c)] w R :=
  calls_of (f := 96) follows_ok Try.func96 (Eq.mpr (F_slices_IndexFunc_Sapi_Range_api_Range_eq s_a s_l s_c f_g f_f f_c w _) h)

def h_slices_Reverse_Sapi_Partial_api_Partial : H := (.seq .reg (.block (.loop [(2, .p (.int .i64)), (3, .p (.int .i64))] [2, 3, 7, 8, 9, 10, 11, 12, 13, 14, 15, 16, 17, 18, 19, 20, 21, 22, 23, 24, 25, 26, 27] (.seq (.seq .reg (.cond .leaf .leaf)) (.seq (.block (.draw .blk (.one 0 .pre (.one 1 .pre (.one 2 .stable (.one 3 .stable (.one 4 .pre (.one 5 .pre (.one 6 .pre (.one 7 .pre (.one 8 .pre (.one 9 .pre (.one 10 .pre (.one 11 .pre (.one 12 .pre (.one 13 .keep (.one 14 .stable (.one 15 .last .nil)))))))))))))))))) .reg)))))
def F_slices_Reverse_Sapi_Partial_api_Partial (s_a : Option Addr) (s_l : Nat) (_ : Nat) (w : World) (R : Value → World → Prop) : Prop :=
  (kW .i64 ((s_l : Int) - (1 : Int)) fun x =>
  (∃ I : Int → Int → Nat × (World → Prop), (I (0 : Int) x).2 w ∧
  (∀ (_junk : Env) (i : Int) (j : Int) (w1 : World), (I i j).2 w1 →
    (bsplit (decide (i < j))
      ((kDrew w1 fun w2 =>
      (∃ S : Nat → Prop,
      (kIx s_a s_l j fun b =>
      (∃ x_0 : Int, ∃ x_1 : Bool, ∃ x_2 : Int, ∃ x_3_a : Option Addr, ∃ x_3_l x_3_c : Nat, ∃ x_4_a : Option Addr, ∃ x_4_l x_4_c : Nat, cellsAt w2 (b.add (j.toNat * 5)) 0 [(.int .i64 x_0), (.bool x_1), (.int .i64 x_2), (.slice x_3_a x_3_l x_3_c), (.slice x_4_a x_4_l x_4_c)] ∧
      (kIx s_a s_l i fun b1 =>
      (∃ x_01 : Int, ∃ x_11 : Bool, ∃ x_21 : Int, ∃ x_3_a1 : Option Addr, ∃ x_3_l1 x_3_c1 : Nat, ∃ x_4_a1 : Option Addr, ∃ x_4_l1 x_4_c1 : Nat, cellsAt w2 (b1.add (i.toNat * 5)) 0 [(.int .i64 x_01), (.bool x_11), (.int .i64 x_21), (.slice x_3_a1 x_3_l1 x_3_c1), (.slice x_4_a1 x_4_l1 x_4_c1)] ∧
      (kIx s_a s_l i fun b2 =>
      (sxStore w2 (b2.add (i.toNat * 5)) 0 [(.int .i64 x_0), (.bool x_1), (.int .i64 x_2), (.slice x_3_a x_3_l x_3_c), (.slice x_4_a x_4_l x_4_c)] fun w3 =>
      (KeepsB S w2 w3 ∧ (kIx s_a s_l j fun b3 =>
      (sxStore w3 (b3.add (j.toNat * 5)) 0 [(.int .i64 x_01), (.bool x_11), (.int .i64 x_21), (.slice x_3_a1 x_3_l1 x_3_c1), (.slice x_4_a1 x_4_l1 x_4_c1)] fun w4 =>
      (kW .i64 (i + (1 : Int)) fun x1 =>
      (kW .i64 (j - (1 : Int)) fun x2 =>
      ((I x1 x2).2 w4 ∧ (I x1 x2).1 < (I i j).1)))))))))))))))
      (R (.tuple #[]) w1)))))
theorem F_slices_Reverse_Sapi_Partial_api_Partial_eq (s_a : Option Addr) (s_l : Nat) (s_c : Nat) (w : World) (R : Value → World → Prop) : sxFn Try.prog TT h_slices_Reverse_Sapi_Partial_api_Partial Try.f97 #[(.slice s_a s_l s_c)] w R = F_slices_Reverse_Sapi_Partial_api_Partial s_a s_l s_c w R := by kernel_rfl
theorem F_slices_Reverse_Sapi_Partial_api_Partial_ok {R : Ending → World → Prop} (s_a : Option Addr) (s_l : Nat) (s_c : Nat) (w : World) (h : F_slices_Reverse_Sapi_Partial_api_Partial s_a s_l s_c w fun v w' => R (.returned v) w') : Calls Try.prog N_slices_Reverse_Sapi_Partial_api_Partial #[(.slice s_a s_l s_c)] w R :=
  calls_of (f := 97) follows_ok Try.func97 (Eq.mpr (F_slices_Reverse_Sapi_Partial_api_Partial_eq s_a s_l s_c w _) h)

def h_slices_Grow_Sapi_Range_api_Range : H := (.seq .reg (.cut [] [5, 6, 7] (.seq .reg (.cond .reg .leaf)) (.seq (.seq .reg (.seq .reg (.cond .reg .leaf))) (.seq .reg .leaf))))
def F_slices_Grow_Sapi_Range_api_Range (s_a : Option Addr) (s_l : Nat) (s_c : Nat) (n : Int) (w : World) (R : Value → World → Prop) : Prop :=
  (∃ J : World → Prop,
  (∀ (_junk : Env)  (w1 : World), J w1 →
    (kW .i64 ((s_c : Int) - (s_l : Int)) fun x =>
    (kW .i64 (n - x) fun x1 =>
    (bsplit (decide (x1 > (0 : Int)))
      (((0 ≤ (s_c : Int) ∧ (s_c : Int) ≤ ((s_c : Nat) : Int)) ∧ (AppP Try.prog #[Ty_S_api_Range, Ty_int] Ty_S_api_Range #[(.slice (slAddr s_c 0 3 s_a) ((s_c : Int).toNat - 0) (s_c - 0)), (.int .i64 x1)] w1 fun x_a _ x_c w2 =>
      ((0 ≤ (s_l : Int) ∧ (s_l : Int) ≤ ((x_c : Nat) : Int)) ∧ R (.slice (slAddr x_c 0 3 x_a) ((s_l : Int).toNat - 0) (x_c - 0)) w2))))
      (R (.slice s_a s_l s_c) w1))))) ∧
  (bsplit (decide (n < (0 : Int)))
    (False)
    (J w)))
theorem F_slices_Grow_Sapi_Range_api_Range_eq (s_a : Option Addr) (s_l : Nat) (s_c : Nat) (n : Int) (w : World) (R : Value → World → Prop) : sxFn Try.prog TT h_slices_Grow_Sapi_Range_api_Range Try.f98 #[(.slice s_a s_l s_c), (.int .i64 n)] w R = F_slices_Grow_Sapi_Range_api_Range s_a s_l s_c n w R := by kernel_rfl
theorem F_slices_Grow_Sapi_Range_api_Range_ok {R : Ending → World → Prop} (s_a : Option Addr) (s_l : Nat) (s_c : Nat) (n : Int) (w : World) (h : F_slices_Grow_Sapi_Range_api_Range s_a s_l s_c n w fun v w' => R (.returned v) w') : Calls Try.prog N_slices_Grow_Sapi_Range_api_Range #[(.slice s_a s_l s_c), (.int .i64 n)] w R :=
  calls_of (f := 98) follows_ok Try.func98 (Eq.mpr (F_slices_Grow_Sapi_Range_api_Range_eq s_a s_l s_c n w _) h)

def h_slices_IndexFunc_Sbyte_byte : H := (.seq .reg (.seq (.seq .reg (.block (.loop [(8, .p (.int .i64))] [4, 5, 8, 9, 10, 11, 12, 13, 14, 15, 16, 17, 18] (.seq .reg (.seq (.cond .leaf .leaf) (.seq (.block (.seq .reg (.seq .reg (.cond (.seq .reg .leaf) .leaf)))) .reg)))))) (.seq .reg .leaf)))
def F_slices_IndexFunc_Sbyte_byte (s_a : Option Addr) (s_l : Nat) (_ : Nat) (f_g : Nat) (f_f : Array Value) (f_c : Array Value) (w : World) (R : Value → World → Prop) : Prop :=
  (∃ I : Int → Nat × (World → Prop), (I (0 : Int)).2 w ∧
  (∀ (_junk : Env) (x : Int) (w1 : World), (I x).2 w1 →
    (bsplit (decide (x < (s_l : Int)))
      ((kIx s_a s_l x fun b =>
      (kLd w1 (b.add (x.toNat * 1)) .u8 fun x1 =>
      (okFn Try.prog f_g = true ∧ Calls Try.prog f_g (f_f ++ #[(.int .u8 x1)] ++ f_c) w1 fun e_ w2 =>
      ∃ r : Bool, e_ = .returned (.bool r) ∧
      (bsplit r
        (R (.int .i64 x) w2)
        ((kW .i64 (x + (1 : Int)) fun x2 =>
        ((I x2).2 w2 ∧ (I x2).1 < (I x).1))))))))
      (R (.int .i64 (-1 : Int)) w1))))
theorem F_slices_IndexFunc_Sbyte_byte_eq (s_a : Option Addr) (s_l : Nat) (s_c : Nat) (f_g : Nat) (f_f : Array Value) (f_c : Array Value) (w : World) (R : Value → World → Prop) : sxFn Try.prog TT h_slices_IndexFunc_Sbyte_byte Try.f99 #[(.slice s_a s_l s_c), (.func (.func f_g) f_f f_c)] w R = F_slices_IndexFunc_Sbyte_byte s_a s_l s_c f_g f_f f_c w R := by kernel_rfl
theorem F_slices_IndexFunc_Sbyte_byte_ok {R : Ending → World → Prop} (s_a : Option Addr) (s_l : Nat) (s_c : Nat) (f_g : Nat) (f_f : Array Value) (f_c : Array Value) (w : World) (h : F_slices_IndexFunc_Sbyte_byte s_a s_l s_c f_g f_f f_c w fun v w' => R (.returned v) w') : Calls Try.prog N_slices_IndexFunc_Sbyte_byte #[(.slice s_a s_l s_c), (.func (.func f_g) f_f f_c)] w R :=
  calls_of (f := 99) follows_ok Try.func99 (Eq.mpr (F_slices_IndexFunc_Sbyte_byte_eq s_a s_l s_c f_g f_f f_c w _) h)

end Go.Proofs.Ytlgolgpellbnbaa
