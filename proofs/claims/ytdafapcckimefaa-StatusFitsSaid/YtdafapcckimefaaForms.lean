import Derived.Test.YtdafapcckimefaaBase
import Derived.KernelRfl
namespace Go.Proofs.Ytdafapcckimefaa
open Go.Sx Go.RowKit
set_option maxRecDepth 100000

def h_law19_StatusExact : H := (.seq .reg (.cut [] [6, 19, 20, 21, 22, 23, 24, 25, 26, 27, 28] (.seq .reg (.cond (.seq .reg .leaf) .leaf)) (.seq .reg (.seq .reg (.seq .reg (.seq .reg (.seq .reg (.seq .reg (.seq (.draw .blk (.one 0 .keep (.one 1 .stable (.one 2 .stable (.one 3 .stable (.one 4 .stable (.one 6 .stable (.one 7 .stable (.one 8 .stable (.one 5 .keep (.one 9 .keep (.one 10 .stable (.one 11 .stable (.one 12 .stable (.one 13 .stable (.one 14 .stable (.one 15 .stable (.one 16 .stable (.one 17 .stable (.one 18 .stable (.one 19 .stable (.one 20 .keep (.one 21 .stable (.one 22 .stable (.one 23 .stable (.one 24 .stable (.one 25 .stable (.one 26 .stable (.one 27 .stable (.one 28 .stable (.one 29 .stable (.one 30 .keep (.one 31 .stable (.one 32 .stable (.one 33 .stable (.one 34 .stable (.one 35 .stable (.one 36 .stable (.one 37 .stable (.one 38 .stable (.one 39 .stable (.one 40 .keep (.one 41 .stable (.one 42 .stable .nil)))))))))))))))))))))))))))))))))))))))))))) .leaf)))))))))
def F_law19_StatusExact (s_0 : Int) (s_1_a : Option Addr) (s_1_l : Nat) (s_1_c : Nat) (b_a : Option Addr) (b_l : Nat) (b_c : Nat) (n_0 : Int) (n_1 : Int) (w : World) (R : Value → World → Prop) : Prop :=
  (kAlloc w #[(.int .i64 s_0), (.slice s_1_a s_1_l s_1_c)] Ty_api_Status fun b w1 =>
  (kAlloc w1 #[(.int .i64 n_0), (.int .i64 n_1)] Ty_2_int fun b1 w2 =>
  (∃ J : World → Prop,
  (∀ (_junk : Env)  (w5 : World), J w5 →
    (kLd w5 ⟨b1, 0, none⟩ .i64 fun x =>
    (∃ x_0 : Int, ∃ x_1_a : Option Addr, ∃ x_1_l : Nat, ∃ x_1_c : Nat, cellsAt w5 ⟨b, 0, none⟩ 0 [(.int .i64 x_0), (.slice x_1_a x_1_l x_1_c)] ∧
    (Calls Try.prog N_status_Encode #[(.int .i64 x), (.agg #[.int .i64 x_0, .slice x_1_a x_1_l x_1_c])] w5 fun e_2 w6 =>
    ∃ r_a : Option Addr, ∃ r_l : Nat, ∃ r_c : Nat, ∃ r2 : Int, e_2 = .returned (.tuple #[(.slice r_a r_l r_c), (.int .i64 r2)]) ∧
    (kLd w6 ⟨b1, 0, none⟩ .i64 fun x1 =>
    (∃ x_01 : Int, ∃ x_1_a1 : Option Addr, ∃ x_1_l1 : Nat, ∃ x_1_c1 : Nat, cellsAt w6 ⟨b, 0, none⟩ 0 [(.int .i64 x_01), (.slice x_1_a1 x_1_l1 x_1_c1)] ∧
    (Calls Try.prog N_ref19_Encode #[(.int .i64 x1), (.agg #[.int .i64 x_01, .slice x_1_a1 x_1_l1 x_1_c1])] w6 fun e_3 w7 =>
    ∃ r_a1 : Option Addr, ∃ r_l1 : Nat, ∃ r_c1 : Nat, ∃ r3 : Int, e_3 = .returned (.tuple #[(.slice r_a1 r_l1 r_c1), (.int .i64 r3)]) ∧
    (kLd w7 ⟨b1, 0, none⟩ .i64 fun x2 =>
    (Calls Try.prog N_status_Decode #[(.int .i64 x2), (.slice b_a b_l b_c)] w7 fun e_4 w8 =>
    ∃ r_0 : Int, ∃ r_1_a : Option Addr, ∃ r_1_l : Nat, ∃ r_1_c : Nat, ∃ r4 : Int, e_4 = .returned (.tuple #[(.agg #[.int .i64 r_0, .slice r_1_a r_1_l r_1_c]), (.int .i64 r4)]) ∧
    (kAlloc w8 #[.int .i64 (0 : Int), .slice none 0 0] Ty_api_Status fun b2 w9 =>
    (sxStore w9 ⟨b2, 0, none⟩ 0 [(.int .i64 r_0), (.slice r_1_a r_1_l r_1_c)] fun w10 =>
    (kLd w10 ⟨b1, 0, none⟩ .i64 fun x3 =>
    (Calls Try.prog N_ref19_Decode #[(.int .i64 x3), (.slice b_a b_l b_c)] w10 fun e_5 w11 =>
    ∃ r_01 : Int, ∃ r_1_a1 : Option Addr, ∃ r_1_l1 : Nat, ∃ r_1_c1 : Nat, ∃ r5 : Int, e_5 = .returned (.tuple #[(.agg #[.int .i64 r_01, .slice r_1_a1 r_1_l1 r_1_c1]), (.int .i64 r5)]) ∧
    (kAlloc w11 #[.int .i64 (0 : Int), .slice none 0 0] Ty_api_Status fun b3 w12 =>
    (sxStore w12 ⟨b3, 0, none⟩ 0 [(.int .i64 r_01), (.slice r_1_a1 r_1_l1 r_1_c1)] fun w13 =>
    (kLd w13 ⟨b1, 0, none⟩ .i64 fun x4 =>
    (∃ x_02 : Int, ∃ x_1_a2 : Option Addr, ∃ x_1_l2 : Nat, ∃ x_1_c2 : Nat, cellsAt w13 ⟨b, 0, none⟩ 0 [(.int .i64 x_02), (.slice x_1_a2 x_1_l2 x_1_c2)] ∧
    (kLd w13 ⟨b1, 1, none⟩ .i64 fun x5 =>
    (Calls Try.prog N_status_Fit #[(.int .i64 x4), (.agg #[.int .i64 x_02, .slice x_1_a2 x_1_l2 x_1_c2]), (.int .i64 x5)] w13 fun e_6 w14 =>
    ∃ r_02 : Int, ∃ r_1_a2 : Option Addr, ∃ r_1_l2 : Nat, ∃ r_1_c2 : Nat, ∃ r6 : Int, e_6 = .returned (.tuple #[(.agg #[.int .i64 r_02, .slice r_1_a2 r_1_l2 r_1_c2]), (.int .i64 r6)]) ∧
    (kAlloc w14 #[.int .i64 (0 : Int), .slice none 0 0] Ty_api_Status fun b4 w15 =>
    (sxStore w15 ⟨b4, 0, none⟩ 0 [(.int .i64 r_02), (.slice r_1_a2 r_1_l2 r_1_c2)] fun w16 =>
    (kLd w16 ⟨b1, 0, none⟩ .i64 fun x6 =>
    (∃ x_03 : Int, ∃ x_1_a3 : Option Addr, ∃ x_1_l3 : Nat, ∃ x_1_c3 : Nat, cellsAt w16 ⟨b, 0, none⟩ 0 [(.int .i64 x_03), (.slice x_1_a3 x_1_l3 x_1_c3)] ∧
    (kLd w16 ⟨b1, 1, none⟩ .i64 fun x7 =>
    (Calls Try.prog N_ref19_Fit #[(.int .i64 x6), (.agg #[.int .i64 x_03, .slice x_1_a3 x_1_l3 x_1_c3]), (.int .i64 x7)] w16 fun e_7 w17 =>
    ∃ r_03 : Int, ∃ r_1_a3 : Option Addr, ∃ r_1_l3 : Nat, ∃ r_1_c3 : Nat, ∃ r7 : Int, e_7 = .returned (.tuple #[(.agg #[.int .i64 r_03, .slice r_1_a3 r_1_l3 r_1_c3]), (.int .i64 r7)]) ∧
    (kAlloc w17 #[.int .i64 (0 : Int), .slice none 0 0] Ty_api_Status fun b5 w18 =>
    (sxStore w18 ⟨b5, 0, none⟩ 0 [(.int .i64 r_03), (.slice r_1_a3 r_1_l3 r_1_c3)] fun w19 =>
    (kDrew w19 fun w20 =>
    (∃ S : Nat → Prop,
    (Calls Try.prog N_law19_awake #[] w20 fun e_8 w21 =>
    ∃ r8 : Bool, e_8 = .returned (.bool r8) ∧
    (KeepsB S w20 w21 ∧ (bsplit r8
      ((S b1 ∧
      (kLd w20 ⟨b1, 0, none⟩ .i64 fun x8 =>
      (S b ∧
      (∃ x_04 : Int, ∃ x_1_a4 : Option Addr, ∃ x_1_l4 : Nat, ∃ x_1_c4 : Nat, cellsAt w20 ⟨b, 0, none⟩ 0 [(.int .i64 x_04), (.slice x_1_a4 x_1_l4 x_1_c4)] ∧
      (S b1 ∧
      (kLd w20 ⟨b1, 0, none⟩ .i64 fun x9 =>
      (S b ∧
      (∃ x_05 : Int, ∃ x_1_a5 : Option Addr, ∃ x_1_l5 : Nat, ∃ x_1_c5 : Nat, cellsAt w20 ⟨b, 0, none⟩ 0 [(.int .i64 x_05), (.slice x_1_a5 x_1_l5 x_1_c5)] ∧
      (Calls Try.prog N_status_Valid #[(.int .i64 x8), (.agg #[.int .i64 x_04, .slice x_1_a4 x_1_l4 x_1_c4])] w21 fun e_9 w22 =>
      ∃ r9 : Bool, e_9 = .returned (.bool r9) ∧
      (KeepsB S w20 w22 ∧ (Calls Try.prog N_ref19_Valid #[(.int .i64 x9), (.agg #[.int .i64 x_05, .slice x_1_a5 x_1_l5 x_1_c5])] w22 fun e_10 w23 =>
      ∃ r10 : Bool, e_10 = .returned (.bool r10) ∧
      (KeepsB S w20 w23 ∧ (bsplit (r9 == r10)
        ((bsplit (decide (r2 = r3))
          ((Calls Try.prog N_ref01_Same #[(.slice r_a r_l r_c), (.slice r_a1 r_l1 r_c1)] w23 fun e_11 w24 =>
          ∃ r11 : Bool, e_11 = .returned (.bool r11) ∧
          (KeepsB S w20 w24 ∧ (bsplit r11
            ((bsplit (decide (r4 = r5))
              ((S b2 ∧
              (∃ x_06 : Int, ∃ x_1_a6 : Option Addr, ∃ x_1_l6 : Nat, ∃ x_1_c6 : Nat, cellsAt w20 ⟨b2, 0, none⟩ 0 [(.int .i64 x_06), (.slice x_1_a6 x_1_l6 x_1_c6)] ∧
              (S b3 ∧
              (∃ x_07 : Int, ∃ x_1_a7 : Option Addr, ∃ x_1_l7 : Nat, ∃ x_1_c7 : Nat, cellsAt w20 ⟨b3, 0, none⟩ 0 [(.int .i64 x_07), (.slice x_1_a7 x_1_l7 x_1_c7)] ∧
              (Calls Try.prog N_ref19_Same #[(.agg #[.int .i64 x_06, .slice x_1_a6 x_1_l6 x_1_c6]), (.agg #[.int .i64 x_07, .slice x_1_a7 x_1_l7 x_1_c7])] w24 fun e_12 w25 =>
              ∃ r12 : Bool, e_12 = .returned (.bool r12) ∧
              (KeepsB S w20 w25 ∧ (bsplit r12
                ((bsplit (decide (r6 = r7))
                  ((S b4 ∧
                  (∃ x_08 : Int, ∃ x_1_a8 : Option Addr, ∃ x_1_l8 : Nat, ∃ x_1_c8 : Nat, cellsAt w20 ⟨b4, 0, none⟩ 0 [(.int .i64 x_08), (.slice x_1_a8 x_1_l8 x_1_c8)] ∧
                  (S b5 ∧
                  (∃ x_09 : Int, ∃ x_1_a9 : Option Addr, ∃ x_1_l9 : Nat, ∃ x_1_c9 : Nat, cellsAt w20 ⟨b5, 0, none⟩ 0 [(.int .i64 x_09), (.slice x_1_a9 x_1_l9 x_1_c9)] ∧
                  (Calls Try.prog N_ref19_Same #[(.agg #[.int .i64 x_08, .slice x_1_a8 x_1_l8 x_1_c8]), (.agg #[.int .i64 x_09, .slice x_1_a9 x_1_l9 x_1_c9])] w25 fun e_13 w26 =>
                  ∃ r13 : Bool, e_13 = .returned (.bool r13) ∧
                  (KeepsB S w20 w26 ∧ R (.bool r13) w26)))))))
                  (R (.bool false) w25)))
                (R (.bool false) w25)))))))))
              (R (.bool false) w24)))
            (R (.bool false) w24)))))
          (R (.bool false) w23)))
        (R (.bool false) w23)))))))))))))))
      (R (.bool false) w21))))))))))))))))))))))))))))))))) ∧
  (kLdS w2 ⟨b, 1, none⟩ fun x_a x_l x_c =>
  (bsplit (decide ((x_l : Int) > (200 : Int)))
    ((Calls Try.prog N_law19_awake #[] w2 fun e_ w3 =>
      ∃ r : Bool, e_ = .returned (.bool r) ∧
      R (.bool r) w3))
    ((bsplit (decide ((b_l : Int) > (3000 : Int)))
      ((Calls Try.prog N_law19_awake #[] w2 fun e_1 w4 =>
      ∃ r1 : Bool, e_1 = .returned (.bool r1) ∧
      R (.bool r1) w4))
      (J w2))))))))
theorem F_law19_StatusExact_eq (s_0 : Int) (s_1_a : Option Addr) (s_1_l : Nat) (s_1_c : Nat) (b_a : Option Addr) (b_l : Nat) (b_c : Nat) (n_0 : Int) (n_1 : Int) (w : World) (R : Value → World → Prop) : sxFn Try.prog TT h_law19_StatusExact Try.f3 #[(.agg #[.int .i64 s_0, .slice s_1_a s_1_l s_1_c]), (.slice b_a b_l b_c), (.agg #[.int .i64 n_0, .int .i64 n_1])] w R = F_law19_StatusExact s_0 s_1_a s_1_l s_1_c b_a b_l b_c n_0 n_1 w R := by kernel_rfl
theorem F_law19_StatusExact_ok {R : Ending → World → Prop} (s_0 : Int) (s_1_a : Option Addr) (s_1_l : Nat) (s_1_c : Nat) (b_a : Option Addr) (b_l : Nat) (b_c : Nat) (n_0 : Int) (n_1 : Int) (w : World) (h : F_law19_StatusExact s_0 s_1_a s_1_l s_1_c b_a b_l b_c n_0 n_1 w fun v w' => R (.returned v) w') : Calls Try.prog N_law19_StatusExact #[(.agg #[.int .i64 s_0, .slice s_1_a s_1_l s_1_c]), (.slice b_a b_l b_c), (.agg #[.int .i64 n_0, .int .i64 n_1])] w R :=
  calls_of (f := 3) follows_ok Try.func3 (Eq.mpr (F_law19_StatusExact_eq s_0 s_1_a s_1_l s_1_c b_a b_l b_c n_0 n_1 w _) h)

def h_law19_StatusMade : H := (.seq .reg (.seq (.seq .reg (.cond (.seq .reg .leaf) .leaf)) (.seq .reg (.seq .reg (.seq .reg (.seq .reg (.cut [(6, .p .slice)] [6, 25, 26, 27, 28, 29, 30, 31, 32, 33, 34, 35, 36, 37, 38, 39, 40] (.seq .reg (.block (.seq .reg (.cond .reg (.seq .reg (.cond .reg .leaf)))))) (.cut [] [41, 42, 43, 44, 45, 46, 47] (.seq .reg (.cond .reg .leaf)) (.seq (.seq .reg (.cond .reg .leaf)) (.seq (.draw .blk (.one 0 .stable (.one 1 .stable (.one 2 .stable (.one 3 .pre (.one 4 .keep (.one 5 .stable (.one 6 .keep (.one 7 .keep (.one 8 .stable .nil)))))))))) .leaf))))))))))
def F_law19_StatusMade (t_a : Option Addr) (t_l : Nat) (t_c : Nat) (w : World) (R : Value → World → Prop) : Prop :=
  (Calls Try.prog N_made_Light #[(.slice t_a t_l t_c)] w fun e_ w1 =>
  ∃ r : Bool, e_ = .returned (.bool r) ∧
  (bsplit (!r)
    ((Calls Try.prog N_law19_awake #[] w1 fun e_1 w2 =>
    ∃ r1 : Bool, e_1 = .returned (.bool r1) ∧
    R (.bool r1) w2))
    ((Calls Try.prog N_made_Roll #[(.slice t_a t_l t_c)] w1 fun e_2 w3 =>
    ∃ r2 : Option Addr, e_2 = .returned (.pointer r2) ∧
    (Calls Try.prog N_made_Dice_Bits #[(.pointer r2)] w3 fun e_3 w4 =>
    ∃ r3 : Int, e_3 = .returned (.int .i64 r3) ∧
    (Calls Try.prog N_made_Dice_Status #[(.pointer r2), (.int .i64 r3)] w4 fun e_4 w5 =>
    ∃ r_0 : Int, ∃ r_1_a : Option Addr, ∃ r_1_l : Nat, ∃ r_1_c : Nat, e_4 = .returned (.agg #[.int .i64 r_0, .slice r_1_a r_1_l r_1_c]) ∧
    (kAlloc w5 #[.int .i64 (0 : Int), .slice none 0 0] Ty_api_Status fun b w6 =>
    (sxStore w6 ⟨b, 0, none⟩ 0 [(.int .i64 r_0), (.slice r_1_a r_1_l r_1_c)] fun w7 =>
    (∃ x_0 : Int, ∃ x_1_a : Option Addr, ∃ x_1_l : Nat, ∃ x_1_c : Nat, cellsAt w7 ⟨b, 0, none⟩ 0 [(.int .i64 x_0), (.slice x_1_a x_1_l x_1_c)] ∧
    (Calls Try.prog N_ref19_Encode #[(.int .i64 r3), (.agg #[.int .i64 x_0, .slice x_1_a x_1_l x_1_c])] w7 fun e_5 w8 =>
    ∃ r_a : Option Addr, ∃ r_l : Nat, ∃ r_c : Nat, ∃ r4 : Int, e_5 = .returned (.tuple #[(.slice r_a r_l r_c), (.int .i64 r4)]) ∧
    (∃ J : Option Addr → Nat → Nat → World → Prop,
    (∀ (_junk : Env) (b_a : Option Addr) (b_l : Nat) (b_c : Nat) (w12 : World), J b_a b_l b_c w12 →
      (∃ J1 : World → Prop,
      (∀ (_junk : Env)  (w16 : World), J1 w16 →
        (Calls Try.prog N_made_Dice_One #[(.pointer r2), (.int .i64 (8 : Int))] w16 fun e_11 w17 =>
        ∃ r8 : Bool, e_11 = .returned (.bool r8) ∧
        (bsplit r8
          ((kLd w17 ⟨b, 0, none⟩ .i64 fun x3 =>
          (kW .u64 (r3) fun x4 =>
          (0 ≤ x4 ∧ (kW .i64 ((1 : Int) * 2 ^ (min x4.toNat (IntKind.bits .i64))) fun x5 =>
          (kW .i64 (x3 + x5) fun x6 =>
          (kSet w17 ⟨b, 0, none⟩ (.int .i64 x6) fun w18 =>
          (kDrew w18 fun w19 =>
          (∃ S : Nat → Prop,
          (S b ∧
          (∃ x_01 : Int, ∃ x_1_a1 : Option Addr, ∃ x_1_l1 : Nat, ∃ x_1_c1 : Nat, cellsAt w19 ⟨b, 0, none⟩ 0 [(.int .i64 x_01), (.slice x_1_a1 x_1_l1 x_1_c1)] ∧
          (Calls Try.prog N_made_Dice_Next #[(.pointer r2), (.int .i64 (40 : Int))] w19 fun e_12 w20 =>
          ∃ r9 : Int, e_12 = .returned (.int .i64 r9) ∧
          (KeepsB S w19 w20 ∧ (kW .i64 (r9 - (1 : Int)) fun x7 =>
          (KeepsB S w19 w20 ∧ (Calls Try.prog N_law19_StatusExact #[(.agg #[.int .i64 x_01, .slice x_1_a1 x_1_l1 x_1_c1]), (.slice b_a b_l b_c), (.agg #[.int .i64 r3, .int .i64 x7])] w20 fun e_13 w21 =>
          ∃ r10 : Bool, e_13 = .returned (.bool r10) ∧
          (KeepsB S w19 w21 ∧ R (.bool r10) w21)))))))))))))))))
          ((kDrew w17 fun w22 =>
          (∃ S1 : Nat → Prop,
          (S1 b ∧
          (∃ x_02 : Int, ∃ x_1_a2 : Option Addr, ∃ x_1_l2 : Nat, ∃ x_1_c2 : Nat, cellsAt w22 ⟨b, 0, none⟩ 0 [(.int .i64 x_02), (.slice x_1_a2 x_1_l2 x_1_c2)] ∧
          (Calls Try.prog N_made_Dice_Next #[(.pointer r2), (.int .i64 (40 : Int))] w22 fun e_14 w23 =>
          ∃ r11 : Int, e_14 = .returned (.int .i64 r11) ∧
          (KeepsB S1 w22 w23 ∧ (kW .i64 (r11 - (1 : Int)) fun x8 =>
          (KeepsB S1 w22 w23 ∧ (Calls Try.prog N_law19_StatusExact #[(.agg #[.int .i64 x_02, .slice x_1_a2 x_1_l2 x_1_c2]), (.slice b_a b_l b_c), (.agg #[.int .i64 r3, .int .i64 x8])] w23 fun e_15 w24 =>
          ∃ r12 : Bool, e_15 = .returned (.bool r12) ∧
          (KeepsB S1 w22 w24 ∧ R (.bool r12) w24)))))))))))))) ∧
      (Calls Try.prog N_made_Dice_One #[(.pointer r2), (.int .i64 (3 : Int))] w12 fun e_9 w13 =>
      ∃ r7 : Bool, e_9 = .returned (.bool r7) ∧
      (bsplit r7
        ((kLdS w13 ⟨b, 1, none⟩ fun x_a x_l x_c =>
        (Calls Try.prog N_made_Dice_OddRange #[(.pointer r2), (.slice x_a x_l x_c)] w13 fun e_10 w14 =>
        ∃ r_a2 : Option Addr, ∃ r_l2 : Nat, ∃ r_c2 : Nat, e_10 = .returned (.slice r_a2 r_l2 r_c2) ∧
        (kSet w14 ⟨b, 1, none⟩ (.slice r_a2 r_l2 r_c2) fun w15 =>
        J1 w15))))
        (J1 w13))))) ∧
    (Calls Try.prog N_made_Dice_Next #[(.pointer r2), (.int .i64 (4 : Int))] w8 fun e_6 w9 =>
    ∃ r5 : Int, e_6 = .returned (.int .i64 r5) ∧
    (kLet (decide (r5 = (0 : Int))) fun x =>
    (bsplit x
      ((Calls Try.prog N_made_Dice_Spoil #[(.pointer r2), (.slice r_a r_l r_c)] w9 fun e_7 w10 =>
      ∃ r_a1 : Option Addr, ∃ r_l1 : Nat, ∃ r_c1 : Nat, e_7 = .returned (.slice r_a1 r_l1 r_c1) ∧
      J r_a1 r_l1 r_c1 w10))
      ((kLet (decide (r5 = (1 : Int))) fun x1 =>
      (bsplit x1
        ((kW .i64 ((r_l : Int) + (1 : Int)) fun x2 =>
        (Calls Try.prog N_made_Dice_Next #[(.pointer r2), (.int .i64 x2)] w9 fun e_8 w11 =>
        ∃ r6 : Int, e_8 = .returned (.int .i64 r6) ∧
        ((0 ≤ r6 ∧ r6 ≤ ((r_c : Nat) : Int)) ∧ J (slAddr r_c 0 1 r_a) (r6.toNat - 0) (r_c - 0) w11))))
        (J r_a r_l r_c w9))))))))))))))))))
theorem F_law19_StatusMade_eq (t_a : Option Addr) (t_l : Nat) (t_c : Nat) (w : World) (R : Value → World → Prop) : sxFn Try.prog TT h_law19_StatusMade Try.f4 #[(.slice t_a t_l t_c)] w R = F_law19_StatusMade t_a t_l t_c w R := by kernel_rfl
theorem F_law19_StatusMade_ok {R : Ending → World → Prop} (t_a : Option Addr) (t_l : Nat) (t_c : Nat) (w : World) (h : F_law19_StatusMade t_a t_l t_c w fun v w' => R (.returned v) w') : Calls Try.prog N_law19_StatusMade #[(.slice t_a t_l t_c)] w R :=
  calls_of (f := 4) follows_ok Try.func4 (Eq.mpr (F_law19_StatusMade_eq t_a t_l t_c w _) h)

def h_law19_StatusReturns : H := (.seq .reg (.seq (.seq .reg (.cond (.seq .reg .leaf) .leaf)) (.seq .reg (.seq .reg (.seq .reg (.seq .reg (.seq .reg (.seq .reg .leaf))))))))
def F_law19_StatusReturns (t_a : Option Addr) (t_l : Nat) (t_c : Nat) (w : World) (R : Value → World → Prop) : Prop :=
  (Calls Try.prog N_made_Light #[(.slice t_a t_l t_c)] w fun e_ w1 =>
  ∃ r : Bool, e_ = .returned (.bool r) ∧
  (bsplit (!r)
    ((Calls Try.prog N_law19_awake #[] w1 fun e_1 w2 =>
    ∃ r1 : Bool, e_1 = .returned (.bool r1) ∧
    R (.bool r1) w2))
    ((Calls Try.prog N_made_Roll #[(.slice t_a t_l t_c)] w1 fun e_2 w3 =>
    ∃ r2 : Option Addr, e_2 = .returned (.pointer r2) ∧
    (Calls Try.prog N_made_Dice_Bits #[(.pointer r2)] w3 fun e_3 w4 =>
    ∃ r3 : Int, e_3 = .returned (.int .i64 r3) ∧
    (Calls Try.prog N_made_Dice_Status #[(.pointer r2), (.int .i64 r3)] w4 fun e_4 w5 =>
    ∃ r_0 : Int, ∃ r_1_a : Option Addr, ∃ r_1_l : Nat, ∃ r_1_c : Nat, e_4 = .returned (.agg #[.int .i64 r_0, .slice r_1_a r_1_l r_1_c]) ∧
    (kAlloc w5 #[.int .i64 (0 : Int), .slice none 0 0] Ty_api_Status fun b w6 =>
    (sxStore w6 ⟨b, 0, none⟩ 0 [(.int .i64 r_0), (.slice r_1_a r_1_l r_1_c)] fun w7 =>
    (∃ x_0 : Int, ∃ x_1_a : Option Addr, ∃ x_1_l : Nat, ∃ x_1_c : Nat, cellsAt w7 ⟨b, 0, none⟩ 0 [(.int .i64 x_0), (.slice x_1_a x_1_l x_1_c)] ∧
    (Calls Try.prog N_status_Encode #[(.int .i64 r3), (.agg #[.int .i64 x_0, .slice x_1_a x_1_l x_1_c])] w7 fun e_5 w8 =>
    ∃ r_a : Option Addr, ∃ r_l : Nat, ∃ r_c : Nat, ∃ r4 : Int, e_5 = .returned (.tuple #[(.slice r_a r_l r_c), (.int .i64 r4)]) ∧
    (Calls Try.prog N_status_Decode #[(.int .i64 r3), (.slice r_a r_l r_c)] w8 fun e_6 w9 =>
    ∃ r_01 : Int, ∃ r_1_a1 : Option Addr, ∃ r_1_l1 : Nat, ∃ r_1_c1 : Nat, ∃ r5 : Int, e_6 = .returned (.tuple #[(.agg #[.int .i64 r_01, .slice r_1_a1 r_1_l1 r_1_c1]), (.int .i64 r5)]) ∧
    (kAlloc w9 #[.int .i64 (0 : Int), .slice none 0 0] Ty_api_Status fun b1 w10 =>
    (sxStore w10 ⟨b1, 0, none⟩ 0 [(.int .i64 r_01), (.slice r_1_a1 r_1_l1 r_1_c1)] fun w11 =>
    (Calls Try.prog N_law19_awake #[] w11 fun e_7 w12 =>
    ∃ r6 : Bool, e_7 = .returned (.bool r6) ∧
    (bsplit r6
      ((∃ x_01 : Int, ∃ x_1_a1 : Option Addr, ∃ x_1_l1 : Nat, ∃ x_1_c1 : Nat, cellsAt w12 ⟨b, 0, none⟩ 0 [(.int .i64 x_01), (.slice x_1_a1 x_1_l1 x_1_c1)] ∧
      (Calls Try.prog N_status_Valid #[(.int .i64 r3), (.agg #[.int .i64 x_01, .slice x_1_a1 x_1_l1 x_1_c1])] w12 fun e_8 w13 =>
      ∃ r7 : Bool, e_8 = .returned (.bool r7) ∧
      (bsplit r7
        ((bsplit (decide (r4 = (0 : Int)))
          ((bsplit (decide (r5 = (0 : Int)))
            ((∃ x_02 : Int, ∃ x_1_a2 : Option Addr, ∃ x_1_l2 : Nat, ∃ x_1_c2 : Nat, cellsAt w13 ⟨b, 0, none⟩ 0 [(.int .i64 x_02), (.slice x_1_a2 x_1_l2 x_1_c2)] ∧
            (∃ x_03 : Int, ∃ x_1_a3 : Option Addr, ∃ x_1_l3 : Nat, ∃ x_1_c3 : Nat, cellsAt w13 ⟨b1, 0, none⟩ 0 [(.int .i64 x_03), (.slice x_1_a3 x_1_l3 x_1_c3)] ∧
            (Calls Try.prog N_ref19_Same #[(.agg #[.int .i64 x_02, .slice x_1_a2 x_1_l2 x_1_c2]), (.agg #[.int .i64 x_03, .slice x_1_a3 x_1_l3 x_1_c3])] w13 fun e_9 w14 =>
            ∃ r8 : Bool, e_9 = .returned (.bool r8) ∧
            R (.bool r8) w14))))
            (R (.bool false) w13)))
          (R (.bool false) w13)))
        (R (.bool false) w13)))))
      (R (.bool false) w12))))))))))))))))
theorem F_law19_StatusReturns_eq (t_a : Option Addr) (t_l : Nat) (t_c : Nat) (w : World) (R : Value → World → Prop) : sxFn Try.prog TT h_law19_StatusReturns Try.f5 #[(.slice t_a t_l t_c)] w R = F_law19_StatusReturns t_a t_l t_c w R := by kernel_rfl
theorem F_law19_StatusReturns_ok {R : Ending → World → Prop} (t_a : Option Addr) (t_l : Nat) (t_c : Nat) (w : World) (h : F_law19_StatusReturns t_a t_l t_c w fun v w' => R (.returned v) w') : Calls Try.prog N_law19_StatusReturns #[(.slice t_a t_l t_c)] w R :=
  calls_of (f := 5) follows_ok Try.func5 (Eq.mpr (F_law19_StatusReturns_eq t_a t_l t_c w _) h)

def h_law19_StatusFits : H := (.seq .reg (.seq (.seq .reg (.cond (.seq .reg .leaf) .leaf)) (.seq .reg (.seq .reg (.seq .reg (.seq .reg (.seq .reg (.seq .reg (.seq (.cut [(69, .p .bool)] [45, 46, 47, 48, 49, 50, 51, 52, 53, 54, 55, 56, 57, 58, 59, 60, 61, 62, 63, 64, 65, 66, 67, 68, 69] .reg (.cond (.seq .reg .leaf) .leaf)) (.seq (.seq .reg (.block (.loop [(13, .p (.int .i64))] [4, 13, 70, 71, 72, 73, 74, 75, 76, 77, 78, 79, 80, 81, 82, 83, 84, 85, 86, 87] (.seq (.seq .reg (.cond .leaf .leaf)) (.seq (.block (.seq (.draw .no (.one 0 .stable (.one 1 .stable (.one 2 .stable (.one 3 .stable (.one 4 .stable (.one 5 .stable (.one 6 .stable (.one 7 .stable (.one 8 .stable (.one 9 .stable (.one 10 .stable .nil)))))))))))) (.cond (.seq .reg .leaf) .leaf))) .reg))))) (.seq (.seq .reg (.cond (.seq .reg .leaf) .leaf)) (.seq .reg (.seq .reg (.seq .reg (.seq .reg (.cut [(14, .p (.int .i64))] [14, 111, 112, 113, 114, 115, 116, 117, 118, 119, 120, 121, 122, 123, 124, 125, 126, 127, 128, 129, 130, 131, 132, 133, 134, 135, 136, 137, 138] (.block (.loop [(14, .p (.int .i64))] [14, 111, 112, 113, 114, 115, 116, 117, 118, 119, 120, 121, 122, 123, 124, 125, 126, 127, 128, 129, 130, 131, 132, 133, 134, 135, 136, 137, 138] (.cut [] [111, 112, 113, 114, 115, 116, 117, 118, 119, 120, 121, 122, 123, 124, 125, 126] (.seq (.draw .no (.one 0 .stable (.one 1 .stable (.one 2 .stable (.one 3 .stable (.one 4 .stable (.one 5 .stable (.one 6 .stable (.one 7 .stable (.one 8 .stable (.one 9 .stable (.one 10 .stable (.one 11 .stable (.one 12 .stable (.one 13 .stable (.one 14 .stable (.one 15 .stable .nil))))))))))))))))) (.cond .leaf .leaf)) (.block (.seq (.draw .blk (.one 0 .stable (.one 1 .stable (.one 2 .pre (.one 3 .pre (.one 4 .pre (.one 5 .pre (.one 6 .pre (.one 7 .keep (.one 8 .keep (.one 9 .stable (.one 10 .last .nil)))))))))))) .reg))))) (.seq .reg (.seq (.draw .blk (.one 0 .pre (.one 1 .pre (.one 2 .pre (.one 3 .pre (.one 4 .pre (.one 5 .pre (.one 6 .pre (.one 7 .pre (.one 8 .pre (.one 9 .pre (.one 10 .pre (.one 11 .pre (.one 12 .pre (.one 13 .pre (.one 14 .pre (.one 15 .pre (.one 16 .pre (.one 17 .pre (.one 18 .pre (.one 19 .pre (.one 20 .pre (.one 21 .pre (.one 22 .pre (.one 23 .pre (.one 24 .pre (.one 25 .pre (.one 26 .pre (.one 27 .pre (.one 28 .pre (.one 29 .pre (.one 30 .pre (.one 31 .pre (.one 32 .pre (.one 33 .pre (.one 34 .pre (.one 35 .pre (.one 36 .pre (.one 37 .pre (.one 38 .pre (.one 39 .pre (.one 40 .pre (.one 41 .keep (.one 42 .stable (.one 43 .stable (.one 44 .stable .nil)))))))))))))))))))))))))))))))))))))))))))))) .leaf))))))))))))))))))
def F_law19_StatusFits (t_a : Option Addr) (t_l : Nat) (t_c : Nat) (space : Int) (w : World) (R : Value → World → Prop) : Prop :=
  (Calls Try.prog N_made_Light #[(.slice t_a t_l t_c)] w fun e_ w1 =>
  ∃ r : Bool, e_ = .returned (.bool r) ∧
  (bsplit (!r)
    ((Calls Try.prog N_law19_awake #[] w1 fun e_1 w2 =>
    ∃ r1 : Bool, e_1 = .returned (.bool r1) ∧
    R (.bool r1) w2))
    ((Calls Try.prog N_made_Roll #[(.slice t_a t_l t_c)] w1 fun e_2 w3 =>
    ∃ r2 : Option Addr, e_2 = .returned (.pointer r2) ∧
    (Calls Try.prog N_made_Dice_Bits #[(.pointer r2)] w3 fun e_3 w4 =>
    ∃ r3 : Int, e_3 = .returned (.int .i64 r3) ∧
    (Calls Try.prog N_made_Dice_Status #[(.pointer r2), (.int .i64 r3)] w4 fun e_4 w5 =>
    ∃ r_0 : Int, ∃ r_1_a : Option Addr, ∃ r_1_l : Nat, ∃ r_1_c : Nat, e_4 = .returned (.agg #[.int .i64 r_0, .slice r_1_a r_1_l r_1_c]) ∧
    (kAlloc w5 #[.int .i64 (0 : Int), .slice none 0 0] Ty_api_Status fun b w6 =>
    (sxStore w6 ⟨b, 0, none⟩ 0 [(.int .i64 r_0), (.slice r_1_a r_1_l r_1_c)] fun w7 =>
    (Calls Try.prog N_made_Mod #[(.int .i64 space), (.int .i64 (120 : Int))] w7 fun e_5 w8 =>
    ∃ r4 : Int, e_5 = .returned (.int .i64 r4) ∧
    (kW .i64 ((3 : Int) + r4) fun x =>
    (∃ x_0 : Int, ∃ x_1_a : Option Addr, ∃ x_1_l : Nat, ∃ x_1_c : Nat, cellsAt w8 ⟨b, 0, none⟩ 0 [(.int .i64 x_0), (.slice x_1_a x_1_l x_1_c)] ∧
    (Calls Try.prog N_status_Fit #[(.int .i64 r3), (.agg #[.int .i64 x_0, .slice x_1_a x_1_l x_1_c]), (.int .i64 x)] w8 fun e_6 w9 =>
    ∃ r_01 : Int, ∃ r_1_a1 : Option Addr, ∃ r_1_l1 : Nat, ∃ r_1_c1 : Nat, ∃ r5 : Int, e_6 = .returned (.tuple #[(.agg #[.int .i64 r_01, .slice r_1_a1 r_1_l1 r_1_c1]), (.int .i64 r5)]) ∧
    (kAlloc w9 #[.int .i64 (0 : Int), .slice none 0 0] Ty_api_Status fun b1 w10 =>
    (sxStore w10 ⟨b1, 0, none⟩ 0 [(.int .i64 r_01), (.slice r_1_a1 r_1_l1 r_1_c1)] fun w11 =>
    (∃ x_01 : Int, ∃ x_1_a1 : Option Addr, ∃ x_1_l1 : Nat, ∃ x_1_c1 : Nat, cellsAt w11 ⟨b1, 0, none⟩ 0 [(.int .i64 x_01), (.slice x_1_a1 x_1_l1 x_1_c1)] ∧
    (Calls Try.prog N_status_Encode #[(.int .i64 r3), (.agg #[.int .i64 x_01, .slice x_1_a1 x_1_l1 x_1_c1])] w11 fun e_7 w12 =>
    ∃ r_a : Option Addr, ∃ r_l : Nat, ∃ r_c : Nat, ∃ r6 : Int, e_7 = .returned (.tuple #[(.slice r_a r_l r_c), (.int .i64 r6)]) ∧
    (∃ J : Bool → World → Prop,
    (∀ (_junk : Env) (x1 : Bool) (w14 : World), J x1 w14 →
      (bsplit x1
        (R (.bool false) w14)
        ((∃ I : Int → Nat × (World → Prop), (I (0 : Int)).2 w14 ∧
        (∀ (_junk : Env) (i : Int) (w15 : World), (I i).2 w15 →
          (kLdS w15 ⟨b1, 1, none⟩ fun x_a2 x_l2 x_c2 =>
          (bsplit (decide (i < (x_l2 : Int)))
            ((kDrew w15 fun w16 =>
            (kLdS w16 ⟨b1, 1, none⟩ fun x_a3 x_l3 x_c3 =>
            (kIx x_a3 x_l3 i fun b2 =>
            (∃ x_02 : Int, ∃ x_1 : Int, ∃ x_2 : Int, cellsAt w16 (b2.add (i.toNat * 3)) 0 [(.int .i64 x_02), (.int .i64 x_1), (.int .i64 x_2)] ∧
            (kLdS w16 ⟨b, 1, none⟩ fun x_a4 x_l4 x_c4 =>
            (kIx x_a4 x_l4 i fun b3 =>
            (∃ x_03 : Int, ∃ x_11 : Int, ∃ x_21 : Int, cellsAt w16 (b3.add (i.toNat * 3)) 0 [(.int .i64 x_03), (.int .i64 x_11), (.int .i64 x_21)] ∧
            (EqP Try.prog .neq Ty_api_Range (.tmp 81) (.tmp 86) (.agg #[.int .i64 x_02, .int .i64 x_1, .int .i64 x_2]) (.agg #[.int .i64 x_03, .int .i64 x_11, .int .i64 x_21]) fun r8 =>
            (bsplit r8
              (R (.bool false) w16)
              ((kW .i64 (i + (1 : Int)) fun x2 =>
              ((I x2).2 w16 ∧ (I x2).1 < (I i).1)))))))))))))
            ((kLdS w15 ⟨b1, 1, none⟩ fun x_a5 x_l5 x_c5 =>
            (kLdS w15 ⟨b, 1, none⟩ fun x_a6 x_l6 x_c6 =>
            (bsplit (decide ((x_l5 : Int) = (x_l6 : Int)))
              ((kLd w15 ⟨b1, 0, none⟩ .i64 fun x3 =>
              (kLd w15 ⟨b, 0, none⟩ .i64 fun x4 =>
              (kLet (decide (x3 = x4)) fun x5 =>
              R (.bool x5) w15))))
              ((kLdS w15 ⟨b1, 1, none⟩ fun x_a7 x_l7 x_c7 =>
              (∃ x_04 : Int, ∃ x_1_a2 : Option Addr, ∃ x_1_l2 : Nat, ∃ x_1_c2 : Nat, cellsAt w15 ⟨b1, 0, none⟩ 0 [(.int .i64 x_04), (.slice x_1_a2 x_1_l2 x_1_c2)] ∧
              (kAlloc w15 #[.int .i64 (0 : Int), .slice none 0 0] Ty_api_Status fun b4 w17 =>
              (sxStore w17 ⟨b4, 0, none⟩ 0 [(.int .i64 x_04), (.slice x_1_a2 x_1_l2 x_1_c2)] fun w18 =>
              (kLd w18 ⟨b, 0, none⟩ .i64 fun x6 =>
              (kSet w18 ⟨b4, 0, none⟩ (.int .i64 x6) fun w19 =>
              (kLdS w19 ⟨b1, 1, none⟩ fun x_a8 x_l8 x_c8 =>
              (AppP Try.prog #[Ty_S_api_Range, Ty_S_api_Range] Ty_S_api_Range #[(.slice none 0 0), (.slice x_a8 x_l8 x_c8)] w19 fun x_a9 x_l9 x_c9 w20 =>
              (kSet w20 ⟨b4, 1, none⟩ (.slice x_a9 x_l9 x_c9) fun w21 =>
              (∃ J1 : Int → World → Prop,
              (∀ (_junk : Env) (k1 : Int) (w29 : World), J1 k1 w29 →
                (∃ x_06 : Int, ∃ x_1_a3 : Option Addr, ∃ x_1_l3 : Nat, ∃ x_1_c3 : Nat, cellsAt w29 ⟨b4, 0, none⟩ 0 [(.int .i64 x_06), (.slice x_1_a3 x_1_l3 x_1_c3)] ∧
                (Calls Try.prog N_status_Encode #[(.int .i64 r3), (.agg #[.int .i64 x_06, .slice x_1_a3 x_1_l3 x_1_c3])] w29 fun e_9 w30 =>
                ∃ r_a1 : Option Addr, ∃ r_l1 : Nat, ∃ r_c1 : Nat, ∃ r9 : Int, e_9 = .returned (.tuple #[(.slice r_a1 r_l1 r_c1), (.int .i64 r9)]) ∧
                (kDrew w30 fun w31 =>
                (∃ S1 : Nat → Prop,
                (kLdS w31 ⟨b1, 1, none⟩ fun x_a15 x_l15 x_c15 =>
                (bsplit (decide (k1 > (x_l15 : Int)))
                  ((bsplit (decide (r9 = (0 : Int)))
                    ((bsplit (decide ((r_l1 : Int) > x))
                      ((kLdS w31 ⟨b1, 1, none⟩ fun x_a16 x_l16 x_c16 =>
                      (bsplit (decide ((x_l16 : Int) = (0 : Int)))
                        ((kLd w31 ⟨b1, 0, none⟩ .i64 fun x10 =>
                        (kLd w31 ⟨b, 0, none⟩ .i64 fun x11 =>
                        (Calls Try.prog N_ref02_Distance #[(.int .i64 r3), (.int .i64 x10), (.int .i64 x11)] w31 fun e_10 w32 =>
                        ∃ r10 : Int, e_10 = .returned (.int .i64 r10) ∧
                        (KeepsB S1 w31 w32 ∧ (kLet (decide (r10 > (0 : Int))) fun x12 =>
                        R (.bool x12) w32))))))
                        ((kLdS w31 ⟨b1, 1, none⟩ fun x_a17 x_l17 x_c17 =>
                        (kLdS w31 ⟨b1, 1, none⟩ fun x_a18 x_l18 x_c18 =>
                        (kW .i64 ((x_l18 : Int) - (1 : Int)) fun x13 =>
                        (kIx x_a17 x_l17 x13 fun b8 =>
                        (kLd w31 (b8.add (x13.toNat * 3)) .i64 fun x14 =>
                        (kLd w31 ⟨b1, 0, none⟩ .i64 fun x15 =>
                        (bsplit (!decide (x14 = x15))
                          ((kLd w31 ⟨b1, 0, none⟩ .i64 fun x16 =>
                          (kLd w31 ⟨b, 0, none⟩ .i64 fun x17 =>
                          (Calls Try.prog N_ref02_Distance #[(.int .i64 r3), (.int .i64 x16), (.int .i64 x17)] w31 fun e_11 w33 =>
                          ∃ r11 : Int, e_11 = .returned (.int .i64 r11) ∧
                          (KeepsB S1 w31 w33 ∧ (kLet (decide (r11 > (0 : Int))) fun x18 =>
                          R (.bool x18) w33))))))
                          (R (.bool false) w31))))))))))))
                      (R (.bool false) w31)))
                    (R (.bool false) w31)))
                  (R (.bool false) w31)))))))) ∧
              (∃ I1 : Int → Nat × (World → Prop), (I1 (x_l7 : Int)).2 w21 ∧
              (∀ (_junk : Env) (k : Int) (w22 : World), (I1 k).2 w22 →
                (∃ J2 : World → Prop,
                (∀ (_junk : Env)  (w24 : World), J2 w24 →
                  (kDrew w24 fun w25 =>
                  (∃ S : Nat → Prop,
                  (S b4 ∧
                  (kLdS w25 ⟨b4, 1, none⟩ fun x_a12 x_l12 x_c12 =>
                  (kLdS w25 ⟨b, 1, none⟩ fun x_a13 x_l13 x_c13 =>
                  (kIx x_a13 x_l13 k fun b6 =>
                  (∃ x_05 : Int, ∃ x_12 : Int, ∃ x_22 : Int, cellsAt w25 (b6.add (k.toNat * 3)) 0 [(.int .i64 x_05), (.int .i64 x_12), (.int .i64 x_22)] ∧
                  (kAlloc w25 #[(.int .i64 x_05), (.int .i64 x_12), (.int .i64 x_22)] Ty_api_Range fun b7 w26 =>
                  (KeepsB S w25 w26 ∧ (AppP Try.prog #[Ty_S_api_Range, Ty_S_api_Range] Ty_S_api_Range #[(.slice x_a12 x_l12 x_c12), (.slice (some ⟨b7, 0, none⟩) 1 1)] w26 fun x_a14 x_l14 x_c14 w27 =>
                  (KeepsB S w25 w27 ∧ (kSet w27 ⟨b4, 1, none⟩ (.slice x_a14 x_l14 x_c14) fun w28 =>
                  (kW .i64 (k + (1 : Int)) fun x9 =>
                  ((I1 x9).2 w28 ∧ (I1 x9).1 < (I1 k).1))))))))))))))) ∧
                (kDrew w22 fun w23 =>
                (kLdS w23 ⟨b, 1, none⟩ fun x_a10 x_l10 x_c10 =>
                (bsplit (decide (k < (x_l10 : Int)))
                  ((kLdS w23 ⟨b, 1, none⟩ fun x_a11 x_l11 x_c11 =>
                  (kIx x_a11 x_l11 k fun b5 =>
                  (kLd w23 (b5.add (k.toNat * 3)) .i64 fun x7 =>
                  (kLd w23 ⟨b1, 0, none⟩ .i64 fun x8 =>
                  (bsplit (decide (x7 = x8))
                    (J2 w23)
                    (J1 k w23)))))))
                  (J1 k w23))))))))))))))))))))))))))))) ∧
    (Calls Try.prog N_law19_awake #[] w12 fun e_8 w13 =>
    ∃ r7 : Bool, e_8 = .returned (.bool r7) ∧
    (bsplit (!r7)
      (J true w13)
      ((bsplit (!decide (r5 = (0 : Int)))
        (J true w13)
        ((bsplit (!decide (r6 = (0 : Int)))
          (J true w13)
          ((bsplit (decide ((r_l : Int) > x))
            (J true w13)
            ((kLdS w13 ⟨b1, 1, none⟩ fun x_a x_l x_c =>
            (kLdS w13 ⟨b, 1, none⟩ fun x_a1 x_l1 x_c1 =>
            J (decide ((x_l : Int) > (x_l1 : Int))) w13))))))))))))))))))))))))))))
theorem F_law19_StatusFits_eq (t_a : Option Addr) (t_l : Nat) (t_c : Nat) (space : Int) (w : World) (R : Value → World → Prop) : sxFn Try.prog TT h_law19_StatusFits Try.f6 #[(.slice t_a t_l t_c), (.int .i64 space)] w R = F_law19_StatusFits t_a t_l t_c space w R := by kernel_rfl
theorem F_law19_StatusFits_ok {R : Ending → World → Prop} (t_a : Option Addr) (t_l : Nat) (t_c : Nat) (space : Int) (w : World) (h : F_law19_StatusFits t_a t_l t_c space w fun v w' => R (.returned v) w') : Calls Try.prog N_law19_StatusFits #[(.slice t_a t_l t_c), (.int .i64 space)] w R :=
  calls_of (f := 6) follows_ok Try.func6 (Eq.mpr (F_law19_StatusFits_eq t_a t_l t_c space w _) h)

def h_law19_awake : H := (.seq .reg (.seq .reg (.seq .reg (.seq .reg (.seq .reg (.seq .reg .leaf))))))
def F_law19_awake  (w : World) (R : Value → World → Prop) : Prop :=
  (kAlloc w #[(.int .i64 (31 : Int)), (.int .i64 (0 : Int)), (.int .i64 (0 : Int)), (.int .i64 (1 : Int)), (.int .i64 (3 : Int)), (.int .i64 (9 : Int))] Ty_api_Range fun b w1 =>
  (kAlloc w1 #[.int .i64 (0 : Int), .slice none 0 0] Ty_api_Status fun b1 w2 =>
  (sxStore w2 ⟨b1, 0, none⟩ 0 [(.int .i64 (2 : Int)), (.slice (some ⟨b, 0, none⟩) 2 2)] fun w3 =>
  (∃ x_0 : Int, ∃ x_1_a : Option Addr, ∃ x_1_l : Nat, ∃ x_1_c : Nat, cellsAt w3 ⟨b1, 0, none⟩ 0 [(.int .i64 x_0), (.slice x_1_a x_1_l x_1_c)] ∧
  (Calls Try.prog N_status_Encode #[(.int .i64 (5 : Int)), (.agg #[.int .i64 x_0, .slice x_1_a x_1_l x_1_c])] w3 fun e_ w4 =>
  ∃ r_a : Option Addr, ∃ r_l : Nat, ∃ r_c : Nat, ∃ r : Int, e_ = .returned (.tuple #[(.slice r_a r_l r_c), (.int .i64 r)]) ∧
  (Calls Try.prog N_status_Decode #[(.int .i64 (5 : Int)), (.slice r_a r_l r_c)] w4 fun e_1 w5 =>
  ∃ r_0 : Int, ∃ r_1_a : Option Addr, ∃ r_1_l : Nat, ∃ r_1_c : Nat, ∃ r1 : Int, e_1 = .returned (.tuple #[(.agg #[.int .i64 r_0, .slice r_1_a r_1_l r_1_c]), (.int .i64 r1)]) ∧
  (kAlloc w5 #[.int .i64 (0 : Int), .slice none 0 0] Ty_api_Status fun b2 w6 =>
  (sxStore w6 ⟨b2, 0, none⟩ 0 [(.int .i64 r_0), (.slice r_1_a r_1_l r_1_c)] fun w7 =>
  (∃ x_01 : Int, ∃ x_1_a1 : Option Addr, ∃ x_1_l1 : Nat, ∃ x_1_c1 : Nat, cellsAt w7 ⟨b1, 0, none⟩ 0 [(.int .i64 x_01), (.slice x_1_a1 x_1_l1 x_1_c1)] ∧
  (Calls Try.prog N_status_Fit #[(.int .i64 (5 : Int)), (.agg #[.int .i64 x_01, .slice x_1_a1 x_1_l1 x_1_c1]), (.int .i64 (6 : Int))] w7 fun e_2 w8 =>
  ∃ r_01 : Int, ∃ r_1_a1 : Option Addr, ∃ r_1_l1 : Nat, ∃ r_1_c1 : Nat, ∃ r2 : Int, e_2 = .returned (.tuple #[(.agg #[.int .i64 r_01, .slice r_1_a1 r_1_l1 r_1_c1]), (.int .i64 r2)]) ∧
  (kAlloc w8 #[.int .i64 (0 : Int), .slice none 0 0] Ty_api_Status fun b3 w9 =>
  (sxStore w9 ⟨b3, 0, none⟩ 0 [(.int .i64 r_01), (.slice r_1_a1 r_1_l1 r_1_c1)] fun w10 =>
  (bsplit (decide (r = (0 : Int)))
    ((bsplit (decide (r1 = (0 : Int)))
      ((bsplit (decide (r2 = (0 : Int)))
        ((bsplit (decide ((r_l : Int) = (11 : Int)))
          ((∃ x_02 : Int, ∃ x_1_a2 : Option Addr, ∃ x_1_l2 : Nat, ∃ x_1_c2 : Nat, cellsAt w10 ⟨b1, 0, none⟩ 0 [(.int .i64 x_02), (.slice x_1_a2 x_1_l2 x_1_c2)] ∧
          (∃ x_03 : Int, ∃ x_1_a3 : Option Addr, ∃ x_1_l3 : Nat, ∃ x_1_c3 : Nat, cellsAt w10 ⟨b2, 0, none⟩ 0 [(.int .i64 x_03), (.slice x_1_a3 x_1_l3 x_1_c3)] ∧
          (Calls Try.prog N_ref19_Same #[(.agg #[.int .i64 x_02, .slice x_1_a2 x_1_l2 x_1_c2]), (.agg #[.int .i64 x_03, .slice x_1_a3 x_1_l3 x_1_c3])] w10 fun e_3 w11 =>
          ∃ r3 : Bool, e_3 = .returned (.bool r3) ∧
          (bsplit r3
            ((kLd w11 ⟨b3, 0, none⟩ .i64 fun x =>
            (bsplit (decide (x = (1 : Int)))
              ((kLdS w11 ⟨b3, 1, none⟩ fun x_a x_l x_c =>
              (kLet (decide ((x_l : Int) = (1 : Int))) fun x1 =>
              R (.bool x1) w11)))
              (R (.bool false) w11))))
            (R (.bool false) w11))))))
          (R (.bool false) w10)))
        (R (.bool false) w10)))
      (R (.bool false) w10)))
    (R (.bool false) w10))))))))))))))
theorem F_law19_awake_eq  (w : World) (R : Value → World → Prop) : sxFn Try.prog TT h_law19_awake Try.f7 #[] w R = F_law19_awake  w R := by kernel_rfl
theorem F_law19_awake_ok {R : Ending → World → Prop}  (w : World) (h : F_law19_awake  w fun v w' => R (.returned v) w') : Calls Try.prog N_law19_awake #[] w R :=
  calls_of (f := 7) follows_ok Try.func7 (Eq.mpr (F_law19_awake_eq  w _) h)

def h_status_Encode : H := (.seq .reg (.seq (.seq .reg (.cond (.seq .reg .leaf) .leaf)) (.seq .reg (.seq (.seq .reg (.block (.loop [(6, .p .slice), (28, .p (.int .i64))] [6, 8, 28, 29, 30, 31, 32, 33, 34, 35, 36, 37, 38, 39, 40, 41, 42, 43, 44, 45, 46, 47, 48, 49, 50, 51, 52, 53, 54, 55, 56, 57, 58, 59, 60, 61, 62, 63, 64, 65, 66, 67, 68, 69, 70, 71] (.seq .reg (.seq (.cond .leaf .leaf) (.seq (.block (.seq .reg (.seq .reg (.seq .reg (.cond (.seq .reg .reg) .leaf))))) .reg)))))) (.seq .reg .leaf)))))
def F_status_Encode (bits : Int) (s_0 : Int) (s_1_a : Option Addr) (s_1_l : Nat) (s_1_c : Nat) (w : World) (R : Value → World → Prop) : Prop :=
  (kAlloc w #[(.int .i64 s_0), (.slice s_1_a s_1_l s_1_c)] Ty_api_Status fun b w1 =>
  (∃ x_0 : Int, ∃ x_1_a : Option Addr, ∃ x_1_l : Nat, ∃ x_1_c : Nat, cellsAt w1 ⟨b, 0, none⟩ 0 [(.int .i64 x_0), (.slice x_1_a x_1_l x_1_c)] ∧
  (Calls Try.prog N_status_Valid #[(.int .i64 bits), (.agg #[.int .i64 x_0, .slice x_1_a x_1_l x_1_c])] w1 fun e_ w2 =>
  ∃ r : Bool, e_ = .returned (.bool r) ∧
  (bsplit (!r)
    (R (.tuple #[(.slice none 0 0), (.int .i64 (1 : Int))]) w2)
    ((kLd w2 ⟨b, 0, none⟩ .i64 fun x =>
    (kLet (Int.fdiv x (2 ^ 8)) fun x1 =>
    (kW .u8 (x1) fun x2 =>
    (kLd w2 ⟨b, 0, none⟩ .i64 fun x3 =>
    (kW .u8 (x3) fun x4 =>
    (kLdS w2 ⟨b, 1, none⟩ fun x_a x_l x_c =>
    (kW .u8 ((x_l : Int)) fun x5 =>
    (kAlloc w2 #[(.int .u8 x2), (.int .u8 x4), (.int .u8 x5)] Ty_uint8 fun b1 w3 =>
    (kLdS w3 ⟨b, 1, none⟩ fun x_a1 x_l1 x_c1 =>
    (∃ I : Option Addr → Nat → Nat → Int → Nat × (World → Prop), (I (some ⟨b1, 0, none⟩) 3 3 (0 : Int)).2 w3 ∧
    (∀ (_junk : Env) (b_a : Option Addr) (b_l : Nat) (b_c : Nat) (x6 : Int) (w4 : World), (I b_a b_l b_c x6).2 w4 →
      (bsplit (decide (x6 < (x_l1 : Int)))
        ((kIx x_a1 x_l1 x6 fun b2 =>
        (∃ x_01 : Int, ∃ x_1 : Int, ∃ x_2 : Int, cellsAt w4 (b2.add (x6.toNat * 3)) 0 [(.int .i64 x_01), (.int .i64 x_1), (.int .i64 x_2)] ∧
        (kAlloc w4 #[.int .i64 (0 : Int), .int .i64 (0 : Int), .int .i64 (0 : Int)] Ty_api_Range fun b3 w5 =>
        (sxStore w5 ⟨b3, 0, none⟩ 0 [(.int .i64 x_01), (.int .i64 x_1), (.int .i64 x_2)] fun w6 =>
        (kLd w6 ⟨b3, 0, none⟩ .i64 fun x7 =>
        (kLet (Int.fdiv x7 (2 ^ 4)) fun x8 =>
        (kW .u8 (x8) fun x9 =>
        (kLd w6 ⟨b3, 0, none⟩ .i64 fun x10 =>
        (kW .i64 (x10 * 2 ^ 4) fun x11 =>
        (kW .u8 (x11) fun x12 =>
        (kAlloc w6 #[(.int .u8 x9), (.int .u8 x12)] Ty_uint8 fun b4 w7 =>
        (AppP Try.prog #[Ty_S_uint8, Ty_S_uint8] Ty_S_uint8 #[(.slice b_a b_l b_c), (.slice (some ⟨b4, 0, none⟩) 2 2)] w7 fun x_a2 x_l2 x_c2 w8 =>
        (∃ x_02 : Int, ∃ x_11 : Int, ∃ x_21 : Int, cellsAt w8 ⟨b3, 0, none⟩ 0 [(.int .i64 x_02), (.int .i64 x_11), (.int .i64 x_21)] ∧
        (Calls Try.prog N_status_Whole #[(.agg #[.int .i64 x_02, .int .i64 x_11, .int .i64 x_21])] w8 fun e_1 w9 =>
        ∃ r1 : Bool, e_1 = .returned (.bool r1) ∧
        (bsplit (!r1)
          ((kW .i64 ((x_l2 : Int) - (1 : Int)) fun x13 =>
          (kIx x_a2 x_l2 x13 fun b5 =>
          (kLd w9 (b5.add (x13.toNat * 1)) .u8 fun x14 =>
          (kLet (bOr .u8 x14 (1 : Int)) fun x15 =>
          (kIx x_a2 x_l2 x13 fun b6 =>
          (kSet w9 (b6.add (x13.toNat * 1)) (.int .u8 x15) fun w10 =>
          (kLd w10 ⟨b3, 1, none⟩ .i64 fun x16 =>
          (kLet (Int.fdiv x16 (2 ^ 8)) fun x17 =>
          (kW .u8 (x17) fun x18 =>
          (kLd w10 ⟨b3, 1, none⟩ .i64 fun x19 =>
          (kW .u8 (x19) fun x20 =>
          (kLd w10 ⟨b3, 2, none⟩ .i64 fun x21 =>
          (kLet (Int.fdiv x21 (2 ^ 8)) fun x22 =>
          (kW .u8 (x22) fun x23 =>
          (kLd w10 ⟨b3, 2, none⟩ .i64 fun x24 =>
          (kW .u8 (x24) fun x25 =>
          (kAlloc w10 #[(.int .u8 x18), (.int .u8 x20), (.int .u8 x23), (.int .u8 x25)] Ty_uint8 fun b7 w11 =>
          (AppP Try.prog #[Ty_S_uint8, Ty_S_uint8] Ty_S_uint8 #[(.slice x_a2 x_l2 x_c2), (.slice (some ⟨b7, 0, none⟩) 4 4)] w11 fun x_a3 x_l3 x_c3 w12 =>
          (kW .i64 (x6 + (1 : Int)) fun x26 =>
          ((I x_a3 x_l3 x_c3 x26).2 w12 ∧ (I x_a3 x_l3 x_c3 x26).1 < (I b_a b_l b_c x6).1)))))))))))))))))))))
          ((kW .i64 (x6 + (1 : Int)) fun x27 =>
          ((I x_a2 x_l2 x_c2 x27).2 w9 ∧ (I x_a2 x_l2 x_c2 x27).1 < (I b_a b_l b_c x6).1)))))))))))))))))))
        (R (.tuple #[(.slice b_a b_l b_c), (.int .i64 (0 : Int))]) w4))))))))))))))))))
theorem F_status_Encode_eq (bits : Int) (s_0 : Int) (s_1_a : Option Addr) (s_1_l : Nat) (s_1_c : Nat) (w : World) (R : Value → World → Prop) : sxFn Try.prog TT h_status_Encode Try.f8 #[(.int .i64 bits), (.agg #[.int .i64 s_0, .slice s_1_a s_1_l s_1_c])] w R = F_status_Encode bits s_0 s_1_a s_1_l s_1_c w R := by kernel_rfl
theorem F_status_Encode_ok {R : Ending → World → Prop} (bits : Int) (s_0 : Int) (s_1_a : Option Addr) (s_1_l : Nat) (s_1_c : Nat) (w : World) (h : F_status_Encode bits s_0 s_1_a s_1_l s_1_c w fun v w' => R (.returned v) w') : Calls Try.prog N_status_Encode #[(.int .i64 bits), (.agg #[.int .i64 s_0, .slice s_1_a s_1_l s_1_c])] w R :=
  calls_of (f := 8) follows_ok Try.func8 (Eq.mpr (F_status_Encode_eq bits s_0 s_1_a s_1_l s_1_c w _) h)

def h_ref19_Encode : H := (.seq .reg (.seq (.seq .reg (.cond (.seq .reg .leaf) .leaf)) (.cut [(6, .p .slice)] [6, 13, 14, 15, 16, 17, 18, 19, 20, 21] (.draw .blk (.one 0 .stable (.one 1 .stable (.one 3 .stable (.one 4 .stable (.one 5 .stable (.one 6 .stable (.alt 2 (.one 7 .keep (.one 8 .keep (.one 9 .stable .nil))) (.alt 7 (.one 2 .keep (.one 8 .keep (.one 9 .stable .nil))) .endAlt))))))))) (.seq (.seq .reg (.block (.loop [(6, .p .slice), (7, .p (.int .i64))] [6, 7, 8, 22, 23, 24, 25, 26, 27, 28, 29, 30, 31, 32, 33, 34, 35, 36, 37, 38, 39, 40, 41, 42, 43, 44, 45, 46, 47, 48, 49, 50, 51, 52, 53] (.seq (.seq .reg (.cond .leaf .leaf)) (.seq (.block (.seq .reg (.seq .reg (.cond .reg (.draw .blk (.one 0 .pre (.one 1 .pre (.one 2 .pre (.one 3 .pre (.one 4 .pre (.one 6 .stable (.one 7 .stable (.one 9 .stable (.one 10 .stable (.one 5 .keep (.one 8 .keep (.one 11 .keep (.one 12 .stable .nil)))))))))))))))))) .reg))))) (.seq .reg .leaf)))))
def F_ref19_Encode (bits : Int) (s_0 : Int) (s_1_a : Option Addr) (s_1_l : Nat) (s_1_c : Nat) (w : World) (R : Value → World → Prop) : Prop :=
  (kAlloc w #[(.int .i64 s_0), (.slice s_1_a s_1_l s_1_c)] Ty_api_Status fun b w1 =>
  (∃ x_0 : Int, ∃ x_1_a : Option Addr, ∃ x_1_l : Nat, ∃ x_1_c : Nat, cellsAt w1 ⟨b, 0, none⟩ 0 [(.int .i64 x_0), (.slice x_1_a x_1_l x_1_c)] ∧
  (Calls Try.prog N_ref19_Valid #[(.int .i64 bits), (.agg #[.int .i64 x_0, .slice x_1_a x_1_l x_1_c])] w1 fun e_ w2 =>
  ∃ r : Bool, e_ = .returned (.bool r) ∧
  (bsplit (!r)
    (R (.tuple #[(.slice none 0 0), (.int .i64 (1 : Int))]) w2)
    ((∃ J : Option Addr → Nat → Nat → World → Prop,
    (∀ (_junk : Env) (b_a : Option Addr) (b_l : Nat) (b_c : Nat) (w10 : World), J b_a b_l b_c w10 →
      (∃ I : Option Addr → Nat → Nat → Int → Nat × (World → Prop), (I b_a b_l b_c (0 : Int)).2 w10 ∧
      (∀ (_junk : Env) (b_a1 : Option Addr) (b_l1 : Nat) (b_c1 : Nat) (i : Int) (w11 : World), (I b_a1 b_l1 b_c1 i).2 w11 →
        (kLdS w11 ⟨b, 1, none⟩ fun x_a3 x_l3 x_c3 =>
        (bsplit (decide (i < (x_l3 : Int)))
          ((kLdS w11 ⟨b, 1, none⟩ fun x_a4 x_l4 x_c4 =>
          (kIx x_a4 x_l4 i fun b3 =>
          (∃ x_01 : Int, ∃ x_1 : Int, ∃ x_2 : Int, cellsAt w11 (b3.add (i.toNat * 3)) 0 [(.int .i64 x_01), (.int .i64 x_1), (.int .i64 x_2)] ∧
          (kAlloc w11 #[.int .i64 (0 : Int), .int .i64 (0 : Int), .int .i64 (0 : Int)] Ty_api_Range fun b4 w12 =>
          (sxStore w12 ⟨b4, 0, none⟩ 0 [(.int .i64 x_01), (.int .i64 x_1), (.int .i64 x_2)] fun w13 =>
          (∃ x_02 : Int, ∃ x_11 : Int, ∃ x_21 : Int, cellsAt w13 ⟨b4, 0, none⟩ 0 [(.int .i64 x_02), (.int .i64 x_11), (.int .i64 x_21)] ∧
          (Calls Try.prog N_ref19_size #[(.agg #[.int .i64 x_02, .int .i64 x_11, .int .i64 x_21])] w13 fun e_3 w14 =>
          ∃ r1 : Int, e_3 = .returned (.int .i64 r1) ∧
          (bsplit (decide (r1 = (2 : Int)))
            ((kLd w14 ⟨b4, 0, none⟩ .i64 fun x2 =>
            (kW .i64 ((16 : Int) * x2) fun x3 =>
            (Calls Try.prog N_ref01_Put #[(.slice b_a1 b_l1 b_c1), (.int .i64 (2 : Int)), (.int .i64 x3)] w14 fun e_4 w15 =>
            ∃ r_a2 : Option Addr, ∃ r_l2 : Nat, ∃ r_c2 : Nat, e_4 = .returned (.slice r_a2 r_l2 r_c2) ∧
            (kW .i64 (i + (1 : Int)) fun x4 =>
            ((I r_a2 r_l2 r_c2 x4).2 w15 ∧ (I r_a2 r_l2 r_c2 x4).1 < (I b_a1 b_l1 b_c1 i).1))))))
            ((kDrew w14 fun w16 =>
            (∃ S1 : Nat → Prop,
            (kLd w16 ⟨b4, 0, none⟩ .i64 fun x5 =>
            (kW .i64 ((16 : Int) * x5) fun x6 =>
            (kW .i64 (x6 + (1 : Int)) fun x7 =>
            (S1 b4 ∧
            (kLd w16 ⟨b4, 1, none⟩ .i64 fun x8 =>
            (S1 b4 ∧
            (kLd w16 ⟨b4, 2, none⟩ .i64 fun x9 =>
            (Calls Try.prog N_ref01_Put #[(.slice b_a1 b_l1 b_c1), (.int .i64 (2 : Int)), (.int .i64 x7)] w16 fun e_5 w17 =>
            ∃ r_a3 : Option Addr, ∃ r_l3 : Nat, ∃ r_c3 : Nat, e_5 = .returned (.slice r_a3 r_l3 r_c3) ∧
            (KeepsB S1 w16 w17 ∧ (Calls Try.prog N_ref01_Put #[(.slice r_a3 r_l3 r_c3), (.int .i64 (2 : Int)), (.int .i64 x8)] w17 fun e_6 w18 =>
            ∃ r_a4 : Option Addr, ∃ r_l4 : Nat, ∃ r_c4 : Nat, e_6 = .returned (.slice r_a4 r_l4 r_c4) ∧
            (KeepsB S1 w16 w18 ∧ (Calls Try.prog N_ref01_Put #[(.slice r_a4 r_l4 r_c4), (.int .i64 (2 : Int)), (.int .i64 x9)] w18 fun e_7 w19 =>
            ∃ r_a5 : Option Addr, ∃ r_l5 : Nat, ∃ r_c5 : Nat, e_7 = .returned (.slice r_a5 r_l5 r_c5) ∧
            (KeepsB S1 w16 w19 ∧ (kW .i64 (i + (1 : Int)) fun x10 =>
            ((I r_a5 r_l5 r_c5 x10).2 w19 ∧ (I r_a5 r_l5 r_c5 x10).1 < (I b_a1 b_l1 b_c1 i).1)))))))))))))))))))))))))))
          (R (.tuple #[(.slice b_a1 b_l1 b_c1), (.int .i64 (0 : Int))]) w11)))))) ∧
    (kDrew w2 fun w3 =>
    (∃ S : Nat → Prop,
    (S b ∧
    (kLd w3 ⟨b, 0, none⟩ .i64 fun x =>
    (S b ∧
    (kLdS w3 ⟨b, 1, none⟩ fun x_a x_l x_c =>
    (kW .u8 ((x_l : Int)) fun x1 =>
    ((Calls Try.prog N_ref01_Put #[(.slice none 0 0), (.int .i64 (2 : Int)), (.int .i64 x)] w3 fun e_2 w7 =>
    ∃ r_a1 : Option Addr, ∃ r_l1 : Nat, ∃ r_c1 : Nat, e_2 = .returned (.slice r_a1 r_l1 r_c1) ∧
    (KeepsB S w3 w7 ∧ (kAlloc w7 #[(.int .u8 x1)] Ty_uint8 fun b2 w8 =>
    (KeepsB S w3 w8 ∧ (AppP Try.prog #[Ty_S_uint8, Ty_S_uint8] Ty_S_uint8 #[(.slice r_a1 r_l1 r_c1), (.slice (some ⟨b2, 0, none⟩) 1 1)] w8 fun x_a2 x_l2 x_c2 w9 =>
    (KeepsB S w3 w9 ∧ J x_a2 x_l2 x_c2 w9)))))) ∧
    ((kAlloc w3 #[(.int .u8 x1)] Ty_uint8 fun b1 w4 =>
    (KeepsB S w3 w4 ∧ (Calls Try.prog N_ref01_Put #[(.slice none 0 0), (.int .i64 (2 : Int)), (.int .i64 x)] w4 fun e_1 w5 =>
    ∃ r_a : Option Addr, ∃ r_l : Nat, ∃ r_c : Nat, e_1 = .returned (.slice r_a r_l r_c) ∧
    (KeepsB S w3 w5 ∧ (AppP Try.prog #[Ty_S_uint8, Ty_S_uint8] Ty_S_uint8 #[(.slice r_a r_l r_c), (.slice (some ⟨b1, 0, none⟩) 1 1)] w5 fun x_a1 x_l1 x_c1 w6 =>
    (KeepsB S w3 w6 ∧ J x_a1 x_l1 x_c1 w6)))))) ∧
    True)))))))))))))))
theorem F_ref19_Encode_eq (bits : Int) (s_0 : Int) (s_1_a : Option Addr) (s_1_l : Nat) (s_1_c : Nat) (w : World) (R : Value → World → Prop) : sxFn Try.prog TT h_ref19_Encode Try.f9 #[(.int .i64 bits), (.agg #[.int .i64 s_0, .slice s_1_a s_1_l s_1_c])] w R = F_ref19_Encode bits s_0 s_1_a s_1_l s_1_c w R := by kernel_rfl
theorem F_ref19_Encode_ok {R : Ending → World → Prop} (bits : Int) (s_0 : Int) (s_1_a : Option Addr) (s_1_l : Nat) (s_1_c : Nat) (w : World) (h : F_ref19_Encode bits s_0 s_1_a s_1_l s_1_c w fun v w' => R (.returned v) w') : Calls Try.prog N_ref19_Encode #[(.int .i64 bits), (.agg #[.int .i64 s_0, .slice s_1_a s_1_l s_1_c])] w R :=
  calls_of (f := 9) follows_ok Try.func9 (Eq.mpr (F_ref19_Encode_eq bits s_0 s_1_a s_1_l s_1_c w _) h)

def h_status_Decode : HD := (.seq .reg (.seq (.seq .reg (.cond (.seq .reg .leaf) .leaf)) (.dfr (.seq .reg (.seq .reg (.seq (.seq .reg (.block (.loop [(7, .p (.int .i64))] [7, 8, 9, 25, 26, 27, 28, 29, 30, 31, 32, 33, 34, 35, 36, 37, 38, 39, 40, 41, 42, 43, 44, 45, 46, 47, 48] (.seq (.seq .reg (.cond .leaf .leaf)) (.seq (.block (.seq .reg (.seq .reg (.seq (.seq .reg (.cond .reg .leaf)) .reg)))) .reg))))) (.seq (.seq .reg (.seq .reg (.cond (.seq .reg .leaf) .leaf))) (.seq .reg .leaf))))))))
def L_status_Decode (b : Nat) (b1 : Nat) (R : Value → World → Prop) (u_ : FrameMode) (w_ : World) : Prop :=
  okFn Try.prog N_status_Decode_1 = true ∧ CallsD Try.prog N_status_Decode_1 #[(.pointer (some ⟨b, 0, none⟩)), (.pointer (some ⟨b1, 0, none⟩))] u_ w_ fun x_ u1_ w1_ => (∃ v, x_ = .returned v) ∧ settle u1_ = .returning ∧ (∃ r_01 : Int, ∃ r_1_a1 : Option Addr, ∃ r_1_l1 : Nat, ∃ r_1_c1 : Nat, cellsAt w1_ ⟨b, 0, none⟩ 0 [(.int .i64 r_01), (.slice r_1_a1 r_1_l1 r_1_c1)] ∧
    (kLd w1_ ⟨b1, 0, none⟩ .i64 fun r2 =>
    R (.tuple #[(.agg #[.int .i64 r_01, .slice r_1_a1 r_1_l1 r_1_c1]), (.int .i64 r2)]) w1_))
def F_status_Decode (bits : Int) (b_a : Option Addr) (b_l : Nat) (b_c : Nat) (w : World) (R : Value → World → Prop) : Prop :=
  (kAlloc w #[.int .i64 (0 : Int), .slice none 0 0] Ty_api_Status fun b w1 =>
  (kAlloc w1 #[.int .i64 (0 : Int)] Ty_api_Errno fun b1 w2 =>
  (Calls Try.prog N_counter_Bits #[(.int .i64 bits)] w2 fun e_ w3 =>
  ∃ r : Bool, e_ = .returned (.bool r) ∧
  (bsplit (!r)
    ((sxStore w3 ⟨b, 0, none⟩ 0 [(.int .i64 (0 : Int)), (.slice none 0 0)] fun w4 =>
    (kSet w4 ⟨b1, 0, none⟩ (.int .i64 (3 : Int)) fun w5 =>
    (∃ r_0 : Int, ∃ r_1_a : Option Addr, ∃ r_1_l : Nat, ∃ r_1_c : Nat, cellsAt w5 ⟨b, 0, none⟩ 0 [(.int .i64 r_0), (.slice r_1_a r_1_l r_1_c)] ∧
    (kLd w5 ⟨b1, 0, none⟩ .i64 fun r1 =>
    R (.tuple #[(.agg #[.int .i64 r_0, .slice r_1_a r_1_l r_1_c]), (.int .i64 r1)]) w5)))))
    ((kAlloc w3 #[(.slice b_a b_l b_c)] Ty_status_reader fun b2 w6 =>
    (Calls Try.prog N_status_reader_take #[(.pointer (some ⟨b2, 0, none⟩)), (.int .i64 (2 : Int))] w6 fun e_1 w7 =>
    (∃ r3 : Int, e_1 = .returned (.int .i64 r3) ∧
    (kSet w7 ⟨b, 0, none⟩ (.int .i64 r3) fun w8 =>
    (Calls Try.prog N_status_reader_take #[(.pointer (some ⟨b2, 0, none⟩)), (.int .i64 (1 : Int))] w8 fun e_2 w9 =>
    (∃ r4 : Int, e_2 = .returned (.int .i64 r4) ∧
    (∃ I : Int → Nat × (World → Prop), (I r4).2 w9 ∧
    (∀ (_junk : Env) (n : Int) (w10 : World), (I n).2 w10 →
      (bsplit (decide (n > (0 : Int)))
        ((Calls Try.prog N_status_reader_take #[(.pointer (some ⟨b2, 0, none⟩)), (.int .i64 (2 : Int))] w10 fun e_3 w11 =>
        (∃ r5 : Int, e_3 = .returned (.int .i64 r5) ∧
        (kLet (Int.fdiv r5 (2 ^ 4)) fun x =>
        (kAlloc w11 #[.int .i64 (0 : Int), .int .i64 (0 : Int), .int .i64 (0 : Int)] Ty_api_Range fun b3 w12 =>
        (sxStore w12 ⟨b3, 0, none⟩ 0 [(.int .i64 x), (.int .i64 (0 : Int)), (.int .i64 (0 : Int))] fun w13 =>
        (kLet (bAnd .i64 r5 (15 : Int)) fun x1 =>
        (bsplit (decide (x1 = (1 : Int)))
          ((Calls Try.prog N_status_reader_take #[(.pointer (some ⟨b2, 0, none⟩)), (.int .i64 (2 : Int))] w13 fun e_4 w14 =>
          (∃ r6 : Int, e_4 = .returned (.int .i64 r6) ∧
          (Calls Try.prog N_status_reader_take #[(.pointer (some ⟨b2, 0, none⟩)), (.int .i64 (2 : Int))] w14 fun e_5 w15 =>
          (∃ r7 : Int, e_5 = .returned (.int .i64 r7) ∧
          (kSet w15 ⟨b3, 1, none⟩ (.int .i64 r6) fun w16 =>
          (kSet w16 ⟨b3, 2, none⟩ (.int .i64 r7) fun w17 =>
          (kLdS w17 ⟨b, 1, none⟩ fun x_a x_l x_c =>
          (∃ x_0 : Int, ∃ x_1 : Int, ∃ x_2 : Int, cellsAt w17 ⟨b3, 0, none⟩ 0 [(.int .i64 x_0), (.int .i64 x_1), (.int .i64 x_2)] ∧
          (kAlloc w17 #[(.int .i64 x_0), (.int .i64 x_1), (.int .i64 x_2)] Ty_api_Range fun b4 w18 =>
          (AppP Try.prog #[Ty_S_api_Range, Ty_S_api_Range] Ty_S_api_Range #[(.slice x_a x_l x_c), (.slice (some ⟨b4, 0, none⟩) 1 1)] w18 fun x_a1 x_l1 x_c1 w19 =>
          (kSet w19 ⟨b, 1, none⟩ (.slice x_a1 x_l1 x_c1) fun w20 =>
          (kW .i64 (n - (1 : Int)) fun x2 =>
          ((I x2).2 w20 ∧ (I x2).1 < (I n).1)))))))))) ∨
          (∃ ch4 : List PanicEntry, e_5 = .panicked ch4 ∧ L_status_Decode b b1 R (.panicking ch4) w15))) ∨
          (∃ ch3 : List PanicEntry, e_4 = .panicked ch3 ∧ L_status_Decode b b1 R (.panicking ch3) w14)))
          ((kLdS w13 ⟨b, 1, none⟩ fun x_a2 x_l2 x_c2 =>
          (∃ x_01 : Int, ∃ x_11 : Int, ∃ x_21 : Int, cellsAt w13 ⟨b3, 0, none⟩ 0 [(.int .i64 x_01), (.int .i64 x_11), (.int .i64 x_21)] ∧
          (kAlloc w13 #[(.int .i64 x_01), (.int .i64 x_11), (.int .i64 x_21)] Ty_api_Range fun b5 w21 =>
          (AppP Try.prog #[Ty_S_api_Range, Ty_S_api_Range] Ty_S_api_Range #[(.slice x_a2 x_l2 x_c2), (.slice (some ⟨b5, 0, none⟩) 1 1)] w21 fun x_a3 x_l3 x_c3 w22 =>
          (kSet w22 ⟨b, 1, none⟩ (.slice x_a3 x_l3 x_c3) fun w23 =>
          (kW .i64 (n - (1 : Int)) fun x3 =>
          ((I x3).2 w23 ∧ (I x3).1 < (I n).1)))))))))))))) ∨
        (∃ ch2 : List PanicEntry, e_3 = .panicked ch2 ∧ L_status_Decode b b1 R (.panicking ch2) w11)))
        ((∃ x_02 : Int, ∃ x_1_a : Option Addr, ∃ x_1_l : Nat, ∃ x_1_c : Nat, cellsAt w10 ⟨b, 0, none⟩ 0 [(.int .i64 x_02), (.slice x_1_a x_1_l x_1_c)] ∧
        (Calls Try.prog N_status_Encode #[(.int .i64 bits), (.agg #[.int .i64 x_02, .slice x_1_a x_1_l x_1_c])] w10 fun e_6 w24 =>
        (∃ r_a : Option Addr, ∃ r_l : Nat, ∃ r_c : Nat, ∃ r8 : Int, e_6 = .returned (.tuple #[(.slice r_a r_l r_c), (.int .i64 r8)]) ∧
        (bsplit (!decide (r8 = (0 : Int)))
          ((sxStore w24 ⟨b, 0, none⟩ 0 [(.int .i64 (0 : Int)), (.slice none 0 0)] fun w25 =>
            (kSet w25 ⟨b1, 0, none⟩ (.int .i64 (4 : Int)) fun w26 =>
            L_status_Decode b b1 R .returning w26)))
          ((Calls Try.prog N_bytes_Equal #[(.slice r_a r_l r_c), (.slice b_a b_l b_c)] w24 fun e_7 w29 =>
          (∃ r9 : Bool, e_7 = .returned (.bool r9) ∧
          (bsplit (!r9)
            ((sxStore w29 ⟨b, 0, none⟩ 0 [(.int .i64 (0 : Int)), (.slice none 0 0)] fun w30 =>
            (kSet w30 ⟨b1, 0, none⟩ (.int .i64 (4 : Int)) fun w31 =>
            L_status_Decode b b1 R .returning w31)))
            ((∃ x_04 : Int, ∃ x_1_a2 : Option Addr, ∃ x_1_l2 : Nat, ∃ x_1_c2 : Nat, cellsAt w29 ⟨b, 0, none⟩ 0 [(.int .i64 x_04), (.slice x_1_a2 x_1_l2 x_1_c2)] ∧
            (sxStore w29 ⟨b, 0, none⟩ 0 [(.int .i64 x_04), (.slice x_1_a2 x_1_l2 x_1_c2)] fun w32 =>
            (kSet w32 ⟨b1, 0, none⟩ (.int .i64 (0 : Int)) fun w33 =>
            L_status_Decode b b1 R .returning w33)))))) ∨
          (∃ ch6 : List PanicEntry, e_7 = .panicked ch6 ∧ L_status_Decode b b1 R (.panicking ch6) w29))))) ∨
        (∃ ch5 : List PanicEntry, e_6 = .panicked ch5 ∧ L_status_Decode b b1 R (.panicking ch5) w24)))))))) ∨
    (∃ ch1 : List PanicEntry, e_2 = .panicked ch1 ∧ L_status_Decode b b1 R (.panicking ch1) w9)))) ∨
    (∃ ch : List PanicEntry, e_1 = .panicked ch ∧ L_status_Decode b b1 R (.panicking ch) w7))))))))
theorem F_status_Decode_eq (bits : Int) (b_a : Option Addr) (b_l : Nat) (b_c : Nat) (w : World) (R : Value → World → Prop) : sxFnD Try.prog TTk h_status_Decode Try.f10 #[(.int .i64 bits), (.slice b_a b_l b_c)] w R = F_status_Decode bits b_a b_l b_c w R := by kernel_rfl
theorem F_status_Decode_ok {R : Ending → World → Prop} (bits : Int) (b_a : Option Addr) (b_l : Nat) (b_c : Nat) (w : World) (h : F_status_Decode bits b_a b_l b_c w fun v w' => R (.returned v) w') : Calls Try.prog N_status_Decode #[(.int .i64 bits), (.slice b_a b_l b_c)] w R :=
  calls_ofD (f := 10) follows_ok Try.func10 (Eq.mpr (F_status_Decode_eq bits b_a b_l b_c w _) h)

def h_ref19_Decode : H := (.seq .reg (.seq (.seq .reg (.cond (.seq .reg .leaf) .leaf)) (.seq (.seq .reg (.cond (.seq .reg .leaf) .leaf)) (.seq .reg (.seq .reg (.seq (.seq .reg (.block (.loop [(7, .p (.int .i64)), (8, .p (.int .i64))] [5, 7, 8, 9, 10, 28, 29, 30, 31, 32, 33, 34, 35, 36, 37, 38, 39, 40, 41, 42, 43, 44, 45, 46, 47, 48, 49, 50, 51, 52, 53, 54, 55, 56, 57, 58, 59, 60, 61, 62, 63, 64, 65, 66, 67, 68, 69, 70, 71] (.seq (.seq .reg (.cond .leaf .leaf)) (.seq (.block (.seq (.seq .reg (.cond (.seq .reg .leaf) .leaf)) (.seq .reg (.seq .reg (.seq .reg (.seq (.seq .reg (.cond (.seq (.seq .reg (.cond (.seq .reg .leaf) .leaf)) (.seq .reg .reg)) .leaf)) .reg)))))) .reg))))) (.seq .reg (.seq (.seq .reg (.cond (.seq .reg .leaf) .leaf)) (.seq .reg .leaf)))))))))
def F_ref19_Decode (bits : Int) (b_a : Option Addr) (b_l : Nat) (b_c : Nat) (w : World) (R : Value → World → Prop) : Prop :=
  (kAlloc w #[.int .i64 (0 : Int), .slice none 0 0] Ty_api_Status fun b w1 =>
  (Calls Try.prog N_ref15_Bits #[(.int .i64 bits)] w1 fun e_ w2 =>
  ∃ r : Bool, e_ = .returned (.bool r) ∧
  (bsplit (!r)
    ((sxStore w2 ⟨b, 0, none⟩ 0 [(.int .i64 (0 : Int)), (.slice none 0 0)] fun w3 =>
    (∃ r_0 : Int, ∃ r_1_a : Option Addr, ∃ r_1_l : Nat, ∃ r_1_c : Nat, cellsAt w3 ⟨b, 0, none⟩ 0 [(.int .i64 r_0), (.slice r_1_a r_1_l r_1_c)] ∧
    R (.tuple #[(.agg #[.int .i64 r_0, .slice r_1_a r_1_l r_1_c]), (.int .i64 (3 : Int))]) w3)))
    ((bsplit (decide ((b_l : Int) < (3 : Int)))
      ((sxStore w2 ⟨b, 0, none⟩ 0 [(.int .i64 (0 : Int)), (.slice none 0 0)] fun w4 =>
      (∃ r_01 : Int, ∃ r_1_a1 : Option Addr, ∃ r_1_l1 : Nat, ∃ r_1_c1 : Nat, cellsAt w4 ⟨b, 0, none⟩ 0 [(.int .i64 r_01), (.slice r_1_a1 r_1_l1 r_1_c1)] ∧
      R (.tuple #[(.agg #[.int .i64 r_01, .slice r_1_a1 r_1_l1 r_1_c1]), (.int .i64 (5 : Int))]) w4)))
      ((Calls Try.prog N_ref01_Get #[(.slice b_a b_l b_c), (.int .i64 (0 : Int)), (.int .i64 (2 : Int))] w2 fun e_1 w5 =>
      ∃ r1 : Int, e_1 = .returned (.int .i64 r1) ∧
      (kAlloc w5 #[.int .i64 (0 : Int), .slice none 0 0] Ty_api_Status fun b1 w6 =>
      (sxStore w6 ⟨b1, 0, none⟩ 0 [(.int .i64 r1), (.slice none 0 0)] fun w7 =>
      (kIx b_a b_l (2 : Int) fun b2 =>
      (kLd w7 (b2.add ((2 : Int).toNat * 1)) .u8 fun x =>
      (kW .i64 (x) fun x1 =>
      (∃ I : Int → Int → Nat × (World → Prop), (I (3 : Int) x1).2 w7 ∧
      (∀ (_junk : Env) (at1 : Int) (n : Int) (w8 : World), (I at1 n).2 w8 →
        (bsplit (decide (n > (0 : Int)))
          ((kW .i64 (at1 + (2 : Int)) fun x2 =>
          (bsplit (decide ((b_l : Int) < x2))
            ((sxStore w8 ⟨b, 0, none⟩ 0 [(.int .i64 (0 : Int)), (.slice none 0 0)] fun w9 =>
            (∃ r_02 : Int, ∃ r_1_a2 : Option Addr, ∃ r_1_l2 : Nat, ∃ r_1_c2 : Nat, cellsAt w9 ⟨b, 0, none⟩ 0 [(.int .i64 r_02), (.slice r_1_a2 r_1_l2 r_1_c2)] ∧
            R (.tuple #[(.agg #[.int .i64 r_02, .slice r_1_a2 r_1_l2 r_1_c2]), (.int .i64 (5 : Int))]) w9)))
            ((Calls Try.prog N_ref01_Get #[(.slice b_a b_l b_c), (.int .i64 at1), (.int .i64 (2 : Int))] w8 fun e_2 w10 =>
            ∃ r2 : Int, e_2 = .returned (.int .i64 r2) ∧
            (kLet (Int.fdiv r2 (2 ^ 4)) fun x3 =>
            (kAlloc w10 #[.int .i64 (0 : Int), .int .i64 (0 : Int), .int .i64 (0 : Int)] Ty_api_Range fun b3 w11 =>
            (sxStore w11 ⟨b3, 0, none⟩ 0 [(.int .i64 x3), (.int .i64 (0 : Int)), (.int .i64 (0 : Int))] fun w12 =>
            (kW .i64 (at1 + (2 : Int)) fun x4 =>
            (kLet (bAnd .i64 r2 (15 : Int)) fun x5 =>
            (bsplit (decide (x5 = (1 : Int)))
              ((kW .i64 (x4 + (4 : Int)) fun x6 =>
              (bsplit (decide ((b_l : Int) < x6))
                ((sxStore w12 ⟨b, 0, none⟩ 0 [(.int .i64 (0 : Int)), (.slice none 0 0)] fun w13 =>
                (∃ r_03 : Int, ∃ r_1_a3 : Option Addr, ∃ r_1_l3 : Nat, ∃ r_1_c3 : Nat, cellsAt w13 ⟨b, 0, none⟩ 0 [(.int .i64 r_03), (.slice r_1_a3 r_1_l3 r_1_c3)] ∧
                R (.tuple #[(.agg #[.int .i64 r_03, .slice r_1_a3 r_1_l3 r_1_c3]), (.int .i64 (5 : Int))]) w13)))
                ((Calls Try.prog N_ref01_Get #[(.slice b_a b_l b_c), (.int .i64 x4), (.int .i64 (2 : Int))] w12 fun e_3 w14 =>
                ∃ r3 : Int, e_3 = .returned (.int .i64 r3) ∧
                (kW .i64 (x4 + (2 : Int)) fun x7 =>
                (Calls Try.prog N_ref01_Get #[(.slice b_a b_l b_c), (.int .i64 x7), (.int .i64 (2 : Int))] w14 fun e_4 w15 =>
                ∃ r4 : Int, e_4 = .returned (.int .i64 r4) ∧
                (kSet w15 ⟨b3, 1, none⟩ (.int .i64 r3) fun w16 =>
                (kSet w16 ⟨b3, 2, none⟩ (.int .i64 r4) fun w17 =>
                (kW .i64 (x4 + (4 : Int)) fun x8 =>
                (kLdS w17 ⟨b1, 1, none⟩ fun x_a x_l x_c =>
                (∃ x_0 : Int, ∃ x_1 : Int, ∃ x_2 : Int, cellsAt w17 ⟨b3, 0, none⟩ 0 [(.int .i64 x_0), (.int .i64 x_1), (.int .i64 x_2)] ∧
                (kAlloc w17 #[(.int .i64 x_0), (.int .i64 x_1), (.int .i64 x_2)] Ty_api_Range fun b4 w18 =>
                (AppP Try.prog #[Ty_S_api_Range, Ty_S_api_Range] Ty_S_api_Range #[(.slice x_a x_l x_c), (.slice (some ⟨b4, 0, none⟩) 1 1)] w18 fun x_a1 x_l1 x_c1 w19 =>
                (kSet w19 ⟨b1, 1, none⟩ (.slice x_a1 x_l1 x_c1) fun w20 =>
                (kW .i64 (n - (1 : Int)) fun x9 =>
                ((I x8 x9).2 w20 ∧ (I x8 x9).1 < (I at1 n).1)))))))))))))))))
              ((kLdS w12 ⟨b1, 1, none⟩ fun x_a2 x_l2 x_c2 =>
              (∃ x_01 : Int, ∃ x_11 : Int, ∃ x_21 : Int, cellsAt w12 ⟨b3, 0, none⟩ 0 [(.int .i64 x_01), (.int .i64 x_11), (.int .i64 x_21)] ∧
              (kAlloc w12 #[(.int .i64 x_01), (.int .i64 x_11), (.int .i64 x_21)] Ty_api_Range fun b5 w21 =>
              (AppP Try.prog #[Ty_S_api_Range, Ty_S_api_Range] Ty_S_api_Range #[(.slice x_a2 x_l2 x_c2), (.slice (some ⟨b5, 0, none⟩) 1 1)] w21 fun x_a3 x_l3 x_c3 w22 =>
              (kSet w22 ⟨b1, 1, none⟩ (.slice x_a3 x_l3 x_c3) fun w23 =>
              (kW .i64 (n - (1 : Int)) fun x10 =>
              ((I x4 x10).2 w23 ∧ (I x4 x10).1 < (I at1 n).1)))))))))))))))))))
          ((∃ x_02 : Int, ∃ x_1_a : Option Addr, ∃ x_1_l : Nat, ∃ x_1_c : Nat, cellsAt w8 ⟨b1, 0, none⟩ 0 [(.int .i64 x_02), (.slice x_1_a x_1_l x_1_c)] ∧
          (Calls Try.prog N_ref19_Encode #[(.int .i64 bits), (.agg #[.int .i64 x_02, .slice x_1_a x_1_l x_1_c])] w8 fun e_5 w24 =>
          ∃ r_a : Option Addr, ∃ r_l : Nat, ∃ r_c : Nat, ∃ r5 : Int, e_5 = .returned (.tuple #[(.slice r_a r_l r_c), (.int .i64 r5)]) ∧
          (bsplit (!decide (r5 = (0 : Int)))
            ((sxStore w24 ⟨b, 0, none⟩ 0 [(.int .i64 (0 : Int)), (.slice none 0 0)] fun w25 =>
              (∃ r_04 : Int, ∃ r_1_a4 : Option Addr, ∃ r_1_l4 : Nat, ∃ r_1_c4 : Nat, cellsAt w25 ⟨b, 0, none⟩ 0 [(.int .i64 r_04), (.slice r_1_a4 r_1_l4 r_1_c4)] ∧
              R (.tuple #[(.agg #[.int .i64 r_04, .slice r_1_a4 r_1_l4 r_1_c4]), (.int .i64 (4 : Int))]) w25)))
            ((Calls Try.prog N_ref01_Same #[(.slice b_a b_l b_c), (.slice r_a r_l r_c)] w24 fun e_6 w27 =>
            ∃ r6 : Bool, e_6 = .returned (.bool r6) ∧
            (bsplit (!r6)
              ((sxStore w27 ⟨b, 0, none⟩ 0 [(.int .i64 (0 : Int)), (.slice none 0 0)] fun w28 =>
              (∃ r_06 : Int, ∃ r_1_a6 : Option Addr, ∃ r_1_l6 : Nat, ∃ r_1_c6 : Nat, cellsAt w28 ⟨b, 0, none⟩ 0 [(.int .i64 r_06), (.slice r_1_a6 r_1_l6 r_1_c6)] ∧
              R (.tuple #[(.agg #[.int .i64 r_06, .slice r_1_a6 r_1_l6 r_1_c6]), (.int .i64 (4 : Int))]) w28)))
              ((∃ x_04 : Int, ∃ x_1_a2 : Option Addr, ∃ x_1_l2 : Nat, ∃ x_1_c2 : Nat, cellsAt w27 ⟨b1, 0, none⟩ 0 [(.int .i64 x_04), (.slice x_1_a2 x_1_l2 x_1_c2)] ∧
              (sxStore w27 ⟨b, 0, none⟩ 0 [(.int .i64 x_04), (.slice x_1_a2 x_1_l2 x_1_c2)] fun w29 =>
              (∃ r_07 : Int, ∃ r_1_a7 : Option Addr, ∃ r_1_l7 : Nat, ∃ r_1_c7 : Nat, cellsAt w29 ⟨b, 0, none⟩ 0 [(.int .i64 r_07), (.slice r_1_a7 r_1_l7 r_1_c7)] ∧
              R (.tuple #[(.agg #[.int .i64 r_07, .slice r_1_a7 r_1_l7 r_1_c7]), (.int .i64 (0 : Int))]) w29))))))))))))))))))))))))))
theorem F_ref19_Decode_eq (bits : Int) (b_a : Option Addr) (b_l : Nat) (b_c : Nat) (w : World) (R : Value → World → Prop) : sxFn Try.prog TT h_ref19_Decode Try.f11 #[(.int .i64 bits), (.slice b_a b_l b_c)] w R = F_ref19_Decode bits b_a b_l b_c w R := by kernel_rfl
theorem F_ref19_Decode_ok {R : Ending → World → Prop} (bits : Int) (b_a : Option Addr) (b_l : Nat) (b_c : Nat) (w : World) (h : F_ref19_Decode bits b_a b_l b_c w fun v w' => R (.returned v) w') : Calls Try.prog N_ref19_Decode #[(.int .i64 bits), (.slice b_a b_l b_c)] w R :=
  calls_of (f := 11) follows_ok Try.func11 (Eq.mpr (F_ref19_Decode_eq bits b_a b_l b_c w _) h)

def h_status_Fit : H := (.seq .reg (.seq (.block (.seq .reg (.cond (.seq .reg .leaf) (.seq .reg (.cond (.seq .reg .leaf) .leaf))))) (.seq .reg (.seq .reg (.seq (.seq .reg (.block (.loop [(8, .p (.int .i64)), (9, .p (.int .i64)), (29, .p (.int .i64))] [7, 8, 9, 10, 11, 29, 30, 31, 32, 33, 34, 35, 36, 37, 38, 39, 40, 41, 42, 43, 44, 45, 46, 47, 48, 49, 50, 51, 52, 53, 54, 55, 56, 57, 58, 59, 60, 61, 62, 63, 64, 65] (.seq .reg (.seq (.cond .leaf .leaf) (.seq (.block (.seq .reg (.cut [(9, .p (.int .i64))] [9, 34, 35, 36, 37, 38, 39, 40, 41, 42, 43, 44, 45, 46, 47, 48] (.seq (.draw .no (.one 0 .stable (.one 1 .stable (.one 2 .stable (.one 3 .stable (.one 4 .stable (.one 5 .stable (.one 6 .stable (.one 7 .stable (.one 8 .stable (.one 9 .stable (.one 10 .stable (.one 11 .stable (.one 12 .stable (.one 13 .stable .nil))))))))))))))) (.cond .reg .leaf)) (.seq .reg (.seq .reg (.cond (.seq (.draw .blk (.one 0 .pre (.one 1 .pre (.one 2 .pre (.one 3 .pre (.one 4 .stable (.one 5 .stable (.one 6 .pre (.one 7 .keep (.one 8 .stable (.one 9 .last .nil))))))))))) (.seq .reg .leaf)) .leaf)))))) .reg)))))) (.seq .reg .leaf))))))
def F_status_Fit (bits : Int) (s_0 : Int) (s_1_a : Option Addr) (s_1_l : Nat) (s_1_c : Nat) (space : Int) (w : World) (R : Value → World → Prop) : Prop :=
  (kAlloc w #[(.int .i64 s_0), (.slice s_1_a s_1_l s_1_c)] Ty_api_Status fun b w1 =>
  (kAlloc w1 #[.int .i64 (0 : Int), .slice none 0 0] Ty_api_Status fun b1 w2 =>
  (∃ x_0 : Int, ∃ x_1_a : Option Addr, ∃ x_1_l : Nat, ∃ x_1_c : Nat, cellsAt w2 ⟨b, 0, none⟩ 0 [(.int .i64 x_0), (.slice x_1_a x_1_l x_1_c)] ∧
  (Calls Try.prog N_status_Valid #[(.int .i64 bits), (.agg #[.int .i64 x_0, .slice x_1_a x_1_l x_1_c])] w2 fun e_ w3 =>
  ∃ r : Bool, e_ = .returned (.bool r) ∧
  (bsplit (!r)
    ((sxStore w3 ⟨b1, 0, none⟩ 0 [(.int .i64 (0 : Int)), (.slice none 0 0)] fun w4 =>
    (∃ r_0 : Int, ∃ r_1_a : Option Addr, ∃ r_1_l : Nat, ∃ r_1_c : Nat, cellsAt w4 ⟨b1, 0, none⟩ 0 [(.int .i64 r_0), (.slice r_1_a r_1_l r_1_c)] ∧
    R (.tuple #[(.agg #[.int .i64 r_0, .slice r_1_a r_1_l r_1_c]), (.int .i64 (1 : Int))]) w4)))
    ((kLet (decide (space < (3 : Int))) fun x =>
    (bsplit x
      ((sxStore w3 ⟨b1, 0, none⟩ 0 [(.int .i64 (0 : Int)), (.slice none 0 0)] fun w5 =>
      (∃ r_01 : Int, ∃ r_1_a1 : Option Addr, ∃ r_1_l1 : Nat, ∃ r_1_c1 : Nat, cellsAt w5 ⟨b1, 0, none⟩ 0 [(.int .i64 r_01), (.slice r_1_a1 r_1_l1 r_1_c1)] ∧
      R (.tuple #[(.agg #[.int .i64 r_01, .slice r_1_a1 r_1_l1 r_1_c1]), (.int .i64 (15 : Int))]) w5)))
      ((kLdS w3 ⟨b, 1, none⟩ fun x_a x_l x_c =>
      (Calls Try.prog N_slices_Clone_Sapi_Range_api_Range #[(.slice x_a x_l x_c)] w3 fun e_1 w6 =>
      ∃ r_a : Option Addr, ∃ r_l : Nat, ∃ r_c : Nat, e_1 = .returned (.slice r_a r_l r_c) ∧
      (kSet w6 ⟨b, 1, none⟩ (.slice r_a r_l r_c) fun w7 =>
      (kLdS w7 ⟨b, 1, none⟩ fun x_a1 x_l1 x_c1 =>
      (∃ I : Int → Int → Int → Nat × (World → Prop), (I (3 : Int) (0 : Int) (0 : Int)).2 w7 ∧
      (∀ (_junk : Env) (used : Int) (unit : Int) (x1 : Int) (w8 : World), (I used unit x1).2 w8 →
        (bsplit (decide (x1 < (x_l1 : Int)))
          ((kIx x_a1 x_l1 x1 fun b2 =>
          (∃ x_01 : Int, ∃ x_1 : Int, ∃ x_2 : Int, cellsAt w8 (b2.add (x1.toNat * 3)) 0 [(.int .i64 x_01), (.int .i64 x_1), (.int .i64 x_2)] ∧
          (kAlloc w8 #[.int .i64 (0 : Int), .int .i64 (0 : Int), .int .i64 (0 : Int)] Ty_api_Range fun b3 w9 =>
          (sxStore w9 ⟨b3, 0, none⟩ 0 [(.int .i64 x_01), (.int .i64 x_1), (.int .i64 x_2)] fun w10 =>
          (∃ J : Int → World → Prop,
          (∀ (_junk : Env) (unit1 : Int) (w12 : World), J unit1 w12 →
            (∃ x_02 : Int, ∃ x_11 : Int, ∃ x_21 : Int, cellsAt w12 ⟨b3, 0, none⟩ 0 [(.int .i64 x_02), (.int .i64 x_11), (.int .i64 x_21)] ∧
            (Calls Try.prog N_status_size #[(.agg #[.int .i64 x_02, .int .i64 x_11, .int .i64 x_21])] w12 fun e_2 w13 =>
            ∃ r1 : Int, e_2 = .returned (.int .i64 r1) ∧
            (kW .i64 (used + r1) fun x5 =>
            (bsplit (decide (x5 > space))
              ((kDrew w13 fun w14 =>
              (∃ S : Nat → Prop,
              (kLd w14 ⟨b3, 0, none⟩ .i64 fun x6 =>
              (kLdS w14 ⟨b, 1, none⟩ fun x_a3 x_l3 x_c3 =>
              ((0 ≤ unit1 ∧ unit1 ≤ ((x_c3 : Nat) : Int)) ∧ (kSet w14 ⟨b, 0, none⟩ (.int .i64 x6) fun w15 =>
              (KeepsB S w14 w15 ∧ (kSet w15 ⟨b, 1, none⟩ (.slice (slAddr x_c3 0 3 x_a3) (unit1.toNat - 0) (x_c3 - 0)) fun w16 =>
              (∃ x_03 : Int, ∃ x_1_a1 : Option Addr, ∃ x_1_l1 : Nat, ∃ x_1_c1 : Nat, cellsAt w16 ⟨b, 0, none⟩ 0 [(.int .i64 x_03), (.slice x_1_a1 x_1_l1 x_1_c1)] ∧
              (sxStore w16 ⟨b1, 0, none⟩ 0 [(.int .i64 x_03), (.slice x_1_a1 x_1_l1 x_1_c1)] fun w17 =>
              (∃ r_02 : Int, ∃ r_1_a2 : Option Addr, ∃ r_1_l2 : Nat, ∃ r_1_c2 : Nat, cellsAt w17 ⟨b1, 0, none⟩ 0 [(.int .i64 r_02), (.slice r_1_a2 r_1_l2 r_1_c2)] ∧
              R (.tuple #[(.agg #[.int .i64 r_02, .slice r_1_a2 r_1_l2 r_1_c2]), (.int .i64 (0 : Int))]) w17))))))))))))
              ((kW .i64 (x1 + (1 : Int)) fun x7 =>
              ((I x5 unit1 x7).2 w13 ∧ (I x5 unit1 x7).1 < (I used unit x1).1)))))))) ∧
          (kDrew w10 fun w11 =>
          (bsplit (decide (x1 > (0 : Int)))
            ((kLd w11 ⟨b3, 0, none⟩ .i64 fun x2 =>
            (kLdS w11 ⟨b, 1, none⟩ fun x_a2 x_l2 x_c2 =>
            (kW .i64 (x1 - (1 : Int)) fun x3 =>
            (kIx x_a2 x_l2 x3 fun b4 =>
            (kLd w11 (b4.add (x3.toNat * 3)) .i64 fun x4 =>
            (bsplit (!decide (x2 = x4))
              (J x1 w11)
              (J unit w11))))))))
            (J unit w11)))))))))
          ((∃ x_04 : Int, ∃ x_1_a2 : Option Addr, ∃ x_1_l2 : Nat, ∃ x_1_c2 : Nat, cellsAt w8 ⟨b, 0, none⟩ 0 [(.int .i64 x_04), (.slice x_1_a2 x_1_l2 x_1_c2)] ∧
          (sxStore w8 ⟨b1, 0, none⟩ 0 [(.int .i64 x_04), (.slice x_1_a2 x_1_l2 x_1_c2)] fun w18 =>
          (∃ r_03 : Int, ∃ r_1_a3 : Option Addr, ∃ r_1_l3 : Nat, ∃ r_1_c3 : Nat, cellsAt w18 ⟨b1, 0, none⟩ 0 [(.int .i64 r_03), (.slice r_1_a3 r_1_l3 r_1_c3)] ∧
          R (.tuple #[(.agg #[.int .i64 r_03, .slice r_1_a3 r_1_l3 r_1_c3]), (.int .i64 (0 : Int))]) w18))))))))))))))))))))
theorem F_status_Fit_eq (bits : Int) (s_0 : Int) (s_1_a : Option Addr) (s_1_l : Nat) (s_1_c : Nat) (space : Int) (w : World) (R : Value → World → Prop) : sxFn Try.prog TT h_status_Fit Try.f12 #[(.int .i64 bits), (.agg #[.int .i64 s_0, .slice s_1_a s_1_l s_1_c]), (.int .i64 space)] w R = F_status_Fit bits s_0 s_1_a s_1_l s_1_c space w R := by kernel_rfl
theorem F_status_Fit_ok {R : Ending → World → Prop} (bits : Int) (s_0 : Int) (s_1_a : Option Addr) (s_1_l : Nat) (s_1_c : Nat) (space : Int) (w : World) (h : F_status_Fit bits s_0 s_1_a s_1_l s_1_c space w fun v w' => R (.returned v) w') : Calls Try.prog N_status_Fit #[(.int .i64 bits), (.agg #[.int .i64 s_0, .slice s_1_a s_1_l s_1_c]), (.int .i64 space)] w R :=
  calls_of (f := 12) follows_ok Try.func12 (Eq.mpr (F_status_Fit_eq bits s_0 s_1_a s_1_l s_1_c space w _) h)

def h_ref19_Fit : H := (.seq .reg (.seq (.seq .reg (.cond (.seq .reg .leaf) .leaf)) (.seq (.seq .reg (.cond (.seq .reg .leaf) .leaf)) (.seq .reg (.seq .reg (.seq (.seq .reg (.block (.loop [(9, .p (.int .i64)), (10, .p (.int .i64))] [9, 10, 11, 12, 24, 25, 26, 27, 28, 29, 30, 31, 32, 33, 34, 35, 36, 37, 38, 39, 40, 41, 42, 43, 44, 45, 46, 47, 48, 49, 50, 51, 52, 53, 54, 55, 56, 57, 58, 59, 60, 61, 62, 63, 64, 65, 66, 67, 68, 69, 70, 71, 72, 73, 74, 75, 76, 77, 78, 79, 80, 81, 82, 83, 84] (.seq (.seq .reg (.cond .leaf .leaf)) (.block (.seq .reg (.cut [(11, .p (.int .i64)), (12, .p (.int .i64))] [11, 12, 30, 31, 32, 33, 34, 35, 36, 37, 38, 39, 40, 41, 42, 43, 44, 45, 46, 47, 48, 49, 50, 51, 52, 53, 54, 55, 56, 57, 58, 59] (.block (.loop [(11, .p (.int .i64)), (12, .p (.int .i64))] [11, 12, 30, 31, 32, 33, 34, 35, 36, 37, 38, 39, 40, 41, 42, 43, 44, 45, 46, 47, 48, 49, 50, 51, 52, 53, 54, 55, 56, 57, 58, 59] (.seq (.seq (.draw .no (.one 0 .stable (.one 1 .stable (.one 2 .stable (.one 3 .stable (.one 4 .stable (.one 5 .stable (.one 6 .stable (.one 7 .stable (.one 8 .stable (.one 9 .stable (.one 10 .stable (.one 11 .stable (.one 12 .stable (.one 13 .stable (.one 14 .stable (.one 15 .stable (.one 16 .stable (.one 17 .stable (.one 18 .stable (.one 19 .stable .nil))))))))))))))))))))) (.cond .leaf .leaf)) (.block (.seq .reg .reg))))) (.seq (.seq .reg (.cond (.seq .reg .leaf) .leaf)) (.seq (.draw .blk (.one 0 .pre (.one 1 .pre (.one 2 .pre (.one 3 .pre (.one 4 .pre (.one 5 .pre (.one 6 .pre (.one 7 .keep (.one 8 .stable (.one 9 .last .nil))))))))))) (.seq .reg .reg)))))))))) (.seq .reg .leaf)))))))
def F_ref19_Fit (bits : Int) (s_0 : Int) (s_1_a : Option Addr) (s_1_l : Nat) (s_1_c : Nat) (space : Int) (w : World) (R : Value → World → Prop) : Prop :=
  (kAlloc w #[(.int .i64 s_0), (.slice s_1_a s_1_l s_1_c)] Ty_api_Status fun b w1 =>
  (kAlloc w1 #[.int .i64 (0 : Int), .slice none 0 0] Ty_api_Status fun b1 w2 =>
  (∃ x_0 : Int, ∃ x_1_a : Option Addr, ∃ x_1_l : Nat, ∃ x_1_c : Nat, cellsAt w2 ⟨b, 0, none⟩ 0 [(.int .i64 x_0), (.slice x_1_a x_1_l x_1_c)] ∧
  (Calls Try.prog N_ref19_Valid #[(.int .i64 bits), (.agg #[.int .i64 x_0, .slice x_1_a x_1_l x_1_c])] w2 fun e_ w3 =>
  ∃ r : Bool, e_ = .returned (.bool r) ∧
  (bsplit (!r)
    ((sxStore w3 ⟨b1, 0, none⟩ 0 [(.int .i64 (0 : Int)), (.slice none 0 0)] fun w4 =>
    (∃ r_0 : Int, ∃ r_1_a : Option Addr, ∃ r_1_l : Nat, ∃ r_1_c : Nat, cellsAt w4 ⟨b1, 0, none⟩ 0 [(.int .i64 r_0), (.slice r_1_a r_1_l r_1_c)] ∧
    R (.tuple #[(.agg #[.int .i64 r_0, .slice r_1_a r_1_l r_1_c]), (.int .i64 (1 : Int))]) w4)))
    ((bsplit (decide (space < (3 : Int)))
      ((sxStore w3 ⟨b1, 0, none⟩ 0 [(.int .i64 (0 : Int)), (.slice none 0 0)] fun w5 =>
      (∃ r_01 : Int, ∃ r_1_a1 : Option Addr, ∃ r_1_l1 : Nat, ∃ r_1_c1 : Nat, cellsAt w5 ⟨b1, 0, none⟩ 0 [(.int .i64 r_01), (.slice r_1_a1 r_1_l1 r_1_c1)] ∧
      R (.tuple #[(.agg #[.int .i64 r_01, .slice r_1_a1 r_1_l1 r_1_c1]), (.int .i64 (15 : Int))]) w5)))
      ((kLd w3 ⟨b, 0, none⟩ .i64 fun x =>
      (kAlloc w3 #[.int .i64 (0 : Int), .slice none 0 0] Ty_api_Status fun b2 w6 =>
      (sxStore w6 ⟨b2, 0, none⟩ 0 [(.int .i64 x), (.slice none 0 0)] fun w7 =>
      (∃ I : Int → Int → Nat × (World → Prop), (I (3 : Int) (0 : Int)).2 w7 ∧
      (∀ (_junk : Env) (n : Int) (i : Int) (w8 : World), (I n i).2 w8 →
        (kLdS w8 ⟨b, 1, none⟩ fun x_a x_l x_c =>
        (bsplit (decide (i < (x_l : Int)))
          ((∃ J : Int → Int → World → Prop,
          (∀ (_junk : Env) (k1 : Int) (more1 : Int) (w13 : World), J k1 more1 w13 →
            (kW .i64 (n + more1) fun x7 =>
            (bsplit (decide (x7 > space))
              ((kLdS w13 ⟨b, 1, none⟩ fun x_a6 x_l6 x_c6 =>
              (kIx x_a6 x_l6 i fun b7 =>
              (kLd w13 (b7.add (i.toNat * 3)) .i64 fun x8 =>
              (kSet w13 ⟨b2, 0, none⟩ (.int .i64 x8) fun w14 =>
              (∃ x_03 : Int, ∃ x_1_a1 : Option Addr, ∃ x_1_l1 : Nat, ∃ x_1_c1 : Nat, cellsAt w14 ⟨b2, 0, none⟩ 0 [(.int .i64 x_03), (.slice x_1_a1 x_1_l1 x_1_c1)] ∧
              (sxStore w14 ⟨b1, 0, none⟩ 0 [(.int .i64 x_03), (.slice x_1_a1 x_1_l1 x_1_c1)] fun w15 =>
              (∃ r_02 : Int, ∃ r_1_a2 : Option Addr, ∃ r_1_l2 : Nat, ∃ r_1_c2 : Nat, cellsAt w15 ⟨b1, 0, none⟩ 0 [(.int .i64 r_02), (.slice r_1_a2 r_1_l2 r_1_c2)] ∧
              R (.tuple #[(.agg #[.int .i64 r_02, .slice r_1_a2 r_1_l2 r_1_c2]), (.int .i64 (0 : Int))]) w15))))))))
              ((kDrew w13 fun w16 =>
              (∃ S : Nat → Prop,
              (kLdS w16 ⟨b2, 1, none⟩ fun x_a7 x_l7 x_c7 =>
              (kLdS w16 ⟨b, 1, none⟩ fun x_a8 x_l8 x_c8 =>
              ((0 ≤ k1 ∧ k1 ≤ ((x_c8 : Nat) : Int)) ∧ ((0 ≤ i ∧ i ≤ ((k1.toNat : Nat) : Int)) ∧ (AppP Try.prog #[Ty_S_api_Range, Ty_S_api_Range] Ty_S_api_Range #[(.slice x_a7 x_l7 x_c7), (.slice (slAddr x_c8 (i.toNat) 3 x_a8) (k1.toNat - i.toNat) (x_c8 - i.toNat))] w16 fun x_a9 x_l9 x_c9 w17 =>
              (KeepsB S w16 w17 ∧ (kSet w17 ⟨b2, 1, none⟩ (.slice x_a9 x_l9 x_c9) fun w18 =>
              (kW .i64 (n + more1) fun x9 =>
              ((I x9 k1).2 w18 ∧ (I x9 k1).1 < (I n i).1))))))))))))))) ∧
          (∃ I1 : Int → Int → Nat × (World → Prop), (I1 i (0 : Int)).2 w8 ∧
          (∀ (_junk : Env) (k : Int) (more : Int) (w9 : World), (I1 k more).2 w9 →
            (kDrew w9 fun w10 =>
            (kLdS w10 ⟨b, 1, none⟩ fun x_a1 x_l1 x_c1 =>
            (bsplit (decide (k < (x_l1 : Int)))
              ((kLdS w10 ⟨b, 1, none⟩ fun x_a2 x_l2 x_c2 =>
              (kIx x_a2 x_l2 k fun b3 =>
              (kLd w10 (b3.add (k.toNat * 3)) .i64 fun x1 =>
              (kLdS w10 ⟨b, 1, none⟩ fun x_a3 x_l3 x_c3 =>
              (kIx x_a3 x_l3 i fun b4 =>
              (kLd w10 (b4.add (i.toNat * 3)) .i64 fun x2 =>
              (bsplit (decide (x1 = x2))
                ((kLdS w10 ⟨b, 1, none⟩ fun x_a4 x_l4 x_c4 =>
                (kIx x_a4 x_l4 k fun b5 =>
                (∃ x_01 : Int, ∃ x_1 : Int, ∃ x_2 : Int, cellsAt w10 (b5.add (k.toNat * 3)) 0 [(.int .i64 x_01), (.int .i64 x_1), (.int .i64 x_2)] ∧
                (Calls Try.prog N_ref19_size #[(.agg #[.int .i64 x_01, .int .i64 x_1, .int .i64 x_2])] w10 fun e_1 w11 =>
                ∃ r1 : Int, e_1 = .returned (.int .i64 r1) ∧
                (kW .i64 (more + r1) fun x3 =>
                (kW .i64 (k + (1 : Int)) fun x4 =>
                ((I1 x4 x3).2 w11 ∧ (I1 x4 x3).1 < (I1 k more).1))))))))
                (J k more w10)))))))))
              (J k more w10))))))))
          ((∃ x_04 : Int, ∃ x_1_a2 : Option Addr, ∃ x_1_l2 : Nat, ∃ x_1_c2 : Nat, cellsAt w8 ⟨b2, 0, none⟩ 0 [(.int .i64 x_04), (.slice x_1_a2 x_1_l2 x_1_c2)] ∧
          (sxStore w8 ⟨b1, 0, none⟩ 0 [(.int .i64 x_04), (.slice x_1_a2 x_1_l2 x_1_c2)] fun w19 =>
          (∃ r_03 : Int, ∃ r_1_a3 : Option Addr, ∃ r_1_l3 : Nat, ∃ r_1_c3 : Nat, cellsAt w19 ⟨b1, 0, none⟩ 0 [(.int .i64 r_03), (.slice r_1_a3 r_1_l3 r_1_c3)] ∧
          R (.tuple #[(.agg #[.int .i64 r_03, .slice r_1_a3 r_1_l3 r_1_c3]), (.int .i64 (0 : Int))]) w19)))))))))))))))))))
theorem F_ref19_Fit_eq (bits : Int) (s_0 : Int) (s_1_a : Option Addr) (s_1_l : Nat) (s_1_c : Nat) (space : Int) (w : World) (R : Value → World → Prop) : sxFn Try.prog TT h_ref19_Fit Try.f13 #[(.int .i64 bits), (.agg #[.int .i64 s_0, .slice s_1_a s_1_l s_1_c]), (.int .i64 space)] w R = F_ref19_Fit bits s_0 s_1_a s_1_l s_1_c space w R := by kernel_rfl
theorem F_ref19_Fit_ok {R : Ending → World → Prop} (bits : Int) (s_0 : Int) (s_1_a : Option Addr) (s_1_l : Nat) (s_1_c : Nat) (space : Int) (w : World) (h : F_ref19_Fit bits s_0 s_1_a s_1_l s_1_c space w fun v w' => R (.returned v) w') : Calls Try.prog N_ref19_Fit #[(.int .i64 bits), (.agg #[.int .i64 s_0, .slice s_1_a s_1_l s_1_c]), (.int .i64 space)] w R :=
  calls_of (f := 13) follows_ok Try.func13 (Eq.mpr (F_ref19_Fit_eq bits s_0 s_1_a s_1_l s_1_c space w _) h)

def h_status_Valid : H := (.seq .reg (.cut [] [4, 10, 11, 12, 13, 14, 15, 16, 17, 18, 19, 20, 21, 22, 23, 24, 25, 26, 27, 28, 29, 30] (.seq (.draw .blk (.one 0 .pre (.one 1 .keep (.one 2 .stable (.one 3 .stable (.one 4 .stable (.one 5 .stable (.one 6 .stable (.one 7 .stable (.one 8 .stable (.one 9 .stable (.one 10 .stable (.one 11 .stable (.one 12 .stable (.one 13 .stable (.one 14 .stable (.one 15 .stable (.one 16 .stable (.one 17 .stable (.one 18 .stable (.one 19 .stable (.one 20 .stable .nil)))))))))))))))))))))) (.cond (.seq .reg .leaf) .leaf)) (.seq .reg (.seq (.seq .reg (.block (.loop [(5, .p (.int .i64)), (38, .p (.int .i64))] [4, 5, 6, 7, 8, 9, 38, 39, 40, 41, 42, 43, 44, 45, 46, 47, 48, 49, 50, 51, 52, 53, 54, 55, 56, 57, 58, 59, 60, 61, 62, 63, 64, 65, 66, 67, 68, 69, 70, 71, 72, 73, 74, 75, 76, 77, 78, 79, 80, 81, 82, 83, 84, 85, 86, 87, 88, 89, 90, 91, 92, 93, 94, 95, 96, 97, 98, 99, 100, 101, 102, 103, 104, 105, 106, 107, 108, 109, 110, 111, 112] (.seq .reg (.seq (.cond .leaf .leaf) (.seq (.block (.seq .reg (.seq .reg (.seq (.cut [(84, .p .bool)] [49, 50, 51, 52, 53, 54, 55, 56, 57, 58, 59, 60, 61, 62, 63, 64, 65, 66, 67, 68, 69, 70, 71, 72, 73, 74, 75, 76, 77, 78, 79, 80, 81, 82, 83, 84] (.draw .blk (.one 0 .pre (.one 1 .pre (.one 2 .pre (.one 3 .pre (.one 4 .pre (.one 5 .pre (.one 6 .pre (.one 7 .pre (.one 8 .pre (.one 9 .pre (.one 10 .pre (.one 11 .pre (.one 12 .pre (.one 13 .pre (.one 14 .pre (.one 15 .pre (.one 16 .pre (.one 17 .pre (.one 18 .pre (.one 19 .pre (.one 20 .pre (.one 21 .pre (.one 22 .pre (.one 23 .pre (.one 24 .pre (.one 25 .pre (.one 26 .pre (.one 27 .pre (.one 28 .keep (.one 29 .stable (.one 30 .stable (.one 31 .stable (.one 32 .keep (.one 33 .stable (.one 34 .stable (.one 35 .stable .nil))))))))))))))))))))))))))))))))))))) (.cond (.seq .reg .leaf) .leaf)) (.seq (.cut [(91, .p .bool)] [85, 86, 87, 88, 89, 90, 91] .reg (.cond (.seq .reg (.seq .reg (.cond (.seq .reg .leaf) .leaf))) .leaf)) .reg))))) .reg)))))) (.seq .reg .leaf)))))
def F_status_Valid (bits : Int) (s_0 : Int) (s_1_a : Option Addr) (s_1_l : Nat) (s_1_c : Nat) (w : World) (R : Value → World → Prop) : Prop :=
  (kAlloc w #[(.int .i64 s_0), (.slice s_1_a s_1_l s_1_c)] Ty_api_Status fun b w1 =>
  (∃ J : World → Prop,
  (∀ (_junk : Env)  (w4 : World), J w4 →
    (kW .i64 (bits - (1 : Int)) fun x3 =>
    (0 ≤ x3 ∧ (kW .i64 ((1 : Int) * 2 ^ (min x3.toNat (IntKind.bits .i64))) fun x4 =>
    (kW .i64 (x4 + (1 : Int)) fun x5 =>
    (kLdS w4 ⟨b, 1, none⟩ fun x_a1 x_l1 x_c1 =>
    (∃ I : Int → Int → Nat × (World → Prop), (I x5 (0 : Int)).2 w4 ∧
    (∀ (_junk : Env) (before : Int) (x6 : Int) (w5 : World), (I before x6).2 w5 →
      (bsplit (decide (x6 < (x_l1 : Int)))
        ((kIx x_a1 x_l1 x6 fun b1 =>
        (∃ x_0 : Int, ∃ x_1 : Int, ∃ x_2 : Int, cellsAt w5 (b1.add (x6.toNat * 3)) 0 [(.int .i64 x_0), (.int .i64 x_1), (.int .i64 x_2)] ∧
        (kAlloc w5 #[.int .i64 (0 : Int), .int .i64 (0 : Int), .int .i64 (0 : Int)] Ty_api_Range fun b2 w6 =>
        (sxStore w6 ⟨b2, 0, none⟩ 0 [(.int .i64 x_0), (.int .i64 x_1), (.int .i64 x_2)] fun w7 =>
        (kLd w7 ⟨b2, 0, none⟩ .i64 fun x7 =>
        (kLd w7 ⟨b, 0, none⟩ .i64 fun x8 =>
        (Calls Try.prog N_serial_Distance #[(.int .i64 bits), (.int .i64 x7), (.int .i64 x8)] w7 fun e_1 w8 =>
        ∃ r1 : Int, e_1 = .returned (.int .i64 r1) ∧
        (∃ J1 : Bool → World → Prop,
        (∀ (_junk : Env) (x14 : Bool) (w12 : World), J1 x14 w12 →
          (bsplit x14
            (R (.bool false) w12)
            ((∃ J2 : Bool → World → Prop,
            (∀ (_junk : Env) (x15 : Bool) (w13 : World), J2 x15 w13 →
              (bsplit x15
                ((kLdS w13 ⟨b, 1, none⟩ fun x_a2 x_l2 x_c2 =>
                (kW .i64 (x6 - (1 : Int)) fun x16 =>
                (kIx x_a2 x_l2 x16 fun b3 =>
                (∃ x_03 : Int, ∃ x_13 : Int, ∃ x_23 : Int, cellsAt w13 (b3.add (x16.toNat * 3)) 0 [(.int .i64 x_03), (.int .i64 x_13), (.int .i64 x_23)] ∧
                (kAlloc w13 #[.int .i64 (0 : Int), .int .i64 (0 : Int), .int .i64 (0 : Int)] Ty_api_Range fun b4 w14 =>
                (sxStore w14 ⟨b4, 0, none⟩ 0 [(.int .i64 x_03), (.int .i64 x_13), (.int .i64 x_23)] fun w15 =>
                (∃ x_04 : Int, ∃ x_14 : Int, ∃ x_24 : Int, cellsAt w15 ⟨b4, 0, none⟩ 0 [(.int .i64 x_04), (.int .i64 x_14), (.int .i64 x_24)] ∧
                (Calls Try.prog N_status_Whole #[(.agg #[.int .i64 x_04, .int .i64 x_14, .int .i64 x_24])] w15 fun e_4 w16 =>
                ∃ r4 : Bool, e_4 = .returned (.bool r4) ∧
                (bsplit r4
                  (R (.bool false) w16)
                  ((∃ x_05 : Int, ∃ x_15 : Int, ∃ x_25 : Int, cellsAt w16 ⟨b2, 0, none⟩ 0 [(.int .i64 x_05), (.int .i64 x_15), (.int .i64 x_25)] ∧
                  (Calls Try.prog N_status_Whole #[(.agg #[.int .i64 x_05, .int .i64 x_15, .int .i64 x_25])] w16 fun e_5 w17 =>
                  ∃ r5 : Bool, e_5 = .returned (.bool r5) ∧
                  (bsplit r5
                    (R (.bool false) w17)
                    ((kLd w17 ⟨b2, 1, none⟩ .i64 fun x19 =>
                    (kLd w17 ⟨b4, 2, none⟩ .i64 fun x20 =>
                    (bsplit (decide (x19 ≤ x20))
                      (R (.bool false) w17)
                      ((kW .i64 (x6 + (1 : Int)) fun x21 =>
                      ((I r1 x21).2 w17 ∧ (I r1 x21).1 < (I before x6).1)))))))))))))))))))))
                ((kW .i64 (x6 + (1 : Int)) fun x22 =>
                ((I r1 x22).2 w13 ∧ (I r1 x22).1 < (I before x6).1))))) ∧
            (bsplit (decide (r1 = before))
              (J2 (decide (x6 > (0 : Int))) w12)
              (J2 false w12)))))) ∧
        (kDrew w8 fun w9 =>
        (∃ S1 : Nat → Prop,
        (kLd w9 ⟨b2, 0, none⟩ .i64 fun x9 =>
        (bsplit (decide (x9 < (0 : Int)))
          (J1 true w9)
          ((kLd w9 ⟨b2, 0, none⟩ .i64 fun x10 =>
          (0 ≤ bits ∧ (kW .i64 ((1 : Int) * 2 ^ (min bits.toNat (IntKind.bits .i64))) fun x11 =>
          (bsplit (decide (x10 ≥ x11))
            (J1 true w9)
            ((bsplit (decide (r1 < (1 : Int)))
              (J1 true w9)
              ((bsplit (decide (r1 > before))
                (J1 true w9)
                ((kW .i64 (bits - (1 : Int)) fun x12 =>
                (0 ≤ x12 ∧ (kW .i64 ((1 : Int) * 2 ^ (min x12.toNat (IntKind.bits .i64))) fun x13 =>
                (bsplit (decide (r1 > x13))
                  (J1 true w9)
                  ((∃ x_01 : Int, ∃ x_11 : Int, ∃ x_21 : Int, cellsAt w9 ⟨b2, 0, none⟩ 0 [(.int .i64 x_01), (.int .i64 x_11), (.int .i64 x_21)] ∧
                  (Calls Try.prog N_status_Whole #[(.agg #[.int .i64 x_01, .int .i64 x_11, .int .i64 x_21])] w9 fun e_2 w10 =>
                  ∃ r2 : Bool, e_2 = .returned (.bool r2) ∧
                  (KeepsB S1 w9 w10 ∧ (bsplit (!r2)
                    ((S1 b2 ∧
                    (∃ x_02 : Int, ∃ x_12 : Int, ∃ x_22 : Int, cellsAt w9 ⟨b2, 0, none⟩ 0 [(.int .i64 x_02), (.int .i64 x_12), (.int .i64 x_22)] ∧
                    (Calls Try.prog N_status_part #[(.agg #[.int .i64 x_02, .int .i64 x_12, .int .i64 x_22])] w10 fun e_3 w11 =>
                    ∃ r3 : Bool, e_3 = .returned (.bool r3) ∧
                    (KeepsB S1 w9 w11 ∧ J1 (!r3) w11)))))
                    (J1 false w10)))))))))))))))))))))))))))))))))
        (R (.bool true) w5)))))))))) ∧
  (kDrew w1 fun w2 =>
  (∃ S : Nat → Prop,
  (Calls Try.prog N_counter_Bits #[(.int .i64 bits)] w2 fun e_ w3 =>
  ∃ r : Bool, e_ = .returned (.bool r) ∧
  (KeepsB S w2 w3 ∧ (bsplit (!r)
    (R (.bool false) w3)
    ((S b ∧
    (kLd w2 ⟨b, 0, none⟩ .i64 fun x =>
    (bsplit (decide (x < (0 : Int)))
      (R (.bool false) w3)
      ((S b ∧
      (kLd w2 ⟨b, 0, none⟩ .i64 fun x1 =>
      (0 ≤ bits ∧ (kW .i64 ((1 : Int) * 2 ^ (min bits.toNat (IntKind.bits .i64))) fun x2 =>
      (bsplit (decide (x1 ≥ x2))
        (R (.bool false) w3)
        ((S b ∧
        (kLdS w2 ⟨b, 1, none⟩ fun x_a x_l x_c =>
        (bsplit (decide ((x_l : Int) > (64 : Int)))
          (R (.bool false) w3)
          (J w3))))))))))))))))))))))
theorem F_status_Valid_eq (bits : Int) (s_0 : Int) (s_1_a : Option Addr) (s_1_l : Nat) (s_1_c : Nat) (w : World) (R : Value → World → Prop) : sxFn Try.prog TT h_status_Valid Try.f14 #[(.int .i64 bits), (.agg #[.int .i64 s_0, .slice s_1_a s_1_l s_1_c])] w R = F_status_Valid bits s_0 s_1_a s_1_l s_1_c w R := by kernel_rfl
theorem F_status_Valid_ok {R : Ending → World → Prop} (bits : Int) (s_0 : Int) (s_1_a : Option Addr) (s_1_l : Nat) (s_1_c : Nat) (w : World) (h : F_status_Valid bits s_0 s_1_a s_1_l s_1_c w fun v w' => R (.returned v) w') : Calls Try.prog N_status_Valid #[(.int .i64 bits), (.agg #[.int .i64 s_0, .slice s_1_a s_1_l s_1_c])] w R :=
  calls_of (f := 14) follows_ok Try.func14 (Eq.mpr (F_status_Valid_eq bits s_0 s_1_a s_1_l s_1_c w _) h)

def h_ref19_Valid : H := (.seq .reg (.cut [] [4, 11, 12, 13, 14, 15, 16, 17, 18, 19, 20, 21, 22, 23, 24, 25, 26, 27, 28, 29, 30, 31, 32] (.seq .reg (.cond (.seq .reg .leaf) .leaf)) (.seq (.seq .reg (.block (.loop [(5, .p (.int .i64))] [4, 5, 6, 7, 8, 9, 10, 33, 34, 35, 36, 37, 38, 39, 40, 41, 42, 43, 44, 45, 46, 47, 48, 49, 50, 51, 52, 53, 54, 55, 56, 57, 58, 59, 60, 61, 62, 63, 64, 65, 66, 67, 68, 69, 70, 71, 72, 73, 74, 75, 76, 77, 78, 79, 80, 81, 82, 83, 84, 85, 86, 87, 88, 89, 90, 91, 92, 93, 94, 95, 96, 97, 98, 99, 100, 101, 102, 103, 104, 105, 106, 107, 108, 109, 110, 111, 112, 113, 114, 115, 116, 117, 118, 119, 120, 121, 122, 123, 124, 125, 126, 127, 128, 129, 130, 131, 132, 133, 134, 135, 136, 137] (.seq (.seq .reg (.cond .leaf .leaf)) (.seq (.block (.seq .reg (.seq .reg (.cut [] [4, 51, 52, 53, 54, 55, 56, 57, 58, 59, 60, 61, 62, 63, 64, 65, 66, 67, 68, 69, 70, 71, 72, 73] (.seq .reg (.cond (.seq .reg .leaf) .leaf)) (.cut [(8, .p .bool)] [8, 74, 75, 76, 77, 78, 79, 80, 81] .reg (.cut [] [4, 82, 83, 84, 85, 86, 87, 88, 89, 90, 91, 92, 93, 94, 95, 96, 97, 98, 99, 100] (.seq .reg (.cond (.seq .reg .leaf) .leaf)) (.seq (.seq .reg (.cond .leaf .leaf)) (.seq .reg (.seq .reg (.cut [(137, .p .bool)] [115, 116, 117, 118, 119, 120, 121, 122, 123, 124, 125, 126, 127, 128, 129, 130, 131, 132, 133, 134, 135, 136, 137] .reg (.cond (.seq .reg .leaf) .leaf))))))))))) .reg))))) (.seq .reg .leaf))))
def F_ref19_Valid (bits : Int) (s_0 : Int) (s_1_a : Option Addr) (s_1_l : Nat) (s_1_c : Nat) (w : World) (R : Value → World → Prop) : Prop :=
  (kAlloc w #[(.int .i64 s_0), (.slice s_1_a s_1_l s_1_c)] Ty_api_Status fun b w1 =>
  (∃ J : World → Prop,
  (∀ (_junk : Env)  (w3 : World), J w3 →
    (∃ I : Int → Nat × (World → Prop), (I (0 : Int)).2 w3 ∧
    (∀ (_junk : Env) (i : Int) (w4 : World), (I i).2 w4 →
      (kLdS w4 ⟨b, 1, none⟩ fun x_a1 x_l1 x_c1 =>
      (bsplit (decide (i < (x_l1 : Int)))
        ((kLdS w4 ⟨b, 1, none⟩ fun x_a2 x_l2 x_c2 =>
        (kIx x_a2 x_l2 i fun b1 =>
        (∃ x_0 : Int, ∃ x_1 : Int, ∃ x_2 : Int, cellsAt w4 (b1.add (i.toNat * 3)) 0 [(.int .i64 x_0), (.int .i64 x_1), (.int .i64 x_2)] ∧
        (kAlloc w4 #[.int .i64 (0 : Int), .int .i64 (0 : Int), .int .i64 (0 : Int)] Ty_api_Range fun b2 w5 =>
        (sxStore w5 ⟨b2, 0, none⟩ 0 [(.int .i64 x_0), (.int .i64 x_1), (.int .i64 x_2)] fun w6 =>
        (kLd w6 ⟨b2, 0, none⟩ .i64 fun x4 =>
        (kLd w6 ⟨b, 0, none⟩ .i64 fun x5 =>
        (Calls Try.prog N_ref02_Distance #[(.int .i64 bits), (.int .i64 x4), (.int .i64 x5)] w6 fun e_1 w7 =>
        ∃ r1 : Int, e_1 = .returned (.int .i64 r1) ∧
        (∃ J1 : World → Prop,
        (∀ (_junk : Env)  (w8 : World), J1 w8 →
          (∃ J2 : Bool → World → Prop,
          (∀ (_junk : Env) (whole1 : Bool) (w9 : World), J2 whole1 w9 →
            (∃ J3 : World → Prop,
            (∀ (_junk : Env)  (w10 : World), J3 w10 →
              (bsplit (decide (i = (0 : Int)))
                ((kW .i64 (i + (1 : Int)) fun x19 =>
                ((I x19).2 w10 ∧ (I x19).1 < (I i).1)))
                ((kLdS w10 ⟨b, 1, none⟩ fun x_a3 x_l3 x_c3 =>
                (kW .i64 (i - (1 : Int)) fun x20 =>
                (kIx x_a3 x_l3 x20 fun b3 =>
                (∃ x_01 : Int, ∃ x_11 : Int, ∃ x_21 : Int, cellsAt w10 (b3.add (x20.toNat * 3)) 0 [(.int .i64 x_01), (.int .i64 x_11), (.int .i64 x_21)] ∧
                (kAlloc w10 #[.int .i64 (0 : Int), .int .i64 (0 : Int), .int .i64 (0 : Int)] Ty_api_Range fun b4 w11 =>
                (sxStore w11 ⟨b4, 0, none⟩ 0 [(.int .i64 x_01), (.int .i64 x_11), (.int .i64 x_21)] fun w12 =>
                (kLd w12 ⟨b4, 0, none⟩ .i64 fun x21 =>
                (kLd w12 ⟨b, 0, none⟩ .i64 fun x22 =>
                (Calls Try.prog N_ref02_Distance #[(.int .i64 bits), (.int .i64 x21), (.int .i64 x22)] w12 fun e_2 w13 =>
                ∃ r2 : Int, e_2 = .returned (.int .i64 r2) ∧
                (∃ J4 : Bool → World → Prop,
                (∀ (_junk : Env) (x26 : Bool) (w14 : World), J4 x26 w14 →
                  (bsplit x26
                    (R (.bool false) w14)
                    ((kW .i64 (i + (1 : Int)) fun x27 =>
                    ((I x27).2 w14 ∧ (I x27).1 < (I i).1))))) ∧
                (bsplit (decide (r2 < r1))
                  (J4 true w13)
                  ((bsplit (decide (r2 = r1))
                    ((bsplit whole1
                      (J4 true w13)
                      ((kLd w13 ⟨b4, 2, none⟩ .i64 fun x23 =>
                      (bsplit (decide (x23 = (0 : Int)))
                        (J4 true w13)
                        ((kLd w13 ⟨b2, 1, none⟩ .i64 fun x24 =>
                        (kLd w13 ⟨b4, 2, none⟩ .i64 fun x25 =>
                        J4 (decide (x24 ≤ x25)) w13))))))))
                    (J4 false w13))))))))))))))))) ∧
            (bsplit (!whole1)
              ((kLd w9 ⟨b2, 1, none⟩ .i64 fun x15 =>
              (bsplit (decide (x15 < (0 : Int)))
                (R (.bool false) w9)
                ((kLd w9 ⟨b2, 1, none⟩ .i64 fun x16 =>
                (kLd w9 ⟨b2, 2, none⟩ .i64 fun x17 =>
                (bsplit (decide (x16 ≥ x17))
                  (R (.bool false) w9)
                  ((kLd w9 ⟨b2, 2, none⟩ .i64 fun x18 =>
                  (bsplit (decide (x18 > (65535 : Int)))
                    (R (.bool false) w9)
                    (J3 w9)))))))))))
              (J3 w9)))) ∧
          (kLd w8 ⟨b2, 1, none⟩ .i64 fun x13 =>
          (bsplit (decide (x13 = (0 : Int)))
            ((kLd w8 ⟨b2, 2, none⟩ .i64 fun x14 =>
            (kLet (decide (x14 = (0 : Int))) fun whole =>
            J2 whole w8)))
            (J2 false w8))))) ∧
        (kLd w7 ⟨b2, 0, none⟩ .i64 fun x6 =>
        (bsplit (decide (x6 < (0 : Int)))
          (R (.bool false) w7)
          ((kLd w7 ⟨b2, 0, none⟩ .i64 fun x7 =>
          (kW .u64 (bits) fun x8 =>
          (0 ≤ x8 ∧ (kW .i64 ((1 : Int) * 2 ^ (min x8.toNat (IntKind.bits .i64))) fun x9 =>
          (bsplit (decide (x7 ≥ x9))
            (R (.bool false) w7)
            ((bsplit (decide (r1 < (1 : Int)))
              (R (.bool false) w7)
              ((kW .i64 (bits - (1 : Int)) fun x10 =>
              (kW .u64 (x10) fun x11 =>
              (0 ≤ x11 ∧ (kW .i64 ((1 : Int) * 2 ^ (min x11.toNat (IntKind.bits .i64))) fun x12 =>
              (bsplit (decide (r1 > x12))
                (R (.bool false) w7)
                (J1 w7)))))))))))))))))))))))))))
        (R (.bool true) w4)))))) ∧
  (Calls Try.prog N_ref15_Bits #[(.int .i64 bits)] w1 fun e_ w2 =>
  ∃ r : Bool, e_ = .returned (.bool r) ∧
  (bsplit (!r)
    (R (.bool false) w2)
    ((kLd w2 ⟨b, 0, none⟩ .i64 fun x =>
    (bsplit (decide (x < (0 : Int)))
      (R (.bool false) w2)
      ((kLd w2 ⟨b, 0, none⟩ .i64 fun x1 =>
      (kW .u64 (bits) fun x2 =>
      (0 ≤ x2 ∧ (kW .i64 ((1 : Int) * 2 ^ (min x2.toNat (IntKind.bits .i64))) fun x3 =>
      (bsplit (decide (x1 ≥ x3))
        (R (.bool false) w2)
        ((kLdS w2 ⟨b, 1, none⟩ fun x_a x_l x_c =>
        (bsplit (decide ((x_l : Int) > (64 : Int)))
          (R (.bool false) w2)
          (J w2)))))))))))))))))
theorem F_ref19_Valid_eq (bits : Int) (s_0 : Int) (s_1_a : Option Addr) (s_1_l : Nat) (s_1_c : Nat) (w : World) (R : Value → World → Prop) : sxFn Try.prog TT h_ref19_Valid Try.f15 #[(.int .i64 bits), (.agg #[.int .i64 s_0, .slice s_1_a s_1_l s_1_c])] w R = F_ref19_Valid bits s_0 s_1_a s_1_l s_1_c w R := by kernel_rfl
theorem F_ref19_Valid_ok {R : Ending → World → Prop} (bits : Int) (s_0 : Int) (s_1_a : Option Addr) (s_1_l : Nat) (s_1_c : Nat) (w : World) (h : F_ref19_Valid bits s_0 s_1_a s_1_l s_1_c w fun v w' => R (.returned v) w') : Calls Try.prog N_ref19_Valid #[(.int .i64 bits), (.agg #[.int .i64 s_0, .slice s_1_a s_1_l s_1_c])] w R :=
  calls_of (f := 15) follows_ok Try.func15 (Eq.mpr (F_ref19_Valid_eq bits s_0 s_1_a s_1_l s_1_c w _) h)

def h_ref01_Same : H := (.seq .reg (.seq .reg .leaf))
def F_ref01_Same (a_a : Option Addr) (a_l : Nat) (a_c : Nat) (b_a : Option Addr) (b_l : Nat) (b_c : Nat) (w : World) (R : Value → World → Prop) : Prop :=
  (ConvS Try.prog Ty_S_uint8 Ty_string (.slice a_a a_l a_c) w fun x =>
  (ConvS Try.prog Ty_S_uint8 Ty_string (.slice b_a b_l b_c) w fun x1 =>
  R (.bool (x == x1)) w))
theorem F_ref01_Same_eq (a_a : Option Addr) (a_l : Nat) (a_c : Nat) (b_a : Option Addr) (b_l : Nat) (b_c : Nat) (w : World) (R : Value → World → Prop) : sxFn Try.prog TT h_ref01_Same Try.f16 #[(.slice a_a a_l a_c), (.slice b_a b_l b_c)] w R = F_ref01_Same a_a a_l a_c b_a b_l b_c w R := by kernel_rfl
theorem F_ref01_Same_ok {R : Ending → World → Prop} (a_a : Option Addr) (a_l : Nat) (a_c : Nat) (b_a : Option Addr) (b_l : Nat) (b_c : Nat) (w : World) (h : F_ref01_Same a_a a_l a_c b_a b_l b_c w fun v w' => R (.returned v) w') : Calls Try.prog N_ref01_Same #[(.slice a_a a_l a_c), (.slice b_a b_l b_c)] w R :=
  calls_of (f := 16) follows_ok Try.func16 (Eq.mpr (F_ref01_Same_eq a_a a_l a_c b_a b_l b_c w _) h)

def h_ref19_Same : H := (.seq .reg (.seq .reg .leaf))
def F_ref19_Same (a_0 : Int) (a_1_a : Option Addr) (a_1_l : Nat) (a_1_c : Nat) (b_0 : Int) (b_1_a : Option Addr) (b_1_l : Nat) (b_1_c : Nat) (w : World) (R : Value → World → Prop) : Prop :=
  (kAlloc w #[(.int .i64 a_0), (.slice a_1_a a_1_l a_1_c)] Ty_api_Status fun b w1 =>
  (kAlloc w1 #[(.int .i64 b_0), (.slice b_1_a b_1_l b_1_c)] Ty_api_Status fun b1 w2 =>
  (kLd w2 ⟨b, 0, none⟩ .i64 fun x =>
  (kLd w2 ⟨b1, 0, none⟩ .i64 fun x1 =>
  (bsplit (decide (x = x1))
    ((kLdS w2 ⟨b, 1, none⟩ fun x_a x_l x_c =>
    (kLdS w2 ⟨b1, 1, none⟩ fun x_a1 x_l1 x_c1 =>
    (Calls Try.prog N_ref18_SameRanges #[(.slice x_a x_l x_c), (.slice x_a1 x_l1 x_c1)] w2 fun e_ w3 =>
    ∃ r : Bool, e_ = .returned (.bool r) ∧
    R (.bool r) w3))))
    (R (.bool false) w2))))))
theorem F_ref19_Same_eq (a_0 : Int) (a_1_a : Option Addr) (a_1_l : Nat) (a_1_c : Nat) (b_0 : Int) (b_1_a : Option Addr) (b_1_l : Nat) (b_1_c : Nat) (w : World) (R : Value → World → Prop) : sxFn Try.prog TT h_ref19_Same Try.f17 #[(.agg #[.int .i64 a_0, .slice a_1_a a_1_l a_1_c]), (.agg #[.int .i64 b_0, .slice b_1_a b_1_l b_1_c])] w R = F_ref19_Same a_0 a_1_a a_1_l a_1_c b_0 b_1_a b_1_l b_1_c w R := by kernel_rfl
theorem F_ref19_Same_ok {R : Ending → World → Prop} (a_0 : Int) (a_1_a : Option Addr) (a_1_l : Nat) (a_1_c : Nat) (b_0 : Int) (b_1_a : Option Addr) (b_1_l : Nat) (b_1_c : Nat) (w : World) (h : F_ref19_Same a_0 a_1_a a_1_l a_1_c b_0 b_1_a b_1_l b_1_c w fun v w' => R (.returned v) w') : Calls Try.prog N_ref19_Same #[(.agg #[.int .i64 a_0, .slice a_1_a a_1_l a_1_c]), (.agg #[.int .i64 b_0, .slice b_1_a b_1_l b_1_c])] w R :=
  calls_of (f := 17) follows_ok Try.func17 (Eq.mpr (F_ref19_Same_eq a_0 a_1_a a_1_l a_1_c b_0 b_1_a b_1_l b_1_c w _) h)

def h_made_Light : H := (.seq .reg (.seq .reg .leaf))
def F_made_Light (t_a : Option Addr) (t_l : Nat) (t_c : Nat) (w : World) (R : Value → World → Prop) : Prop :=
  (kLet (decide ((t_l : Int) ≤ (400 : Int))) fun x =>
  R (.bool x) w)
theorem F_made_Light_eq (t_a : Option Addr) (t_l : Nat) (t_c : Nat) (w : World) (R : Value → World → Prop) : sxFn Try.prog TT h_made_Light Try.f18 #[(.slice t_a t_l t_c)] w R = F_made_Light t_a t_l t_c w R := by kernel_rfl
theorem F_made_Light_ok {R : Ending → World → Prop} (t_a : Option Addr) (t_l : Nat) (t_c : Nat) (w : World) (h : F_made_Light t_a t_l t_c w fun v w' => R (.returned v) w') : Calls Try.prog N_made_Light #[(.slice t_a t_l t_c)] w R :=
  calls_of (f := 18) follows_ok Try.func18 (Eq.mpr (F_made_Light_eq t_a t_l t_c w _) h)

def h_made_Roll : H := (.seq .reg (.seq .reg .leaf))
def F_made_Roll (t_a : Option Addr) (t_l : Nat) (t_c : Nat) (w : World) (R : Value → World → Prop) : Prop :=
  (kAlloc w #[(.slice t_a t_l t_c), (.int .i64 (0 : Int))] Ty_radiolinkmade_Dice fun b w1 =>
  R (.pointer (some ⟨b, 0, none⟩)) w1)
theorem F_made_Roll_eq (t_a : Option Addr) (t_l : Nat) (t_c : Nat) (w : World) (R : Value → World → Prop) : sxFn Try.prog TT h_made_Roll Try.f19 #[(.slice t_a t_l t_c)] w R = F_made_Roll t_a t_l t_c w R := by kernel_rfl
theorem F_made_Roll_ok {R : Ending → World → Prop} (t_a : Option Addr) (t_l : Nat) (t_c : Nat) (w : World) (h : F_made_Roll t_a t_l t_c w fun v w' => R (.returned v) w') : Calls Try.prog N_made_Roll #[(.slice t_a t_l t_c)] w R :=
  calls_of (f := 19) follows_ok Try.func19 (Eq.mpr (F_made_Roll_eq t_a t_l t_c w _) h)

def h_made_Dice_Bits : H := (.seq .reg (.seq .reg .leaf))
def F_made_Dice_Bits (d_b : Nat) (d_o : Nat) (w : World) (R : Value → World → Prop) : Prop :=
  (kAlloc w #[(.int .i64 (5 : Int)), (.int .i64 (5 : Int)), (.int .i64 (6 : Int)), (.int .i64 (9 : Int))] Ty_int fun b w1 =>
  (Calls Try.prog N_made_Dice_Next #[(.pointer (some ⟨d_b, d_o, none⟩)), (.int .i64 (4 : Int))] w1 fun e_ w2 =>
  ∃ r : Int, e_ = .returned (.int .i64 r) ∧
  (kIx (some ⟨b, 0, none⟩) 4 r fun b1 =>
  (kLd w2 (b1.add (r.toNat * 1)) .i64 fun x =>
  R (.int .i64 x) w2))))
theorem F_made_Dice_Bits_eq (d_b : Nat) (d_o : Nat) (w : World) (R : Value → World → Prop) : sxFn Try.prog TT h_made_Dice_Bits Try.f20 #[(.pointer (some ⟨d_b, d_o, none⟩))] w R = F_made_Dice_Bits d_b d_o w R := by kernel_rfl
theorem F_made_Dice_Bits_ok {R : Ending → World → Prop} (d_b : Nat) (d_o : Nat) (w : World) (h : F_made_Dice_Bits d_b d_o w fun v w' => R (.returned v) w') : Calls Try.prog N_made_Dice_Bits #[(.pointer (some ⟨d_b, d_o, none⟩))] w R :=
  calls_of (f := 20) follows_ok Try.func20 (Eq.mpr (F_made_Dice_Bits_eq d_b d_o w _) h)

def h_made_Dice_Status : H := (.seq .reg (.seq .reg (.seq .reg (.seq (.seq .reg (.block (.loop [(7, .p (.int .i64))] [7, 8, 23, 24, 25, 26, 27, 28, 29, 30, 31, 32, 33, 34, 35, 36, 37, 38, 39, 40, 41, 42, 43, 44, 45, 46, 47, 48, 49, 50, 51] (.seq (.seq .reg (.cond .leaf .leaf)) (.seq (.block (.seq .reg (.seq (.seq .reg (.cond (.seq .reg .leaf) .leaf)) (.draw .blk (.one 0 .stable (.one 1 .stable (.one 2 .pre (.one 3 .pre (.one 4 .keep (.one 5 .keep (.one 6 .stable (.one 7 .last .nil)))))))))))) .reg))))) (.seq (.seq .reg (.cond .reg .leaf)) (.seq .reg .leaf))))))
def F_made_Dice_Status (d_b : Nat) (d_o : Nat) (bits : Int) (w : World) (R : Value → World → Prop) : Prop :=
  (kAlloc w #[.int .i64 (0 : Int), .slice none 0 0] Ty_api_Status fun b w1 =>
  (kW .u64 (bits) fun x =>
  (0 ≤ x ∧ (kW .i64 ((1 : Int) * 2 ^ (min x.toNat (IntKind.bits .i64))) fun x1 =>
  (Calls Try.prog N_made_Dice_Next #[(.pointer (some ⟨d_b, d_o, none⟩)), (.int .i64 x1)] w1 fun e_ w2 =>
  ∃ r : Int, e_ = .returned (.int .i64 r) ∧
  (kAlloc w2 #[.int .i64 (0 : Int), .slice none 0 0] Ty_api_Status fun b1 w3 =>
  (sxStore w3 ⟨b1, 0, none⟩ 0 [(.int .i64 r), (.slice none 0 0)] fun w4 =>
  (kW .i64 (Int.tdiv x1 (2 : Int)) fun x2 =>
  (kW .i64 (Int.tdiv x1 (2 : Int)) fun x3 =>
  (Calls Try.prog N_made_Dice_Next #[(.pointer (some ⟨d_b, d_o, none⟩)), (.int .i64 x3)] w4 fun e_1 w5 =>
  ∃ r1 : Int, e_1 = .returned (.int .i64 r1) ∧
  (kW .i64 (x2 - r1) fun x4 =>
  (∃ I : Int → Nat × (World → Prop), (I x4).2 w5 ∧
  (∀ (_junk : Env) (at1 : Int) (w6 : World), (I at1).2 w6 →
    (bsplit (decide (at1 > (0 : Int)))
      ((kLd w6 ⟨b1, 0, none⟩ .i64 fun x5 =>
      (kW .i64 (x5 - at1) fun x6 =>
      (Calls Try.prog N_made_Mod #[(.int .i64 x6), (.int .i64 x1)] w6 fun e_2 w7 =>
      ∃ r2 : Int, e_2 = .returned (.int .i64 r2) ∧
      (Calls Try.prog N_made_Dice_One #[(.pointer (some ⟨d_b, d_o, none⟩)), (.int .i64 (2 : Int))] w7 fun e_3 w8 =>
      ∃ r3 : Bool, e_3 = .returned (.bool r3) ∧
      (bsplit r3
        ((kLdS w8 ⟨b1, 1, none⟩ fun x_a x_l x_c =>
        (kAlloc w8 #[(.int .i64 r2), (.int .i64 (0 : Int)), (.int .i64 (0 : Int))] Ty_api_Range fun b2 w9 =>
        (AppP Try.prog #[Ty_S_api_Range, Ty_S_api_Range] Ty_S_api_Range #[(.slice x_a x_l x_c), (.slice (some ⟨b2, 0, none⟩) 1 1)] w9 fun x_a1 x_l1 x_c1 w10 =>
        (kSet w10 ⟨b1, 1, none⟩ (.slice x_a1 x_l1 x_c1) fun w11 =>
        (Calls Try.prog N_made_Dice_Next #[(.pointer (some ⟨d_b, d_o, none⟩)), (.int .i64 (4 : Int))] w11 fun e_4 w12 =>
        ∃ r4 : Int, e_4 = .returned (.int .i64 r4) ∧
        (kW .i64 ((1 : Int) + r4) fun x7 =>
        (kW .i64 (at1 - x7) fun x8 =>
        ((I x8).2 w12 ∧ (I x8).1 < (I at1).1)))))))))
        ((kDrew w8 fun w13 =>
        (∃ S : Nat → Prop,
        (S b1 ∧
        (kLdS w13 ⟨b1, 1, none⟩ fun x_a2 x_l2 x_c2 =>
        (Calls Try.prog N_made_Dice_Ranges #[(.pointer (some ⟨d_b, d_o, none⟩)), (.int .i64 r2), (.int .i64 (3 : Int))] w13 fun e_5 w14 =>
        ∃ r_a : Option Addr, ∃ r_l : Nat, ∃ r_c : Nat, e_5 = .returned (.slice r_a r_l r_c) ∧
        (KeepsB S w13 w14 ∧ (AppP Try.prog #[Ty_S_api_Range, Ty_S_api_Range] Ty_S_api_Range #[(.slice x_a2 x_l2 x_c2), (.slice r_a r_l r_c)] w14 fun x_a3 x_l3 x_c3 w15 =>
        (KeepsB S w13 w15 ∧ (kSet w15 ⟨b1, 1, none⟩ (.slice x_a3 x_l3 x_c3) fun w16 =>
        (Calls Try.prog N_made_Dice_Next #[(.pointer (some ⟨d_b, d_o, none⟩)), (.int .i64 (4 : Int))] w16 fun e_6 w17 =>
        ∃ r5 : Int, e_6 = .returned (.int .i64 r5) ∧
        (kW .i64 ((1 : Int) + r5) fun x9 =>
        (kW .i64 (at1 - x9) fun x10 =>
        ((I x10).2 w17 ∧ (I x10).1 < (I at1).1))))))))))))))))))))
      ((kLdS w6 ⟨b1, 1, none⟩ fun x_a4 x_l4 x_c4 =>
      (bsplit (decide ((x_l4 : Int) > (64 : Int)))
        ((kLdS w6 ⟨b1, 1, none⟩ fun x_a5 x_l5 x_c5 =>
        ((0 ≤ (64 : Int) ∧ (64 : Int) ≤ ((x_c5 : Nat) : Int)) ∧ (kSet w6 ⟨b1, 1, none⟩ (.slice (slAddr x_c5 0 3 x_a5) ((64 : Int).toNat - 0) (x_c5 - 0)) fun w18 =>
        (∃ x_0 : Int, ∃ x_1_a : Option Addr, ∃ x_1_l : Nat, ∃ x_1_c : Nat, cellsAt w18 ⟨b1, 0, none⟩ 0 [(.int .i64 x_0), (.slice x_1_a x_1_l x_1_c)] ∧
        (sxStore w18 ⟨b, 0, none⟩ 0 [(.int .i64 x_0), (.slice x_1_a x_1_l x_1_c)] fun w19 =>
        (∃ r_0 : Int, ∃ r_1_a : Option Addr, ∃ r_1_l : Nat, ∃ r_1_c : Nat, cellsAt w19 ⟨b, 0, none⟩ 0 [(.int .i64 r_0), (.slice r_1_a r_1_l r_1_c)] ∧
        R (.agg #[.int .i64 r_0, .slice r_1_a r_1_l r_1_c]) w19)))))))
        ((∃ x_01 : Int, ∃ x_1_a1 : Option Addr, ∃ x_1_l1 : Nat, ∃ x_1_c1 : Nat, cellsAt w6 ⟨b1, 0, none⟩ 0 [(.int .i64 x_01), (.slice x_1_a1 x_1_l1 x_1_c1)] ∧
        (sxStore w6 ⟨b, 0, none⟩ 0 [(.int .i64 x_01), (.slice x_1_a1 x_1_l1 x_1_c1)] fun w20 =>
        (∃ r_01 : Int, ∃ r_1_a1 : Option Addr, ∃ r_1_l1 : Nat, ∃ r_1_c1 : Nat, cellsAt w20 ⟨b, 0, none⟩ 0 [(.int .i64 r_01), (.slice r_1_a1 r_1_l1 r_1_c1)] ∧
        R (.agg #[.int .i64 r_01, .slice r_1_a1 r_1_l1 r_1_c1]) w20)))))))))))))))))))))
theorem F_made_Dice_Status_eq (d_b : Nat) (d_o : Nat) (bits : Int) (w : World) (R : Value → World → Prop) : sxFn Try.prog TT h_made_Dice_Status Try.f21 #[(.pointer (some ⟨d_b, d_o, none⟩)), (.int .i64 bits)] w R = F_made_Dice_Status d_b d_o bits w R := by kernel_rfl
theorem F_made_Dice_Status_ok {R : Ending → World → Prop} (d_b : Nat) (d_o : Nat) (bits : Int) (w : World) (h : F_made_Dice_Status d_b d_o bits w fun v w' => R (.returned v) w') : Calls Try.prog N_made_Dice_Status #[(.pointer (some ⟨d_b, d_o, none⟩)), (.int .i64 bits)] w R :=
  calls_of (f := 21) follows_ok Try.func21 (Eq.mpr (F_made_Dice_Status_eq d_b d_o bits w _) h)

def h_made_Dice_Next : H := (.seq .reg (.seq (.seq (.draw .no (.one 0 .stable (.one 1 .stable (.one 2 .stable (.one 3 .stable (.one 4 .stable (.one 5 .stable (.one 6 .stable (.one 7 .stable (.one 8 .stable (.one 9 .stable .nil))))))))))) (.cond (.seq .reg .leaf) .leaf)) (.seq .reg (.seq (.draw .blk (.one 0 .pre (.one 1 .pre (.one 2 .pre (.one 3 .pre (.one 4 .pre (.one 5 .pre (.one 6 .pre (.one 7 .pre (.one 8 .pre (.one 9 .pre (.one 10 .pre (.one 11 .pre (.one 12 .keep (.one 13 .stable .nil))))))))))))))) .leaf))))
def F_made_Dice_Next (d_b : Nat) (d_o : Nat) (n : Int) (w : World) (R : Value → World → Prop) : Prop :=
  (kDrew w fun w1 =>
  (kLd w1 ⟨d_b, d_o + 1, none⟩ .i64 fun x =>
  (kLdS w1 ⟨d_b, d_o, none⟩ fun x_a x_l x_c =>
  (bsplit (decide (x ≥ (x_l : Int)))
    (R (.int .i64 (0 : Int)) w1)
    ((kLd w1 ⟨d_b, d_o + 1, none⟩ .i64 fun x1 =>
    (kW .i64 (x1 + (1 : Int)) fun x2 =>
    (kSet w1 ⟨d_b, d_o + 1, none⟩ (.int .i64 x2) fun w2 =>
    (kDrew w2 fun w3 =>
    (∃ S : Nat → Prop,
    (kLdS w3 ⟨d_b, d_o, none⟩ fun x_a1 x_l1 x_c1 =>
    (kLd w3 ⟨d_b, d_o + 1, none⟩ .i64 fun x3 =>
    (kW .i64 (x3 - (1 : Int)) fun x4 =>
    (kIx x_a1 x_l1 x4 fun b =>
    (kLd w3 (b.add (x4.toNat * 1)) .i64 fun x5 =>
    (Calls Try.prog N_made_Mod #[(.int .i64 x5), (.int .i64 n)] w3 fun e_ w4 =>
    ∃ r : Int, e_ = .returned (.int .i64 r) ∧
    (KeepsB S w3 w4 ∧ R (.int .i64 r) w4)))))))))))))))))
theorem F_made_Dice_Next_eq (d_b : Nat) (d_o : Nat) (n : Int) (w : World) (R : Value → World → Prop) : sxFn Try.prog TT h_made_Dice_Next Try.f22 #[(.pointer (some ⟨d_b, d_o, none⟩)), (.int .i64 n)] w R = F_made_Dice_Next d_b d_o n w R := by kernel_rfl
theorem F_made_Dice_Next_ok {R : Ending → World → Prop} (d_b : Nat) (d_o : Nat) (n : Int) (w : World) (h : F_made_Dice_Next d_b d_o n w fun v w' => R (.returned v) w') : Calls Try.prog N_made_Dice_Next #[(.pointer (some ⟨d_b, d_o, none⟩)), (.int .i64 n)] w R :=
  calls_of (f := 22) follows_ok Try.func22 (Eq.mpr (F_made_Dice_Next_eq d_b d_o n w _) h)

def h_made_Dice_Spoil : H := (.seq .reg (.seq .reg (.seq .reg (.seq (.seq .reg (.cond (.seq .reg .leaf) .leaf)) (.seq .reg (.seq (.seq .reg (.block (.seq .reg (.cond .reg (.seq .reg (.cond (.draw .blk (.one 0 .stable (.one 1 .stable (.one 2 .stable (.one 3 .stable (.one 4 .pre (.one 5 .keep (.one 6 .stable (.one 7 .stable (.one 8 .stable (.one 9 .stable (.one 10 .last .nil)))))))))))) (.seq .reg (.cond (.draw .blk (.one 0 .pre (.one 1 .pre (.one 2 .pre (.one 3 .pre (.one 4 .pre (.one 5 .pre (.one 6 .pre (.one 7 .keep (.one 8 .stable .nil)))))))))) (.draw .blk (.one 0 .stable (.one 1 .stable (.one 2 .stable (.one 3 .pre (.one 5 .stable (.one 6 .stable (.one 7 .stable (.one 4 .keep (.one 8 .keep (.one 9 .keep (.one 10 .stable .nil)))))))))))))))))))) (.seq .reg .leaf)))))))
def F_made_Dice_Spoil (d_b : Nat) (d_o : Nat) (b_a : Option Addr) (b_l : Nat) (b_c : Nat) (w : World) (R : Value → World → Prop) : Prop :=
  (AppP Try.prog #[Ty_S_uint8, Ty_S_uint8] Ty_S_uint8 #[(.slice none 0 0), (.slice b_a b_l b_c)] w fun x_a x_l x_c w1 =>
  (Calls Try.prog N_made_Dice_Next #[(.pointer (some ⟨d_b, d_o, none⟩)), (.int .i64 (256 : Int))] w1 fun e_ w2 =>
  ∃ r : Int, e_ = .returned (.int .i64 r) ∧
  (kW .u8 (r) fun x =>
  (bsplit (decide ((x_l : Int) = (0 : Int)))
    ((kAlloc w2 #[(.int .u8 x)] Ty_uint8 fun b w3 =>
    R (.slice (some ⟨b, 0, none⟩) 1 1) w3))
    ((Calls Try.prog N_made_Dice_Next #[(.pointer (some ⟨d_b, d_o, none⟩)), (.int .i64 (x_l : Int))] w2 fun e_1 w4 =>
    ∃ r1 : Int, e_1 = .returned (.int .i64 r1) ∧
    (Calls Try.prog N_made_Dice_Next #[(.pointer (some ⟨d_b, d_o, none⟩)), (.int .i64 (4 : Int))] w4 fun e_2 w5 =>
    ∃ r2 : Int, e_2 = .returned (.int .i64 r2) ∧
    (kLet (decide (r2 = (0 : Int))) fun x1 =>
    (bsplit x1
      ((kIx x_a x_l r1 fun b1 =>
      (kSet w5 (b1.add (r1.toNat * 1)) (.int .u8 x) fun w6 =>
      R (.slice x_a x_l x_c) w6)))
      ((kLet (decide (r2 = (1 : Int))) fun x2 =>
      (bsplit x2
        ((kDrew w5 fun w7 =>
        (∃ S : Nat → Prop,
        (kIx x_a x_l r1 fun b2 =>
        (S (b2.add (r1.toNat * 1)).block ∧
        (kLd w7 (b2.add (r1.toNat * 1)) .u8 fun x3 =>
        (Calls Try.prog N_made_Dice_Next #[(.pointer (some ⟨d_b, d_o, none⟩)), (.int .i64 (8 : Int))] w7 fun e_3 w8 =>
        ∃ r3 : Int, e_3 = .returned (.int .i64 r3) ∧
        (KeepsB S w7 w8 ∧ (kW .u64 (r3) fun x4 =>
        (0 ≤ x4 ∧ (kW .u8 ((1 : Int) * 2 ^ (min x4.toNat (IntKind.bits .u8))) fun x5 =>
        (kLet (bXor .u8 x3 x5) fun x6 =>
        (kIx x_a x_l r1 fun b3 =>
        (kSet w8 (b3.add (r1.toNat * 1)) (.int .u8 x6) fun w9 =>
        R (.slice x_a x_l x_c) w9))))))))))))))
        ((kLet (decide (r2 = (2 : Int))) fun x7 =>
        (bsplit x7
          ((kDrew w5 fun w10 =>
          (∃ S1 : Nat → Prop,
          ((0 ≤ r1 ∧ r1 ≤ ((x_c : Nat) : Int)) ∧ (kW .i64 (r1 + (1 : Int)) fun x8 =>
          ((0 ≤ x8 ∧ x8 ≤ ((x_l : Nat) : Int)) ∧ (AppP Try.prog #[Ty_S_uint8, Ty_S_uint8] Ty_S_uint8 #[(.slice (slAddr x_c 0 1 x_a) (r1.toNat - 0) (x_c - 0)), (.slice (slAddr x_c (x8.toNat) 1 x_a) (x_l - x8.toNat) (x_c - x8.toNat))] w10 fun x_a1 x_l1 x_c1 w11 =>
          (KeepsB S1 w10 w11 ∧ R (.slice x_a1 x_l1 x_c1) w11))))))))
          ((kDrew w5 fun w12 =>
          (∃ S2 : Nat → Prop,
          ((0 ≤ r1 ∧ r1 ≤ ((x_c : Nat) : Int)) ∧ ((0 ≤ r1 ∧ r1 ≤ ((x_l : Nat) : Int)) ∧ (kAlloc w12 #[(.int .u8 x)] Ty_uint8 fun b4 w13 =>
          (KeepsB S2 w12 w13 ∧ (AppP Try.prog #[Ty_S_uint8, Ty_S_uint8] Ty_S_uint8 #[(.slice (some ⟨b4, 0, none⟩) 1 1), (.slice (slAddr x_c (r1.toNat) 1 x_a) (x_l - r1.toNat) (x_c - r1.toNat))] w13 fun x_a2 x_l2 x_c2 w14 =>
          (KeepsB S2 w12 w14 ∧ (AppP Try.prog #[Ty_S_uint8, Ty_S_uint8] Ty_S_uint8 #[(.slice (slAddr x_c 0 1 x_a) (r1.toNat - 0) (x_c - 0)), (.slice x_a2 x_l2 x_c2)] w14 fun x_a3 x_l3 x_c3 w15 =>
          (KeepsB S2 w12 w15 ∧ R (.slice x_a3 x_l3 x_c3) w15))))))))))))))))))))))))))
theorem F_made_Dice_Spoil_eq (d_b : Nat) (d_o : Nat) (b_a : Option Addr) (b_l : Nat) (b_c : Nat) (w : World) (R : Value → World → Prop) : sxFn Try.prog TT h_made_Dice_Spoil Try.f23 #[(.pointer (some ⟨d_b, d_o, none⟩)), (.slice b_a b_l b_c)] w R = F_made_Dice_Spoil d_b d_o b_a b_l b_c w R := by kernel_rfl
theorem F_made_Dice_Spoil_ok {R : Ending → World → Prop} (d_b : Nat) (d_o : Nat) (b_a : Option Addr) (b_l : Nat) (b_c : Nat) (w : World) (h : F_made_Dice_Spoil d_b d_o b_a b_l b_c w fun v w' => R (.returned v) w') : Calls Try.prog N_made_Dice_Spoil #[(.pointer (some ⟨d_b, d_o, none⟩)), (.slice b_a b_l b_c)] w R :=
  calls_of (f := 23) follows_ok Try.func23 (Eq.mpr (F_made_Dice_Spoil_eq d_b d_o b_a b_l b_c w _) h)

def h_made_Dice_One : H := (.seq .reg (.seq .reg .leaf))
def F_made_Dice_One (d_b : Nat) (d_o : Nat) (n : Int) (w : World) (R : Value → World → Prop) : Prop :=
  (Calls Try.prog N_made_Dice_Next #[(.pointer (some ⟨d_b, d_o, none⟩)), (.int .i64 n)] w fun e_ w1 =>
  ∃ r : Int, e_ = .returned (.int .i64 r) ∧
  (kW .i64 (n - (1 : Int)) fun x =>
  (kLet (decide (r = x)) fun x1 =>
  R (.bool x1) w1)))
theorem F_made_Dice_One_eq (d_b : Nat) (d_o : Nat) (n : Int) (w : World) (R : Value → World → Prop) : sxFn Try.prog TT h_made_Dice_One Try.f24 #[(.pointer (some ⟨d_b, d_o, none⟩)), (.int .i64 n)] w R = F_made_Dice_One d_b d_o n w R := by kernel_rfl
theorem F_made_Dice_One_ok {R : Ending → World → Prop} (d_b : Nat) (d_o : Nat) (n : Int) (w : World) (h : F_made_Dice_One d_b d_o n w fun v w' => R (.returned v) w') : Calls Try.prog N_made_Dice_One #[(.pointer (some ⟨d_b, d_o, none⟩)), (.int .i64 n)] w R :=
  calls_of (f := 24) follows_ok Try.func24 (Eq.mpr (F_made_Dice_One_eq d_b d_o n w _) h)

def h_made_Dice_OddRange : H := (.seq .reg (.seq .reg (.seq (.seq .reg (.cond (.seq .reg .leaf) .leaf)) (.seq .reg (.seq (.seq .reg (.block (.seq .reg (.cond (.draw .blk (.one 0 .stable (.one 1 .stable (.one 2 .stable (.one 3 .stable (.one 4 .stable (.one 5 .pre (.one 6 .keep (.one 7 .stable (.one 8 .stable (.one 9 .stable (.one 10 .stable (.one 11 .last .nil))))))))))))) (.seq .reg (.cond (.draw .blk (.one 0 .stable (.one 1 .stable (.one 2 .stable (.one 3 .stable (.one 4 .stable (.one 5 .pre (.one 6 .keep (.one 7 .stable (.one 8 .stable (.one 9 .stable (.one 10 .stable (.one 11 .last .nil))))))))))))) (.seq .reg (.cond (.draw .blk (.one 0 .stable (.one 1 .stable (.one 2 .stable (.one 3 .stable (.one 4 .stable (.one 5 .stable (.one 6 .stable (.one 8 .stable (.alt 7 (.one 9 .keep (.one 10 .stable (.one 11 .keep (.one 12 .stable (.one 13 .stable (.one 14 .last .nil)))))) (.alt 9 (.one 7 .keep (.one 10 .stable (.one 11 .keep (.one 12 .stable (.one 13 .stable (.one 14 .last .nil)))))) .endAlt))))))))))) .reg)))))))) (.seq .reg .leaf))))))
def F_made_Dice_OddRange (d_b : Nat) (d_o : Nat) (l_a : Option Addr) (l_l : Nat) (l_c : Nat) (w : World) (R : Value → World → Prop) : Prop :=
  (AppP Try.prog #[Ty_S_api_Range, Ty_S_api_Range] Ty_S_api_Range #[(.slice none 0 0), (.slice l_a l_l l_c)] w fun x_a x_l x_c w1 =>
  (bsplit (decide ((x_l : Int) = (0 : Int)))
    ((Calls Try.prog N_made_Dice_Next #[(.pointer (some ⟨d_b, d_o, none⟩)), (.int .i64 (5 : Int))] w1 fun e_ w2 =>
    ∃ r : Int, e_ = .returned (.int .i64 r) ∧
    (kAlloc w2 #[(.int .i64 (0 : Int)), (.int .i64 (3 : Int)), (.int .i64 r)] Ty_api_Range fun b w3 =>
    R (.slice (some ⟨b, 0, none⟩) 1 1) w3)))
    ((Calls Try.prog N_made_Dice_Next #[(.pointer (some ⟨d_b, d_o, none⟩)), (.int .i64 (x_l : Int))] w1 fun e_1 w4 =>
    ∃ r1 : Int, e_1 = .returned (.int .i64 r1) ∧
    (Calls Try.prog N_made_Dice_Next #[(.pointer (some ⟨d_b, d_o, none⟩)), (.int .i64 (4 : Int))] w4 fun e_2 w5 =>
    ∃ r2 : Int, e_2 = .returned (.int .i64 r2) ∧
    (kLet (decide (r2 = (0 : Int))) fun x =>
    (bsplit x
      ((kDrew w5 fun w6 =>
      (∃ S : Nat → Prop,
      (kIx x_a x_l r1 fun b1 =>
      (S (b1.add (r1.toNat * 3)).block ∧
      (kLd w6 (b1.add (r1.toNat * 3)) .i64 fun x1 =>
      (Calls Try.prog N_made_Dice_Next #[(.pointer (some ⟨d_b, d_o, none⟩)), (.int .i64 (3 : Int))] w6 fun e_3 w7 =>
      ∃ r3 : Int, e_3 = .returned (.int .i64 r3) ∧
      (KeepsB S w6 w7 ∧ (kW .i64 (r3 - (1 : Int)) fun x2 =>
      (kW .i64 (x1 + x2) fun x3 =>
      (kIx x_a x_l r1 fun b2 =>
      (kSet w7 (b2.add (r1.toNat * 3)) (.int .i64 x3) fun w8 =>
      R (.slice x_a x_l x_c) w8))))))))))))
      ((kLet (decide (r2 = (1 : Int))) fun x4 =>
      (bsplit x4
        ((kDrew w5 fun w9 =>
        (∃ S1 : Nat → Prop,
        (kIx x_a x_l r1 fun b3 =>
        (S1 ((b3.add (r1.toNat * 3)).add 1).block ∧
        (kLd w9 ((b3.add (r1.toNat * 3)).add 1) .i64 fun x5 =>
        (Calls Try.prog N_made_Dice_Next #[(.pointer (some ⟨d_b, d_o, none⟩)), (.int .i64 (5 : Int))] w9 fun e_4 w10 =>
        ∃ r4 : Int, e_4 = .returned (.int .i64 r4) ∧
        (KeepsB S1 w9 w10 ∧ (kW .i64 (r4 - (2 : Int)) fun x6 =>
        (kW .i64 (x5 + x6) fun x7 =>
        (kIx x_a x_l r1 fun b4 =>
        (kSet w10 ((b4.add (r1.toNat * 3)).add 1) (.int .i64 x7) fun w11 =>
        R (.slice x_a x_l x_c) w11))))))))))))
        ((kLet (decide (r2 = (2 : Int))) fun x8 =>
        (bsplit x8
          ((kDrew w5 fun w12 =>
          (∃ S2 : Nat → Prop,
          (kIx x_a x_l r1 fun b5 =>
          (S2 ((b5.add (r1.toNat * 3)).add 1).block ∧
          (kLd w12 ((b5.add (r1.toNat * 3)).add 1) .i64 fun x9 =>
          ((kAlloc w12 #[(.int .i64 (0 : Int)), (.int .i64 (65535 : Int)), (.int .i64 (65536 : Int)), (.int .i64 x9)] Ty_int fun b9 w16 =>
          (KeepsB S2 w12 w16 ∧ (Calls Try.prog N_made_Dice_Next #[(.pointer (some ⟨d_b, d_o, none⟩)), (.int .i64 (4 : Int))] w16 fun e_6 w17 =>
          ∃ r6 : Int, e_6 = .returned (.int .i64 r6) ∧
          (KeepsB S2 w12 w17 ∧ (kIx (some ⟨b9, 0, none⟩) 4 r6 fun b10 =>
          (kLd w17 (b10.add (r6.toNat * 1)) .i64 fun x11 =>
          (KeepsB S2 w12 w17 ∧ (kIx x_a x_l r1 fun b11 =>
          (kSet w17 ((b11.add (r1.toNat * 3)).add 2) (.int .i64 x11) fun w18 =>
          R (.slice x_a x_l x_c) w18))))))))) ∧
          ((Calls Try.prog N_made_Dice_Next #[(.pointer (some ⟨d_b, d_o, none⟩)), (.int .i64 (4 : Int))] w12 fun e_5 w13 =>
          ∃ r5 : Int, e_5 = .returned (.int .i64 r5) ∧
          (KeepsB S2 w12 w13 ∧ (kAlloc w13 #[(.int .i64 (0 : Int)), (.int .i64 (65535 : Int)), (.int .i64 (65536 : Int)), (.int .i64 x9)] Ty_int fun b6 w14 =>
          (KeepsB S2 w12 w14 ∧ (kIx (some ⟨b6, 0, none⟩) 4 r5 fun b7 =>
          (kLd w14 (b7.add (r5.toNat * 1)) .i64 fun x10 =>
          (KeepsB S2 w12 w14 ∧ (kIx x_a x_l r1 fun b8 =>
          (kSet w14 ((b8.add (r1.toNat * 3)).add 2) (.int .i64 x10) fun w15 =>
          R (.slice x_a x_l x_c) w15))))))))) ∧
          True))))))))
          ((kIx x_a x_l r1 fun b12 =>
          (∃ x_0 : Int, ∃ x_1 : Int, ∃ x_2 : Int, cellsAt w5 (b12.add (r1.toNat * 3)) 0 [(.int .i64 x_0), (.int .i64 x_1), (.int .i64 x_2)] ∧
          (kAlloc w5 #[(.int .i64 x_0), (.int .i64 x_1), (.int .i64 x_2)] Ty_api_Range fun b13 w19 =>
          (AppP Try.prog #[Ty_S_api_Range, Ty_S_api_Range] Ty_S_api_Range #[(.slice x_a x_l x_c), (.slice (some ⟨b13, 0, none⟩) 1 1)] w19 fun x_a1 x_l1 x_c1 w20 =>
          R (.slice x_a1 x_l1 x_c1) w20))))))))))))))))))
theorem F_made_Dice_OddRange_eq (d_b : Nat) (d_o : Nat) (l_a : Option Addr) (l_l : Nat) (l_c : Nat) (w : World) (R : Value → World → Prop) : sxFn Try.prog TT h_made_Dice_OddRange Try.f25 #[(.pointer (some ⟨d_b, d_o, none⟩)), (.slice l_a l_l l_c)] w R = F_made_Dice_OddRange d_b d_o l_a l_l l_c w R := by kernel_rfl
theorem F_made_Dice_OddRange_ok {R : Ending → World → Prop} (d_b : Nat) (d_o : Nat) (l_a : Option Addr) (l_l : Nat) (l_c : Nat) (w : World) (h : F_made_Dice_OddRange d_b d_o l_a l_l l_c w fun v w' => R (.returned v) w') : Calls Try.prog N_made_Dice_OddRange #[(.pointer (some ⟨d_b, d_o, none⟩)), (.slice l_a l_l l_c)] w R :=
  calls_of (f := 25) follows_ok Try.func25 (Eq.mpr (F_made_Dice_OddRange_eq d_b d_o l_a l_l l_c w _) h)

def h_made_Mod : H := (.seq .reg (.seq (.seq .reg (.cond (.seq .reg .leaf) .leaf)) (.seq .reg (.seq (.seq .reg (.cond .reg .leaf)) (.seq .reg .leaf)))))
def F_made_Mod (n : Int) (m : Int) (w : World) (R : Value → World → Prop) : Prop :=
  (bsplit (decide (m < (1 : Int)))
    (R (.int .i64 (0 : Int)) w)
    ((m ≠ 0 ∧ (kLet (Int.tmod n m) fun x =>
    (bsplit (decide (x < (0 : Int)))
      ((kW .i64 (x + m) fun x1 =>
      R (.int .i64 x1) w))
      (R (.int .i64 x) w))))))
theorem F_made_Mod_eq (n : Int) (m : Int) (w : World) (R : Value → World → Prop) : sxFn Try.prog TT h_made_Mod Try.f26 #[(.int .i64 n), (.int .i64 m)] w R = F_made_Mod n m w R := by kernel_rfl
theorem F_made_Mod_ok {R : Ending → World → Prop} (n : Int) (m : Int) (w : World) (h : F_made_Mod n m w fun v w' => R (.returned v) w') : Calls Try.prog N_made_Mod #[(.int .i64 n), (.int .i64 m)] w R :=
  calls_of (f := 26) follows_ok Try.func26 (Eq.mpr (F_made_Mod_eq n m w _) h)

def h_ref02_Distance : H := (.seq .reg (.seq (.seq .reg (.cond (.seq .reg .leaf) .leaf)) (.seq .reg .leaf)))
def F_ref02_Distance (n : Int) (a : Int) (b : Int) (w : World) (R : Value → World → Prop) : Prop :=
  (Calls Try.prog N_ref02_valid #[(.int .i64 n)] w fun e_ w1 =>
  ∃ r : Bool, e_ = .returned (.bool r) ∧
  (bsplit (!r)
    (R (.int .i64 (-1 : Int)) w1)
    ((Calls Try.prog N_ref02_Low #[(.int .i64 n), (.int .i64 b)] w1 fun e_1 w2 =>
    ∃ r1 : Int, e_1 = .returned (.int .i64 r1) ∧
    (Calls Try.prog N_ref02_Low #[(.int .i64 n), (.int .i64 a)] w2 fun e_2 w3 =>
    ∃ r2 : Int, e_2 = .returned (.int .i64 r2) ∧
    (kW .i64 (r1 - r2) fun x =>
    (kW .u64 (n) fun x1 =>
    (0 ≤ x1 ∧ (kW .i64 ((1 : Int) * 2 ^ (min x1.toNat (IntKind.bits .i64))) fun x2 =>
    (kW .i64 (x2 - (1 : Int)) fun x3 =>
    (kLet (bAnd .i64 x x3) fun x4 =>
    R (.int .i64 x4) w3)))))))))))
theorem F_ref02_Distance_eq (n : Int) (a : Int) (b : Int) (w : World) (R : Value → World → Prop) : sxFn Try.prog TT h_ref02_Distance Try.f27 #[(.int .i64 n), (.int .i64 a), (.int .i64 b)] w R = F_ref02_Distance n a b w R := by kernel_rfl
theorem F_ref02_Distance_ok {R : Ending → World → Prop} (n : Int) (a : Int) (b : Int) (w : World) (h : F_ref02_Distance n a b w fun v w' => R (.returned v) w') : Calls Try.prog N_ref02_Distance #[(.int .i64 n), (.int .i64 a), (.int .i64 b)] w R :=
  calls_of (f := 27) follows_ok Try.func27 (Eq.mpr (F_ref02_Distance_eq n a b w _) h)

def h_status_Whole : H := (.seq .reg (.seq .reg .leaf))
def F_status_Whole (r_0 : Int) (r_1 : Int) (r_2 : Int) (w : World) (R : Value → World → Prop) : Prop :=
  (kAlloc w #[(.int .i64 r_0), (.int .i64 r_1), (.int .i64 r_2)] Ty_api_Range fun b w1 =>
  (kLd w1 ⟨b, 1, none⟩ .i64 fun x =>
  (bsplit (decide (x = (0 : Int)))
    ((kLd w1 ⟨b, 2, none⟩ .i64 fun x1 =>
    (kLet (decide (x1 = (0 : Int))) fun x2 =>
    R (.bool x2) w1)))
    (R (.bool false) w1))))
theorem F_status_Whole_eq (r_0 : Int) (r_1 : Int) (r_2 : Int) (w : World) (R : Value → World → Prop) : sxFn Try.prog TT h_status_Whole Try.f28 #[(.agg #[.int .i64 r_0, .int .i64 r_1, .int .i64 r_2])] w R = F_status_Whole r_0 r_1 r_2 w R := by kernel_rfl
theorem F_status_Whole_ok {R : Ending → World → Prop} (r_0 : Int) (r_1 : Int) (r_2 : Int) (w : World) (h : F_status_Whole r_0 r_1 r_2 w fun v w' => R (.returned v) w') : Calls Try.prog N_status_Whole #[(.agg #[.int .i64 r_0, .int .i64 r_1, .int .i64 r_2])] w R :=
  calls_of (f := 28) follows_ok Try.func28 (Eq.mpr (F_status_Whole_eq r_0 r_1 r_2 w _) h)

def h_ref01_Put : H := (.seq .reg (.seq (.seq .reg (.block (.loop [(0, .p .slice), (7, .p (.int .i64))] [0, 7, 10, 11, 12, 13, 14, 15, 16, 17, 18, 19, 20, 21, 22] (.seq (.seq .reg (.cond .leaf .leaf)) (.seq (.block .reg) .reg))))) (.seq .reg .leaf)))
def F_ref01_Put (b_a : Option Addr) (b_l : Nat) (b_c : Nat) (bytes : Int) (v : Int) (w : World) (R : Value → World → Prop) : Prop :=
  (kW .i64 (bytes - (1 : Int)) fun x =>
  (∃ I : Option Addr → Nat → Nat → Int → Nat × (World → Prop), (I b_a b_l b_c x).2 w ∧
  (∀ (_junk : Env) (b_a1 : Option Addr) (b_l1 : Nat) (b_c1 : Nat) (i : Int) (w1 : World), (I b_a1 b_l1 b_c1 i).2 w1 →
    (bsplit (decide (i ≥ (0 : Int)))
      ((kW .i64 ((8 : Int) * i) fun x1 =>
      (kW .u64 (x1) fun x2 =>
      (0 ≤ x2 ∧ (kLet (Int.fdiv v (2 ^ (min x2.toNat (IntKind.bits .i64)))) fun x3 =>
      (kW .u8 (x3) fun x4 =>
      (kAlloc w1 #[(.int .u8 x4)] Ty_uint8 fun b w2 =>
      (AppP Try.prog #[Ty_S_uint8, Ty_S_uint8] Ty_S_uint8 #[(.slice b_a1 b_l1 b_c1), (.slice (some ⟨b, 0, none⟩) 1 1)] w2 fun x_a x_l x_c w3 =>
      (kW .i64 (i - (1 : Int)) fun x5 =>
      ((I x_a x_l x_c x5).2 w3 ∧ (I x_a x_l x_c x5).1 < (I b_a1 b_l1 b_c1 i).1))))))))))
      (R (.slice b_a1 b_l1 b_c1) w1)))))
theorem F_ref01_Put_eq (b_a : Option Addr) (b_l : Nat) (b_c : Nat) (bytes : Int) (v : Int) (w : World) (R : Value → World → Prop) : sxFn Try.prog TT h_ref01_Put Try.f29 #[(.slice b_a b_l b_c), (.int .i64 bytes), (.int .i64 v)] w R = F_ref01_Put b_a b_l b_c bytes v w R := by kernel_rfl
theorem F_ref01_Put_ok {R : Ending → World → Prop} (b_a : Option Addr) (b_l : Nat) (b_c : Nat) (bytes : Int) (v : Int) (w : World) (h : F_ref01_Put b_a b_l b_c bytes v w fun v w' => R (.returned v) w') : Calls Try.prog N_ref01_Put #[(.slice b_a b_l b_c), (.int .i64 bytes), (.int .i64 v)] w R :=
  calls_of (f := 29) follows_ok Try.func29 (Eq.mpr (F_ref01_Put_eq b_a b_l b_c bytes v w _) h)

def h_ref19_size : H := (.seq .reg (.seq (.seq .reg (.cond (.seq .reg .leaf) .leaf)) (.seq .reg .leaf)))
def F_ref19_size (x_0 : Int) (x_1 : Int) (x_2 : Int) (w : World) (R : Value → World → Prop) : Prop :=
  (kAlloc w #[(.int .i64 x_0), (.int .i64 x_1), (.int .i64 x_2)] Ty_api_Range fun b w1 =>
  (kLd w1 ⟨b, 1, none⟩ .i64 fun x =>
  (bsplit (decide (x = (0 : Int)))
    ((kLd w1 ⟨b, 2, none⟩ .i64 fun x1 =>
    (bsplit (decide (x1 = (0 : Int)))
      (R (.int .i64 (2 : Int)) w1)
      (R (.int .i64 (6 : Int)) w1))))
    (R (.int .i64 (6 : Int)) w1))))
theorem F_ref19_size_eq (x_0 : Int) (x_1 : Int) (x_2 : Int) (w : World) (R : Value → World → Prop) : sxFn Try.prog TT h_ref19_size Try.f30 #[(.agg #[.int .i64 x_0, .int .i64 x_1, .int .i64 x_2])] w R = F_ref19_size x_0 x_1 x_2 w R := by kernel_rfl
theorem F_ref19_size_ok {R : Ending → World → Prop} (x_0 : Int) (x_1 : Int) (x_2 : Int) (w : World) (h : F_ref19_size x_0 x_1 x_2 w fun v w' => R (.returned v) w') : Calls Try.prog N_ref19_size #[(.agg #[.int .i64 x_0, .int .i64 x_1, .int .i64 x_2])] w R :=
  calls_of (f := 30) follows_ok Try.func30 (Eq.mpr (F_ref19_size_eq x_0 x_1 x_2 w _) h)

def h_counter_Bits : H := (.seq .reg (.seq .reg .leaf))
def F_counter_Bits (bits : Int) (w : World) (R : Value → World → Prop) : Prop :=
  (bsplit (decide (bits ≥ (5 : Int)))
    ((kLet (decide (bits ≤ (9 : Int))) fun x =>
    R (.bool x) w))
    (R (.bool false) w))
theorem F_counter_Bits_eq (bits : Int) (w : World) (R : Value → World → Prop) : sxFn Try.prog TT h_counter_Bits Try.f31 #[(.int .i64 bits)] w R = F_counter_Bits bits w R := by kernel_rfl
theorem F_counter_Bits_ok {R : Ending → World → Prop} (bits : Int) (w : World) (h : F_counter_Bits bits w fun v w' => R (.returned v) w') : Calls Try.prog N_counter_Bits #[(.int .i64 bits)] w R :=
  calls_of (f := 31) follows_ok Try.func31 (Eq.mpr (F_counter_Bits_eq bits w _) h)

def h_status_reader_take : H := (.seq .reg (.cut [] [7, 8, 9, 10, 11, 12, 13, 14, 15] (.seq .reg (.cond .reg .leaf)) (.seq (.seq .reg (.block (.loop [(4, .p (.int .i64)), (23, .p (.int .i64))] [4, 6, 23, 24, 25, 26, 27, 28, 29, 30, 31, 32] (.seq .reg (.seq (.cond .leaf .leaf) (.seq (.block (.seq .reg .reg)) .reg)))))) (.seq .reg (.seq .reg .leaf)))))
def F_status_reader_take (r_b : Nat) (r_o : Nat) (n : Int) (w : World) (R : Value → World → Prop) (Pn : List PanicEntry → World → Prop) : Prop :=
  (∃ J : World → Prop,
  (∀ (_junk : Env)  (w1 : World), J w1 →
    (kLdS w1 ⟨r_b, r_o, none⟩ fun x_a1 x_l1 x_c1 =>
    ((0 ≤ n ∧ n ≤ ((x_c1 : Nat) : Int)) ∧ (∃ I : Int → Int → Nat × (World → Prop), (I (0 : Int) (0 : Int)).2 w1 ∧
    (∀ (_junk : Env) (x : Int) (x1 : Int) (w2 : World), (I x x1).2 w2 →
      (bsplit (decide (x1 < ((n.toNat - 0) : Int)))
        ((kIx (slAddr x_c1 0 1 x_a1) (n.toNat - 0) x1 fun b =>
        (kLd w2 (b.add (x1.toNat * 1)) .u8 fun x2 =>
        (kW .i64 (x * 2 ^ 8) fun x3 =>
        (kW .i64 (x2) fun x4 =>
        (kLet (bOr .i64 x3 x4) fun x5 =>
        (kW .i64 (x1 + (1 : Int)) fun x6 =>
        ((I x5 x6).2 w2 ∧ (I x5 x6).1 < (I x x1).1))))))))
        ((kLdS w2 ⟨r_b, r_o, none⟩ fun x_a2 x_l2 x_c2 =>
        ((0 ≤ n ∧ n ≤ ((x_l2 : Nat) : Int)) ∧ (kSet w2 ⟨r_b, r_o, none⟩ (.slice (slAddr x_c2 (n.toNat) 1 x_a2) (x_l2 - n.toNat) (x_c2 - n.toNat)) fun w3 =>
        R (.int .i64 x) w3)))))))))) ∧
  (kLdS w ⟨r_b, r_o, none⟩ fun x_a x_l x_c =>
  (bsplit (decide ((x_l : Int) < n))
    (Pn [{ v := (.iface Ty_status_ended (.agg #[])), recovered := false }] w)
    (J w))))
theorem F_status_reader_take_eq (r_b : Nat) (r_o : Nat) (n : Int) (w : World) (R : Value → World → Prop) (Pn : List PanicEntry → World → Prop) : sxFn Try.prog ⟨TTk, some Pn⟩ h_status_reader_take Try.f33 #[(.pointer (some ⟨r_b, r_o, none⟩)), (.int .i64 n)] w R = F_status_reader_take r_b r_o n w R Pn := by kernel_rfl
theorem F_status_reader_take_ok {R : Ending → World → Prop} (r_b : Nat) (r_o : Nat) (n : Int) (w : World) (h : F_status_reader_take r_b r_o n w (fun v w' => R (.returned v) w') fun ch w' => R (.panicked ch) w') : Calls Try.prog N_status_reader_take #[(.pointer (some ⟨r_b, r_o, none⟩)), (.int .i64 n)] w R :=
  calls_ofP (f := 33) follows_ok Try.func33 (Eq.mpr (F_status_reader_take_eq r_b r_o n w _ _) h)

def h_bytes_Equal : H := (.seq .reg (.seq .reg .leaf))
def F_bytes_Equal (a_a : Option Addr) (a_l : Nat) (a_c : Nat) (b_a : Option Addr) (b_l : Nat) (b_c : Nat) (w : World) (R : Value → World → Prop) : Prop :=
  (ConvS Try.prog Ty_S_uint8 Ty_string (.slice a_a a_l a_c) w fun x =>
  (ConvS Try.prog Ty_S_uint8 Ty_string (.slice b_a b_l b_c) w fun x1 =>
  R (.bool (x == x1)) w))
theorem F_bytes_Equal_eq (a_a : Option Addr) (a_l : Nat) (a_c : Nat) (b_a : Option Addr) (b_l : Nat) (b_c : Nat) (w : World) (R : Value → World → Prop) : sxFn Try.prog TT h_bytes_Equal Try.f34 #[(.slice a_a a_l a_c), (.slice b_a b_l b_c)] w R = F_bytes_Equal a_a a_l a_c b_a b_l b_c w R := by kernel_rfl
theorem F_bytes_Equal_ok {R : Ending → World → Prop} (a_a : Option Addr) (a_l : Nat) (a_c : Nat) (b_a : Option Addr) (b_l : Nat) (b_c : Nat) (w : World) (h : F_bytes_Equal a_a a_l a_c b_a b_l b_c w fun v w' => R (.returned v) w') : Calls Try.prog N_bytes_Equal #[(.slice a_a a_l a_c), (.slice b_a b_l b_c)] w R :=
  calls_of (f := 34) follows_ok Try.func34 (Eq.mpr (F_bytes_Equal_eq a_a a_l a_c b_a b_l b_c w _) h)

def h_ref15_Bits : H := (.seq .reg (.seq .reg .leaf))
def F_ref15_Bits (n : Int) (w : World) (R : Value → World → Prop) : Prop :=
  (bsplit (decide (n ≥ (5 : Int)))
    ((kLet (decide (n ≤ (9 : Int))) fun x =>
    R (.bool x) w))
    (R (.bool false) w))
theorem F_ref15_Bits_eq (n : Int) (w : World) (R : Value → World → Prop) : sxFn Try.prog TT h_ref15_Bits Try.f35 #[(.int .i64 n)] w R = F_ref15_Bits n w R := by kernel_rfl
theorem F_ref15_Bits_ok {R : Ending → World → Prop} (n : Int) (w : World) (h : F_ref15_Bits n w fun v w' => R (.returned v) w') : Calls Try.prog N_ref15_Bits #[(.int .i64 n)] w R :=
  calls_of (f := 35) follows_ok Try.func35 (Eq.mpr (F_ref15_Bits_eq n w _) h)

def h_ref01_Get : H := (.seq .reg (.seq .reg (.seq (.seq .reg (.block (.loop [(7, .p (.int .i64)), (8, .p (.int .i64))] [7, 8, 9, 10, 11, 12, 13, 14, 15, 16, 17, 18, 19, 20, 21, 22, 23] (.seq (.seq .reg (.cond .leaf .leaf)) (.seq (.block .reg) .reg))))) (.seq .reg .leaf))))
def F_ref01_Get (b_a : Option Addr) (b_l : Nat) (b_c : Nat) (at1 : Int) (bytes : Int) (w : World) (R : Value → World → Prop) : Prop :=
  (∃ I : Int → Int → Nat × (World → Prop), (I (0 : Int) (0 : Int)).2 w ∧
  (∀ (_junk : Env) (v : Int) (i : Int) (w1 : World), (I v i).2 w1 →
    (bsplit (decide (i < bytes))
      ((kW .i64 ((256 : Int) * v) fun x =>
      (kW .i64 (at1 + i) fun x1 =>
      (kIx b_a b_l x1 fun b =>
      (kLd w1 (b.add (x1.toNat * 1)) .u8 fun x2 =>
      (kW .i64 (x2) fun x3 =>
      (kW .i64 (x + x3) fun x4 =>
      (kW .i64 (i + (1 : Int)) fun x5 =>
      ((I x4 x5).2 w1 ∧ (I x4 x5).1 < (I v i).1)))))))))
      (R (.int .i64 v) w1))))
theorem F_ref01_Get_eq (b_a : Option Addr) (b_l : Nat) (b_c : Nat) (at1 : Int) (bytes : Int) (w : World) (R : Value → World → Prop) : sxFn Try.prog TT h_ref01_Get Try.f36 #[(.slice b_a b_l b_c), (.int .i64 at1), (.int .i64 bytes)] w R = F_ref01_Get b_a b_l b_c at1 bytes w R := by kernel_rfl
theorem F_ref01_Get_ok {R : Ending → World → Prop} (b_a : Option Addr) (b_l : Nat) (b_c : Nat) (at1 : Int) (bytes : Int) (w : World) (h : F_ref01_Get b_a b_l b_c at1 bytes w fun v w' => R (.returned v) w') : Calls Try.prog N_ref01_Get #[(.slice b_a b_l b_c), (.int .i64 at1), (.int .i64 bytes)] w R :=
  calls_of (f := 36) follows_ok Try.func36 (Eq.mpr (F_ref01_Get_eq b_a b_l b_c at1 bytes w _) h)

def h_slices_Clone_Sapi_Range_api_Range : H := (.seq .reg (.seq (.seq .reg (.cond (.seq .reg .leaf) .leaf)) (.seq .reg .leaf)))
def F_slices_Clone_Sapi_Range_api_Range (s_a : Option Addr) (s_l : Nat) (s_c : Nat) (w : World) (R : Value → World → Prop) : Prop :=
  (bsplit s_a.isNone
    (R (.slice none 0 0) w)
    ((kAlloc w #[] Ty_api_Range fun b w1 =>
    (AppP Try.prog #[Ty_S_api_Range, Ty_S_api_Range] Ty_S_api_Range #[(.slice (some ⟨b, 0, none⟩) 0 0), (.slice s_a s_l s_c)] w1 fun x_a x_l x_c w2 =>
    R (.slice x_a x_l x_c) w2))))
theorem F_slices_Clone_Sapi_Range_api_Range_eq (s_a : Option Addr) (s_l : Nat) (s_c : Nat) (w : World) (R : Value → World → Prop) : sxFn Try.prog TT h_slices_Clone_Sapi_Range_api_Range Try.f37 #[(.slice s_a s_l s_c)] w R = F_slices_Clone_Sapi_Range_api_Range s_a s_l s_c w R := by kernel_rfl
theorem F_slices_Clone_Sapi_Range_api_Range_ok {R : Ending → World → Prop} (s_a : Option Addr) (s_l : Nat) (s_c : Nat) (w : World) (h : F_slices_Clone_Sapi_Range_api_Range s_a s_l s_c w fun v w' => R (.returned v) w') : Calls Try.prog N_slices_Clone_Sapi_Range_api_Range #[(.slice s_a s_l s_c)] w R :=
  calls_of (f := 37) follows_ok Try.func37 (Eq.mpr (F_slices_Clone_Sapi_Range_api_Range_eq s_a s_l s_c w _) h)

def h_status_size : H := (.seq .reg (.seq (.seq .reg (.cond (.seq .reg .leaf) .leaf)) (.seq .reg .leaf)))
def F_status_size (r_0 : Int) (r_1 : Int) (r_2 : Int) (w : World) (R : Value → World → Prop) : Prop :=
  (kAlloc w #[(.int .i64 r_0), (.int .i64 r_1), (.int .i64 r_2)] Ty_api_Range fun b w1 =>
  (∃ x_0 : Int, ∃ x_1 : Int, ∃ x_2 : Int, cellsAt w1 ⟨b, 0, none⟩ 0 [(.int .i64 x_0), (.int .i64 x_1), (.int .i64 x_2)] ∧
  (Calls Try.prog N_status_Whole #[(.agg #[.int .i64 x_0, .int .i64 x_1, .int .i64 x_2])] w1 fun e_ w2 =>
  ∃ r : Bool, e_ = .returned (.bool r) ∧
  (bsplit r
    (R (.int .i64 (2 : Int)) w2)
    (R (.int .i64 (6 : Int)) w2)))))
theorem F_status_size_eq (r_0 : Int) (r_1 : Int) (r_2 : Int) (w : World) (R : Value → World → Prop) : sxFn Try.prog TT h_status_size Try.f38 #[(.agg #[.int .i64 r_0, .int .i64 r_1, .int .i64 r_2])] w R = F_status_size r_0 r_1 r_2 w R := by kernel_rfl
theorem F_status_size_ok {R : Ending → World → Prop} (r_0 : Int) (r_1 : Int) (r_2 : Int) (w : World) (h : F_status_size r_0 r_1 r_2 w fun v w' => R (.returned v) w') : Calls Try.prog N_status_size #[(.agg #[.int .i64 r_0, .int .i64 r_1, .int .i64 r_2])] w R :=
  calls_of (f := 38) follows_ok Try.func38 (Eq.mpr (F_status_size_eq r_0 r_1 r_2 w _) h)

def h_serial_Distance : H := (.seq .reg (.seq .reg .leaf))
def F_serial_Distance (n : Int) (a : Int) (b : Int) (w : World) (R : Value → World → Prop) : Prop :=
  (kW .i64 (b - a) fun x =>
  (Calls Try.prog N_serial_Low #[(.int .i64 n), (.int .i64 x)] w fun e_ w1 =>
  ∃ r : Int, e_ = .returned (.int .i64 r) ∧
  R (.int .i64 r) w1))
theorem F_serial_Distance_eq (n : Int) (a : Int) (b : Int) (w : World) (R : Value → World → Prop) : sxFn Try.prog TT h_serial_Distance Try.f39 #[(.int .i64 n), (.int .i64 a), (.int .i64 b)] w R = F_serial_Distance n a b w R := by kernel_rfl
theorem F_serial_Distance_ok {R : Ending → World → Prop} (n : Int) (a : Int) (b : Int) (w : World) (h : F_serial_Distance n a b w fun v w' => R (.returned v) w') : Calls Try.prog N_serial_Distance #[(.int .i64 n), (.int .i64 a), (.int .i64 b)] w R :=
  calls_of (f := 39) follows_ok Try.func39 (Eq.mpr (F_serial_Distance_eq n a b w _) h)

def h_status_part : H := (.seq .reg (.seq .reg .leaf))
def F_status_part (r_0 : Int) (r_1 : Int) (r_2 : Int) (w : World) (R : Value → World → Prop) : Prop :=
  (kAlloc w #[(.int .i64 r_0), (.int .i64 r_1), (.int .i64 r_2)] Ty_api_Range fun b w1 =>
  (kLd w1 ⟨b, 1, none⟩ .i64 fun x =>
  (bsplit (decide (x ≥ (0 : Int)))
    ((kLd w1 ⟨b, 1, none⟩ .i64 fun x1 =>
    (kLd w1 ⟨b, 2, none⟩ .i64 fun x2 =>
    (bsplit (decide (x1 < x2))
      ((kLd w1 ⟨b, 2, none⟩ .i64 fun x3 =>
      (kLet (decide (x3 ≤ (65535 : Int))) fun x4 =>
      R (.bool x4) w1)))
      (R (.bool false) w1)))))
    (R (.bool false) w1))))
theorem F_status_part_eq (r_0 : Int) (r_1 : Int) (r_2 : Int) (w : World) (R : Value → World → Prop) : sxFn Try.prog TT h_status_part Try.f40 #[(.agg #[.int .i64 r_0, .int .i64 r_1, .int .i64 r_2])] w R = F_status_part r_0 r_1 r_2 w R := by kernel_rfl
theorem F_status_part_ok {R : Ending → World → Prop} (r_0 : Int) (r_1 : Int) (r_2 : Int) (w : World) (h : F_status_part r_0 r_1 r_2 w fun v w' => R (.returned v) w') : Calls Try.prog N_status_part #[(.agg #[.int .i64 r_0, .int .i64 r_1, .int .i64 r_2])] w R :=
  calls_of (f := 40) follows_ok Try.func40 (Eq.mpr (F_status_part_eq r_0 r_1 r_2 w _) h)

def h_ref18_SameRanges : H := (.seq .reg (.seq (.seq .reg (.cond (.seq .reg .leaf) .leaf)) (.seq (.seq .reg (.block (.loop [(5, .p (.int .i64))] [4, 5, 11, 12, 13, 14, 15, 16, 17, 18, 19, 20, 21, 22, 23, 24, 25] (.seq (.seq .reg (.cond .leaf .leaf)) (.seq (.block (.seq (.draw .no (.one 0 .stable (.one 1 .stable (.one 2 .stable (.one 3 .stable (.one 4 .stable (.one 5 .stable (.one 6 .stable (.one 7 .stable (.one 8 .stable .nil)))))))))) (.cond (.seq .reg .leaf) .leaf))) .reg))))) (.seq .reg .leaf))))
def F_ref18_SameRanges (a_a : Option Addr) (a_l : Nat) (a_c : Nat) (b_a : Option Addr) (b_l : Nat) (b_c : Nat) (w : World) (R : Value → World → Prop) : Prop :=
  (bsplit (!decide ((a_l : Int) = (b_l : Int)))
    (R (.bool false) w)
    ((∃ I : Int → Nat × (World → Prop), (I (0 : Int)).2 w ∧
    (∀ (_junk : Env) (i : Int) (w1 : World), (I i).2 w1 →
      (bsplit (decide (i < (a_l : Int)))
        ((kDrew w1 fun w2 =>
        (kIx a_a a_l i fun b =>
        (∃ x_0 : Int, ∃ x_1 : Int, ∃ x_2 : Int, cellsAt w2 (b.add (i.toNat * 3)) 0 [(.int .i64 x_0), (.int .i64 x_1), (.int .i64 x_2)] ∧
        (kIx b_a b_l i fun b1 =>
        (∃ x_01 : Int, ∃ x_11 : Int, ∃ x_21 : Int, cellsAt w2 (b1.add (i.toNat * 3)) 0 [(.int .i64 x_01), (.int .i64 x_11), (.int .i64 x_21)] ∧
        (EqP Try.prog .neq Ty_api_Range (.tmp 20) (.tmp 24) (.agg #[.int .i64 x_0, .int .i64 x_1, .int .i64 x_2]) (.agg #[.int .i64 x_01, .int .i64 x_11, .int .i64 x_21]) fun r =>
        (bsplit r
          (R (.bool false) w2)
          ((kW .i64 (i + (1 : Int)) fun x =>
          ((I x).2 w2 ∧ (I x).1 < (I i).1)))))))))))
        (R (.bool true) w1))))))
theorem F_ref18_SameRanges_eq (a_a : Option Addr) (a_l : Nat) (a_c : Nat) (b_a : Option Addr) (b_l : Nat) (b_c : Nat) (w : World) (R : Value → World → Prop) : sxFn Try.prog TT h_ref18_SameRanges Try.f41 #[(.slice a_a a_l a_c), (.slice b_a b_l b_c)] w R = F_ref18_SameRanges a_a a_l a_c b_a b_l b_c w R := by kernel_rfl
theorem F_ref18_SameRanges_ok {R : Ending → World → Prop} (a_a : Option Addr) (a_l : Nat) (a_c : Nat) (b_a : Option Addr) (b_l : Nat) (b_c : Nat) (w : World) (h : F_ref18_SameRanges a_a a_l a_c b_a b_l b_c w fun v w' => R (.returned v) w') : Calls Try.prog N_ref18_SameRanges #[(.slice a_a a_l a_c), (.slice b_a b_l b_c)] w R :=
  calls_of (f := 41) follows_ok Try.func41 (Eq.mpr (F_ref18_SameRanges_eq a_a a_l a_c b_a b_l b_c w _) h)

def h_made_Dice_Ranges : H := (.seq .reg (.seq .reg (.seq .reg (.seq (.seq .reg (.block (.loop [(7, .p .slice), (8, .p (.int .i64)), (9, .p (.int .i64))] [7, 8, 9, 10, 17, 18, 19, 20, 21, 22, 23, 24, 25, 26, 27, 28, 29, 30, 31, 32, 33, 34, 35, 36, 37] (.seq (.seq .reg (.cond .leaf .leaf)) (.seq (.block (.seq .reg (.seq .reg .reg))) .reg))))) (.seq .reg .leaf)))))
def F_made_Dice_Ranges (d_b : Nat) (d_o : Nat) (sn : Int) (most : Int) (w : World) (R : Value → World → Prop) : Prop :=
  (Calls Try.prog N_made_Dice_Next #[(.pointer (some ⟨d_b, d_o, none⟩)), (.int .i64 (3 : Int))] w fun e_ w1 =>
  ∃ r : Int, e_ = .returned (.int .i64 r) ∧
  (kW .i64 (most + (1 : Int)) fun x =>
  (Calls Try.prog N_made_Dice_Next #[(.pointer (some ⟨d_b, d_o, none⟩)), (.int .i64 x)] w1 fun e_1 w2 =>
  ∃ r1 : Int, e_1 = .returned (.int .i64 r1) ∧
  (∃ I : Option Addr → Nat → Nat → Int → Int → Nat × (World → Prop), (I none 0 0 r r1).2 w2 ∧
  (∀ (_junk : Env) (l_a : Option Addr) (l_l : Nat) (l_c : Nat) (at1 : Int) (n : Int) (w3 : World), (I l_a l_l l_c at1 n).2 w3 →
    (bsplit (decide (n > (0 : Int)))
      ((kW .i64 (at1 + (1 : Int)) fun x1 =>
      (Calls Try.prog N_made_Dice_Next #[(.pointer (some ⟨d_b, d_o, none⟩)), (.int .i64 (6 : Int))] w3 fun e_2 w4 =>
      ∃ r2 : Int, e_2 = .returned (.int .i64 r2) ∧
      (kW .i64 (x1 + r2) fun x2 =>
      (kAlloc w4 #[(.int .i64 sn), (.int .i64 at1), (.int .i64 x2)] Ty_api_Range fun b w5 =>
      (AppP Try.prog #[Ty_S_api_Range, Ty_S_api_Range] Ty_S_api_Range #[(.slice l_a l_l l_c), (.slice (some ⟨b, 0, none⟩) 1 1)] w5 fun x_a x_l x_c w6 =>
      (kW .i64 (x2 + (1 : Int)) fun x3 =>
      (Calls Try.prog N_made_Dice_Next #[(.pointer (some ⟨d_b, d_o, none⟩)), (.int .i64 (4 : Int))] w6 fun e_3 w7 =>
      ∃ r3 : Int, e_3 = .returned (.int .i64 r3) ∧
      (kW .i64 (x3 + r3) fun x4 =>
      (kW .i64 (n - (1 : Int)) fun x5 =>
      ((I x_a x_l x_c x4 x5).2 w7 ∧ (I x_a x_l x_c x4 x5).1 < (I l_a l_l l_c at1 n).1)))))))))))
      (R (.slice l_a l_l l_c) w3)))))))
theorem F_made_Dice_Ranges_eq (d_b : Nat) (d_o : Nat) (sn : Int) (most : Int) (w : World) (R : Value → World → Prop) : sxFn Try.prog TT h_made_Dice_Ranges Try.f42 #[(.pointer (some ⟨d_b, d_o, none⟩)), (.int .i64 sn), (.int .i64 most)] w R = F_made_Dice_Ranges d_b d_o sn most w R := by kernel_rfl
theorem F_made_Dice_Ranges_ok {R : Ending → World → Prop} (d_b : Nat) (d_o : Nat) (sn : Int) (most : Int) (w : World) (h : F_made_Dice_Ranges d_b d_o sn most w fun v w' => R (.returned v) w') : Calls Try.prog N_made_Dice_Ranges #[(.pointer (some ⟨d_b, d_o, none⟩)), (.int .i64 sn), (.int .i64 most)] w R :=
  calls_of (f := 42) follows_ok Try.func42 (Eq.mpr (F_made_Dice_Ranges_eq d_b d_o sn most w _) h)

def h_ref02_valid : H := (.seq .reg (.seq .reg .leaf))
def F_ref02_valid (n : Int) (w : World) (R : Value → World → Prop) : Prop :=
  (bsplit (decide (n ≥ (1 : Int)))
    ((kLet (decide (n ≤ (32 : Int))) fun x =>
    R (.bool x) w))
    (R (.bool false) w))
theorem F_ref02_valid_eq (n : Int) (w : World) (R : Value → World → Prop) : sxFn Try.prog TT h_ref02_valid Try.f43 #[(.int .i64 n)] w R = F_ref02_valid n w R := by kernel_rfl
theorem F_ref02_valid_ok {R : Ending → World → Prop} (n : Int) (w : World) (h : F_ref02_valid n w fun v w' => R (.returned v) w') : Calls Try.prog N_ref02_valid #[(.int .i64 n)] w R :=
  calls_of (f := 43) follows_ok Try.func43 (Eq.mpr (F_ref02_valid_eq n w _) h)

def h_ref02_Low : H := (.seq .reg (.seq (.seq .reg (.cond (.seq .reg .leaf) .leaf)) (.seq .reg .leaf)))
def F_ref02_Low (n : Int) (x : Int) (w : World) (R : Value → World → Prop) : Prop :=
  (Calls Try.prog N_ref02_valid #[(.int .i64 n)] w fun e_ w1 =>
  ∃ r : Bool, e_ = .returned (.bool r) ∧
  (bsplit (!r)
    (R (.int .i64 (-1 : Int)) w1)
    ((kW .u64 (n) fun x1 =>
    (0 ≤ x1 ∧ (kW .i64 ((1 : Int) * 2 ^ (min x1.toNat (IntKind.bits .i64))) fun x2 =>
    (kW .i64 (x2 - (1 : Int)) fun x3 =>
    (kLet (bAnd .i64 x x3) fun x4 =>
    R (.int .i64 x4) w1))))))))
theorem F_ref02_Low_eq (n : Int) (x : Int) (w : World) (R : Value → World → Prop) : sxFn Try.prog TT h_ref02_Low Try.f44 #[(.int .i64 n), (.int .i64 x)] w R = F_ref02_Low n x w R := by kernel_rfl
theorem F_ref02_Low_ok {R : Ending → World → Prop} (n : Int) (x : Int) (w : World) (h : F_ref02_Low n x w fun v w' => R (.returned v) w') : Calls Try.prog N_ref02_Low #[(.int .i64 n), (.int .i64 x)] w R :=
  calls_of (f := 44) follows_ok Try.func44 (Eq.mpr (F_ref02_Low_eq n x w _) h)

def h_serial_Low : H := (.seq .reg (.seq (.seq .reg (.cond (.seq .reg .leaf) .leaf)) (.seq .reg .leaf)))
def F_serial_Low (n : Int) (x : Int) (w : World) (R : Value → World → Prop) : Prop :=
  (Calls Try.prog N_serial_valid #[(.int .i64 n)] w fun e_ w1 =>
  ∃ r : Bool, e_ = .returned (.bool r) ∧
  (bsplit (!r)
    (R (.int .i64 (-1 : Int)) w1)
    ((0 ≤ n ∧ (kW .i64 ((1 : Int) * 2 ^ (min n.toNat (IntKind.bits .i64))) fun x1 =>
    (kW .i64 (x1 - (1 : Int)) fun x2 =>
    (kLet (bAnd .i64 x x2) fun x3 =>
    R (.int .i64 x3) w1)))))))
theorem F_serial_Low_eq (n : Int) (x : Int) (w : World) (R : Value → World → Prop) : sxFn Try.prog TT h_serial_Low Try.f45 #[(.int .i64 n), (.int .i64 x)] w R = F_serial_Low n x w R := by kernel_rfl
theorem F_serial_Low_ok {R : Ending → World → Prop} (n : Int) (x : Int) (w : World) (h : F_serial_Low n x w fun v w' => R (.returned v) w') : Calls Try.prog N_serial_Low #[(.int .i64 n), (.int .i64 x)] w R :=
  calls_of (f := 45) follows_ok Try.func45 (Eq.mpr (F_serial_Low_eq n x w _) h)

def h_serial_valid : H := (.seq .reg (.seq .reg .leaf))
def F_serial_valid (n : Int) (w : World) (R : Value → World → Prop) : Prop :=
  (bsplit (decide (n ≥ (1 : Int)))
    ((kLet (decide (n ≤ (32 : Int))) fun x =>
    R (.bool x) w))
    (R (.bool false) w))
theorem F_serial_valid_eq (n : Int) (w : World) (R : Value → World → Prop) : sxFn Try.prog TT h_serial_valid Try.f46 #[(.int .i64 n)] w R = F_serial_valid n w R := by kernel_rfl
theorem F_serial_valid_ok {R : Ending → World → Prop} (n : Int) (w : World) (h : F_serial_valid n w fun v w' => R (.returned v) w') : Calls Try.prog N_serial_valid #[(.int .i64 n)] w R :=
  calls_of (f := 46) follows_ok Try.func46 (Eq.mpr (F_serial_valid_eq n w _) h)

end Go.Proofs.Ytdafapcckimefaa
