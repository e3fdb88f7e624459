import Derived.Test.YtelkdacpehdllaaBase
import Derived.KernelRfl
namespace Go.Proofs.Ytelkdacpehdllaa
open Go.Sx Go.RowKit
set_option maxRecDepth 100000

def h_law18_SegmentCuts : H := (.seq .reg (.seq (.seq .reg (.cond (.seq .reg .leaf) .leaf)) (.seq .reg (.seq .reg (.seq .reg (.seq .reg (.seq (.draw .blk (.one 0 .stable (.one 1 .stable (.one 2 .stable (.one 3 .keep (.one 4 .stable (.one 5 .last .nil))))))) (.seq (.seq .reg (.block (.loop [(6, .p .slice), (7, .p (.int .i64)), (9, .p (.int .i64))] [2, 6, 7, 9, 10, 11, 12, 13, 14, 15, 16, 17, 32, 33, 34, 35, 36, 37, 38, 39, 40, 41, 42, 43, 44, 45, 46, 47, 48, 49, 50, 51, 52, 53, 54, 55, 56, 57, 58, 59, 60, 61, 62, 63, 64, 65, 66, 67, 68, 69, 70, 71, 72, 73, 74, 75, 76, 77, 78, 79, 80, 81, 82, 83, 84, 85, 86, 87, 88, 89, 90, 91, 92, 93, 94, 95, 96, 97, 98, 99, 100, 101, 102, 103, 104, 105, 106, 107, 108, 109, 110, 111, 112, 113, 114, 115, 116, 117, 118, 119, 120, 121, 122, 123, 124, 125, 126, 127, 128, 129, 130, 131, 132, 133, 134, 135, 136, 137, 138, 139, 140, 141, 142, 143, 144, 145, 146, 147, 148, 149, 150, 151, 152, 153, 154, 155] (.seq (.seq .reg (.cond .leaf .leaf)) (.seq (.block (.seq .reg (.seq .reg (.seq .reg (.seq (.cut [(84, .p .bool)] [53, 54, 55, 56, 57, 58, 59, 60, 61, 62, 63, 64, 65, 66, 67, 68, 69, 70, 71, 72, 73, 74, 75, 76, 77, 78, 79, 80, 81, 82, 83, 84] .reg (.cond (.seq .reg .leaf) .leaf)) (.cut [(16, .p .bool)] [16, 85, 86, 87, 88, 89, 90, 91, 92] .reg (.cut [] [2, 93, 94, 95, 96, 97, 98, 99, 100, 101, 102, 103, 104, 105, 106] (.seq .reg (.cond (.seq .reg .leaf) .leaf)) (.seq .reg (.seq .reg (.seq (.seq .reg (.cond (.cut [(17, .p .bool)] [17, 120, 121, 122, 123, 124, 125, 126, 127] .reg (.seq .reg .leaf)) .leaf)) (.seq (.seq .reg (.cond (.seq .reg .leaf) .leaf)) .reg))))))))))) .reg))))) (.seq .reg .leaf)))))))))
def F_law18_SegmentCuts (t_a : Option Addr) (t_l : Nat) (t_c : Nat) (w : World) (R : Value → World → Prop) : Prop :=
  (Calls Try.prog N_made_Light #[(.slice t_a t_l t_c)] w fun e_ w1 =>
  ∃ r : Bool, e_ = .returned (.bool r) ∧
  (bsplit (!r)
    ((Calls Try.prog N_law18_awake #[] w1 fun e_1 w2 =>
    ∃ r1 : Bool, e_1 = .returned (.bool r1) ∧
    R (.bool r1) w2))
    ((Calls Try.prog N_made_Roll #[(.slice t_a t_l t_c)] w1 fun e_2 w3 =>
    ∃ r2 : Option Addr, e_2 = .returned (.pointer r2) ∧
    (Calls Try.prog N_made_Dice_Bits #[(.pointer r2)] w3 fun e_3 w4 =>
    ∃ r3 : Int, e_3 = .returned (.int .i64 r3) ∧
    (Calls Try.prog N_made_Dice_Piece #[(.pointer r2), (.int .i64 r3)] w4 fun e_4 w5 =>
    ∃ r_0 : Int, ∃ r_1 : Int, ∃ r_2 : Int, ∃ r_3 : Int, ∃ r_4_a : Option Addr, ∃ r_4_l : Nat, ∃ r_4_c : Nat, e_4 = .returned (.agg #[.int .i64 r_0, .int .i64 r_1, .int .i64 r_2, .int .i64 r_3, .slice r_4_a r_4_l r_4_c]) ∧
    (kAlloc w5 #[.int .i64 (0 : Int), .int .i64 (0 : Int), .int .i64 (0 : Int), .int .i64 (0 : Int), .slice none 0 0] Ty_api_Piece fun b w6 =>
    (sxStore w6 ⟨b, 0, none⟩ 0 [(.int .i64 r_0), (.int .i64 r_1), (.int .i64 r_2), (.int .i64 r_3), (.slice r_4_a r_4_l r_4_c)] fun w7 =>
    (kDrew w7 fun w8 =>
    (∃ S : Nat → Prop,
    (S b ∧
    (kLd w8 ⟨b, 3, none⟩ .i64 fun x =>
    (S b ∧
    (∃ x_0 : Int, ∃ x_1 : Int, ∃ x_2 : Int, ∃ x_3 : Int, ∃ x_4_a : Option Addr, ∃ x_4_l : Nat, ∃ x_4_c : Nat, cellsAt w8 ⟨b, 0, none⟩ 0 [(.int .i64 x_0), (.int .i64 x_1), (.int .i64 x_2), (.int .i64 x_3), (.slice x_4_a x_4_l x_4_c)] ∧
    (kAlloc w8 #[.int .i64 (0 : Int), .int .i64 (0 : Int), .int .i64 (0 : Int), .int .i64 (0 : Int), .slice none 0 0] Ty_api_Piece fun b1 w9 =>
    (KeepsB S w8 w9 ∧ (sxStore w9 ⟨b1, 0, none⟩ 0 [(.int .i64 x_0), (.int .i64 x_1), (.int .i64 x_2), (.int .i64 x_3), (.slice x_4_a x_4_l x_4_c)] fun w10 =>
    (∃ I : Option Addr → Nat → Nat → Int → Int → Nat × (World → Prop), (I none 0 0 x (0 : Int)).2 w10 ∧
    (∀ (_junk : Env) (all_a : Option Addr) (all_l : Nat) (all_c : Nat) (at1 : Int) (n : Int) (w11 : World), (I all_a all_l all_c at1 n).2 w11 →
      (bsplit (decide (n < (60 : Int)))
        ((Calls Try.prog N_made_Dice_Next #[(.pointer r2), (.int .i64 (8 : Int))] w11 fun e_5 w12 =>
        ∃ r4 : Int, e_5 = .returned (.int .i64 r4) ∧
        (kW .i64 ((5 : Int) + r4) fun x1 =>
        (∃ x_01 : Int, ∃ x_11 : Int, ∃ x_21 : Int, ∃ x_31 : Int, ∃ x_4_a1 : Option Addr, ∃ x_4_l1 : Nat, ∃ x_4_c1 : Nat, cellsAt w12 ⟨b1, 0, none⟩ 0 [(.int .i64 x_01), (.int .i64 x_11), (.int .i64 x_21), (.int .i64 x_31), (.slice x_4_a1 x_4_l1 x_4_c1)] ∧
        (Calls Try.prog N_segment_Cut #[(.int .i64 r3), (.agg #[.int .i64 x_01, .int .i64 x_11, .int .i64 x_21, .int .i64 x_31, .slice x_4_a1 x_4_l1 x_4_c1]), (.int .i64 x1)] w12 fun e_6 w13 =>
        ∃ r_01 : Int, ∃ r_11 : Int, ∃ r_21 : Int, ∃ r_31 : Int, ∃ r_4_a1 : Option Addr, ∃ r_4_l1 : Nat, ∃ r_4_c1 : Nat, ∃ r_02 : Int, ∃ r_12 : Int, ∃ r_22 : Int, ∃ r_32 : Int, ∃ r_4_a2 : Option Addr, ∃ r_4_l2 : Nat, ∃ r_4_c2 : Nat, ∃ r5 : Int, e_6 = .returned (.tuple #[(.agg #[.int .i64 r_01, .int .i64 r_11, .int .i64 r_21, .int .i64 r_31, .slice r_4_a1 r_4_l1 r_4_c1]), (.agg #[.int .i64 r_02, .int .i64 r_12, .int .i64 r_22, .int .i64 r_32, .slice r_4_a2 r_4_l2 r_4_c2]), (.int .i64 r5)]) ∧
        (kAlloc w13 #[.int .i64 (0 : Int), .int .i64 (0 : Int), .int .i64 (0 : Int), .int .i64 (0 : Int), .slice none 0 0] Ty_api_Piece fun b2 w14 =>
        (kAlloc w14 #[.int .i64 (0 : Int), .int .i64 (0 : Int), .int .i64 (0 : Int), .int .i64 (0 : Int), .slice none 0 0] Ty_api_Piece fun b3 w15 =>
        (sxStore w15 ⟨b2, 0, none⟩ 0 [(.int .i64 r_01), (.int .i64 r_11), (.int .i64 r_21), (.int .i64 r_31), (.slice r_4_a1 r_4_l1 r_4_c1)] fun w16 =>
        (sxStore w16 ⟨b3, 0, none⟩ 0 [(.int .i64 r_02), (.int .i64 r_12), (.int .i64 r_22), (.int .i64 r_32), (.slice r_4_a2 r_4_l2 r_4_c2)] fun w17 =>
        (∃ x_02 : Int, ∃ x_12 : Int, ∃ x_22 : Int, ∃ x_32 : Int, ∃ x_4_a2 : Option Addr, ∃ x_4_l2 : Nat, ∃ x_4_c2 : Nat, cellsAt w17 ⟨b2, 0, none⟩ 0 [(.int .i64 x_02), (.int .i64 x_12), (.int .i64 x_22), (.int .i64 x_32), (.slice x_4_a2 x_4_l2 x_4_c2)] ∧
        (Calls Try.prog N_segment_Encode #[(.int .i64 r3), (.agg #[.int .i64 x_02, .int .i64 x_12, .int .i64 x_22, .int .i64 x_32, .slice x_4_a2 x_4_l2 x_4_c2])] w17 fun e_7 w18 =>
        ∃ r_a : Option Addr, ∃ r_l : Nat, ∃ r_c : Nat, ∃ r6 : Int, e_7 = .returned (.tuple #[(.slice r_a r_l r_c), (.int .i64 r6)]) ∧
        (∃ J : Bool → World → Prop,
        (∀ (_junk : Env) (x7 : Bool) (w19 : World), J x7 w19 →
          (bsplit x7
            (R (.bool false) w19)
            ((∃ J1 : Bool → World → Prop,
            (∀ (_junk : Env) (begin1 : Bool) (w20 : World), J1 begin1 w20 →
              (∃ J2 : World → Prop,
              (∀ (_junk : Env)  (w21 : World), J2 w21 →
                (kLdS w21 ⟨b2, 4, none⟩ fun x_a x_l x_c =>
                (AppP Try.prog #[Ty_S_uint8, Ty_S_uint8] Ty_S_uint8 #[(.slice all_a all_l all_c), (.slice x_a x_l x_c)] w21 fun x_a1 x_l1 x_c1 w22 =>
                (kLdS w22 ⟨b2, 4, none⟩ fun x_a2 x_l2 x_c2 =>
                (kW .i64 (at1 + (x_l2 : Int)) fun x12 =>
                (kLdS w22 ⟨b3, 4, none⟩ fun x_a3 x_l3 x_c3 =>
                (bsplit (decide ((x_l3 : Int) = (0 : Int)))
                  ((∃ J3 : Bool → World → Prop,
                  (∀ (_junk : Env) (end2 : Bool) (w23 : World), J3 end2 w23 →
                    (Calls Try.prog N_law18_awake #[] w23 fun e_8 w24 =>
                    ∃ r7 : Bool, e_8 = .returned (.bool r7) ∧
                    (bsplit r7
                      ((kLdS w24 ⟨b, 4, none⟩ fun x_a4 x_l4 x_c4 =>
                      (Calls Try.prog N_ref01_Same #[(.slice x_a1 x_l1 x_c1), (.slice x_a4 x_l4 x_c4)] w24 fun e_9 w25 =>
                      ∃ r8 : Bool, e_9 = .returned (.bool r8) ∧
                      (bsplit r8
                        ((kLd w25 ⟨b, 1, none⟩ .i64 fun x15 =>
                        (bsplit (decide (x15 = (0 : Int)))
                          (R (.bool (end2 == true)) w25)
                          ((kLd w25 ⟨b, 1, none⟩ .i64 fun x16 =>
                          (kLet (end2 == (decide (x16 = (2 : Int)))) fun x17 =>
                          R (.bool x17) w25))))))
                        (R (.bool false) w25)))))
                      (R (.bool false) w24)))) ∧
                  (kLd w22 ⟨b2, 1, none⟩ .i64 fun x13 =>
                  (bsplit (decide (x13 = (0 : Int)))
                    (J3 true w22)
                    ((kLd w22 ⟨b2, 1, none⟩ .i64 fun x14 =>
                    (kLet (decide (x14 = (2 : Int))) fun end1 =>
                    J3 end1 w22)))))))
                  ((kLd w22 ⟨b2, 1, none⟩ .i64 fun x18 =>
                  (bsplit (decide (x18 = (0 : Int)))
                    (R (.bool false) w22)
                    ((kLd w22 ⟨b2, 1, none⟩ .i64 fun x20 =>
                    (bsplit (decide (x20 = (2 : Int)))
                      (R (.bool false) w22)
                      ((∃ x_04 : Int, ∃ x_14 : Int, ∃ x_24 : Int, ∃ x_34 : Int, ∃ x_4_a4 : Option Addr, ∃ x_4_l4 : Nat, ∃ x_4_c4 : Nat, cellsAt w22 ⟨b3, 0, none⟩ 0 [(.int .i64 x_04), (.int .i64 x_14), (.int .i64 x_24), (.int .i64 x_34), (.slice x_4_a4 x_4_l4 x_4_c4)] ∧
                      (sxStore w22 ⟨b1, 0, none⟩ 0 [(.int .i64 x_04), (.int .i64 x_14), (.int .i64 x_24), (.int .i64 x_34), (.slice x_4_a4 x_4_l4 x_4_c4)] fun w27 =>
                      (kW .i64 (n + (1 : Int)) fun x21 =>
                      ((I x_a1 x_l1 x_c1 x12 x21).2 w27 ∧ (I x_a1 x_l1 x_c1 x12 x21).1 < (I all_a all_l all_c at1 n).1)))))))))))))))))) ∧
              (bsplit (decide (n = (0 : Int)))
                ((kLd w20 ⟨b, 1, none⟩ .i64 fun x10 =>
                (bsplit (decide (x10 = (0 : Int)))
                  ((bsplit (!(begin1 == true))
                    (R (.bool false) w20)
                    (J2 w20)))
                  ((kLd w20 ⟨b, 1, none⟩ .i64 fun x11 =>
                  (bsplit (!(begin1 == (decide (x11 = (1 : Int)))))
                    (R (.bool false) w20)
                    (J2 w20)))))))
                ((bsplit (!(begin1 == false))
                  (R (.bool false) w20)
                  (J2 w20)))))) ∧
            (kLd w19 ⟨b2, 1, none⟩ .i64 fun x8 =>
            (bsplit (decide (x8 = (0 : Int)))
              (J1 true w19)
              ((kLd w19 ⟨b2, 1, none⟩ .i64 fun x9 =>
              (kLet (decide (x9 = (1 : Int))) fun begin =>
              J1 begin w19))))))))) ∧
        (bsplit (!decide (r5 = (0 : Int)))
          (J true w18)
          ((bsplit (!decide (r6 = (0 : Int)))
            (J true w18)
            ((bsplit (decide ((r_l : Int) > x1))
              (J true w18)
              ((kLd w18 ⟨b2, 3, none⟩ .i64 fun x2 =>
              (bsplit (!decide (x2 = at1))
                (J true w18)
                ((kLd w18 ⟨b2, 0, none⟩ .i64 fun x3 =>
                (kLd w18 ⟨b, 0, none⟩ .i64 fun x4 =>
                (bsplit (!decide (x3 = x4))
                  (J true w18)
                  ((kLd w18 ⟨b2, 2, none⟩ .i64 fun x5 =>
                  (kLd w18 ⟨b, 2, none⟩ .i64 fun x6 =>
                  J (!decide (x5 = x6)) w18)))))))))))))))))))))))))))
        (R (.bool false) w11)))))))))))))))))))))
theorem F_law18_SegmentCuts_eq (t_a : Option Addr) (t_l : Nat) (t_c : Nat) (w : World) (R : Value → World → Prop) : sxFn Try.prog TT h_law18_SegmentCuts Try.f3 #[(.slice t_a t_l t_c)] w R = F_law18_SegmentCuts t_a t_l t_c w R := by kernel_rfl
theorem F_law18_SegmentCuts_ok {R : Ending → World → Prop} (t_a : Option Addr) (t_l : Nat) (t_c : Nat) (w : World) (h : F_law18_SegmentCuts t_a t_l t_c w fun v w' => R (.returned v) w') : Calls Try.prog N_law18_SegmentCuts #[(.slice t_a t_l t_c)] w R :=
  calls_of (f := 3) follows_ok Try.func3 (Eq.mpr (F_law18_SegmentCuts_eq t_a t_l t_c w _) h)

def h_law18_SegmentPieces : H := (.seq .reg (.cut [] [6, 21, 22, 23, 24, 25, 26, 27, 28, 29, 30] (.seq .reg (.cond (.seq .reg .leaf) .leaf)) (.seq .reg (.seq .reg (.seq .reg (.seq .reg (.seq .reg (.seq .reg (.seq (.draw .blk (.one 0 .keep (.one 1 .stable (.one 2 .stable (.one 3 .stable (.one 4 .stable (.one 6 .stable (.one 7 .stable (.one 8 .stable (.one 5 .keep (.one 9 .keep (.one 10 .stable (.one 11 .stable (.one 12 .stable (.one 13 .stable (.one 14 .stable (.one 15 .stable (.one 16 .stable (.one 17 .stable (.one 18 .stable (.one 19 .stable (.one 20 .keep (.one 21 .stable (.one 22 .stable (.one 23 .stable (.one 24 .stable (.one 25 .stable (.one 26 .stable (.one 27 .stable (.one 28 .stable (.one 29 .stable (.one 30 .keep (.one 31 .stable (.one 32 .stable (.one 33 .stable (.one 34 .stable (.one 35 .stable (.one 36 .stable (.one 37 .stable (.one 38 .stable (.one 39 .stable (.one 40 .keep (.one 41 .stable (.one 42 .stable (.one 43 .stable (.one 44 .stable (.one 45 .keep (.one 46 .stable (.one 47 .stable .nil))))))))))))))))))))))))))))))))))))))))))))))))) .leaf)))))))))
def F_law18_SegmentPieces (p_0 : Int) (p_1 : Int) (p_2 : Int) (p_3 : Int) (p_4_a : Option Addr) (p_4_l : Nat) (p_4_c : Nat) (b_a : Option Addr) (b_l : Nat) (b_c : Nat) (n_0 : Int) (n_1 : Int) (w : World) (R : Value → World → Prop) : Prop :=
  (kAlloc w #[(.int .i64 p_0), (.int .i64 p_1), (.int .i64 p_2), (.int .i64 p_3), (.slice p_4_a p_4_l p_4_c)] Ty_api_Piece fun b w1 =>
  (kAlloc w1 #[(.int .i64 n_0), (.int .i64 n_1)] Ty_2_int fun b1 w2 =>
  (∃ J : World → Prop,
  (∀ (_junk : Env)  (w5 : World), J w5 →
    (kLd w5 ⟨b1, 0, none⟩ .i64 fun x =>
    (∃ x_0 : Int, ∃ x_1 : Int, ∃ x_2 : Int, ∃ x_3 : Int, ∃ x_4_a : Option Addr, ∃ x_4_l : Nat, ∃ x_4_c : Nat, cellsAt w5 ⟨b, 0, none⟩ 0 [(.int .i64 x_0), (.int .i64 x_1), (.int .i64 x_2), (.int .i64 x_3), (.slice x_4_a x_4_l x_4_c)] ∧
    (Calls Try.prog N_segment_Encode #[(.int .i64 x), (.agg #[.int .i64 x_0, .int .i64 x_1, .int .i64 x_2, .int .i64 x_3, .slice x_4_a x_4_l x_4_c])] w5 fun e_2 w6 =>
    ∃ r_a : Option Addr, ∃ r_l : Nat, ∃ r_c : Nat, ∃ r2 : Int, e_2 = .returned (.tuple #[(.slice r_a r_l r_c), (.int .i64 r2)]) ∧
    (kLd w6 ⟨b1, 0, none⟩ .i64 fun x1 =>
    (∃ x_01 : Int, ∃ x_11 : Int, ∃ x_21 : Int, ∃ x_31 : Int, ∃ x_4_a1 : Option Addr, ∃ x_4_l1 : Nat, ∃ x_4_c1 : Nat, cellsAt w6 ⟨b, 0, none⟩ 0 [(.int .i64 x_01), (.int .i64 x_11), (.int .i64 x_21), (.int .i64 x_31), (.slice x_4_a1 x_4_l1 x_4_c1)] ∧
    (Calls Try.prog N_ref18_Encode #[(.int .i64 x1), (.agg #[.int .i64 x_01, .int .i64 x_11, .int .i64 x_21, .int .i64 x_31, .slice x_4_a1 x_4_l1 x_4_c1])] w6 fun e_3 w7 =>
    ∃ r_a1 : Option Addr, ∃ r_l1 : Nat, ∃ r_c1 : Nat, ∃ r3 : Int, e_3 = .returned (.tuple #[(.slice r_a1 r_l1 r_c1), (.int .i64 r3)]) ∧
    (kLd w7 ⟨b1, 0, none⟩ .i64 fun x2 =>
    (Calls Try.prog N_segment_Decode #[(.int .i64 x2), (.slice b_a b_l b_c)] w7 fun e_4 w8 =>
    ∃ r_0 : Int, ∃ r_1 : Int, ∃ r_2 : Int, ∃ r_3 : Int, ∃ r_4_a : Option Addr, ∃ r_4_l : Nat, ∃ r_4_c : Nat, ∃ r4 : Int, e_4 = .returned (.tuple #[(.agg #[.int .i64 r_0, .int .i64 r_1, .int .i64 r_2, .int .i64 r_3, .slice r_4_a r_4_l r_4_c]), (.int .i64 r4)]) ∧
    (kAlloc w8 #[.int .i64 (0 : Int), .int .i64 (0 : Int), .int .i64 (0 : Int), .int .i64 (0 : Int), .slice none 0 0] Ty_api_Piece fun b2 w9 =>
    (sxStore w9 ⟨b2, 0, none⟩ 0 [(.int .i64 r_0), (.int .i64 r_1), (.int .i64 r_2), (.int .i64 r_3), (.slice r_4_a r_4_l r_4_c)] fun w10 =>
    (kLd w10 ⟨b1, 0, none⟩ .i64 fun x3 =>
    (Calls Try.prog N_ref18_Decode #[(.int .i64 x3), (.slice b_a b_l b_c)] w10 fun e_5 w11 =>
    ∃ r_01 : Int, ∃ r_11 : Int, ∃ r_21 : Int, ∃ r_31 : Int, ∃ r_4_a1 : Option Addr, ∃ r_4_l1 : Nat, ∃ r_4_c1 : Nat, ∃ r5 : Int, e_5 = .returned (.tuple #[(.agg #[.int .i64 r_01, .int .i64 r_11, .int .i64 r_21, .int .i64 r_31, .slice r_4_a1 r_4_l1 r_4_c1]), (.int .i64 r5)]) ∧
    (kAlloc w11 #[.int .i64 (0 : Int), .int .i64 (0 : Int), .int .i64 (0 : Int), .int .i64 (0 : Int), .slice none 0 0] Ty_api_Piece fun b3 w12 =>
    (sxStore w12 ⟨b3, 0, none⟩ 0 [(.int .i64 r_01), (.int .i64 r_11), (.int .i64 r_21), (.int .i64 r_31), (.slice r_4_a1 r_4_l1 r_4_c1)] fun w13 =>
    (kLd w13 ⟨b1, 0, none⟩ .i64 fun x4 =>
    (∃ x_02 : Int, ∃ x_12 : Int, ∃ x_22 : Int, ∃ x_32 : Int, ∃ x_4_a2 : Option Addr, ∃ x_4_l2 : Nat, ∃ x_4_c2 : Nat, cellsAt w13 ⟨b, 0, none⟩ 0 [(.int .i64 x_02), (.int .i64 x_12), (.int .i64 x_22), (.int .i64 x_32), (.slice x_4_a2 x_4_l2 x_4_c2)] ∧
    (kLd w13 ⟨b1, 1, none⟩ .i64 fun x5 =>
    (Calls Try.prog N_segment_Cut #[(.int .i64 x4), (.agg #[.int .i64 x_02, .int .i64 x_12, .int .i64 x_22, .int .i64 x_32, .slice x_4_a2 x_4_l2 x_4_c2]), (.int .i64 x5)] w13 fun e_6 w14 =>
    ∃ r_02 : Int, ∃ r_12 : Int, ∃ r_22 : Int, ∃ r_32 : Int, ∃ r_4_a2 : Option Addr, ∃ r_4_l2 : Nat, ∃ r_4_c2 : Nat, ∃ r_03 : Int, ∃ r_13 : Int, ∃ r_23 : Int, ∃ r_33 : Int, ∃ r_4_a3 : Option Addr, ∃ r_4_l3 : Nat, ∃ r_4_c3 : Nat, ∃ r6 : Int, e_6 = .returned (.tuple #[(.agg #[.int .i64 r_02, .int .i64 r_12, .int .i64 r_22, .int .i64 r_32, .slice r_4_a2 r_4_l2 r_4_c2]), (.agg #[.int .i64 r_03, .int .i64 r_13, .int .i64 r_23, .int .i64 r_33, .slice r_4_a3 r_4_l3 r_4_c3]), (.int .i64 r6)]) ∧
    (kAlloc w14 #[.int .i64 (0 : Int), .int .i64 (0 : Int), .int .i64 (0 : Int), .int .i64 (0 : Int), .slice none 0 0] Ty_api_Piece fun b4 w15 =>
    (kAlloc w15 #[.int .i64 (0 : Int), .int .i64 (0 : Int), .int .i64 (0 : Int), .int .i64 (0 : Int), .slice none 0 0] Ty_api_Piece fun b5 w16 =>
    (sxStore w16 ⟨b4, 0, none⟩ 0 [(.int .i64 r_02), (.int .i64 r_12), (.int .i64 r_22), (.int .i64 r_32), (.slice r_4_a2 r_4_l2 r_4_c2)] fun w17 =>
    (sxStore w17 ⟨b5, 0, none⟩ 0 [(.int .i64 r_03), (.int .i64 r_13), (.int .i64 r_23), (.int .i64 r_33), (.slice r_4_a3 r_4_l3 r_4_c3)] fun w18 =>
    (kLd w18 ⟨b1, 0, none⟩ .i64 fun x6 =>
    (∃ x_03 : Int, ∃ x_13 : Int, ∃ x_23 : Int, ∃ x_33 : Int, ∃ x_4_a3 : Option Addr, ∃ x_4_l3 : Nat, ∃ x_4_c3 : Nat, cellsAt w18 ⟨b, 0, none⟩ 0 [(.int .i64 x_03), (.int .i64 x_13), (.int .i64 x_23), (.int .i64 x_33), (.slice x_4_a3 x_4_l3 x_4_c3)] ∧
    (kLd w18 ⟨b1, 1, none⟩ .i64 fun x7 =>
    (Calls Try.prog N_ref18_Cut #[(.int .i64 x6), (.agg #[.int .i64 x_03, .int .i64 x_13, .int .i64 x_23, .int .i64 x_33, .slice x_4_a3 x_4_l3 x_4_c3]), (.int .i64 x7)] w18 fun e_7 w19 =>
    ∃ r_04 : Int, ∃ r_14 : Int, ∃ r_24 : Int, ∃ r_34 : Int, ∃ r_4_a4 : Option Addr, ∃ r_4_l4 : Nat, ∃ r_4_c4 : Nat, ∃ r_05 : Int, ∃ r_15 : Int, ∃ r_25 : Int, ∃ r_35 : Int, ∃ r_4_a5 : Option Addr, ∃ r_4_l5 : Nat, ∃ r_4_c5 : Nat, ∃ r7 : Int, e_7 = .returned (.tuple #[(.agg #[.int .i64 r_04, .int .i64 r_14, .int .i64 r_24, .int .i64 r_34, .slice r_4_a4 r_4_l4 r_4_c4]), (.agg #[.int .i64 r_05, .int .i64 r_15, .int .i64 r_25, .int .i64 r_35, .slice r_4_a5 r_4_l5 r_4_c5]), (.int .i64 r7)]) ∧
    (kAlloc w19 #[.int .i64 (0 : Int), .int .i64 (0 : Int), .int .i64 (0 : Int), .int .i64 (0 : Int), .slice none 0 0] Ty_api_Piece fun b6 w20 =>
    (kAlloc w20 #[.int .i64 (0 : Int), .int .i64 (0 : Int), .int .i64 (0 : Int), .int .i64 (0 : Int), .slice none 0 0] Ty_api_Piece fun b7 w21 =>
    (sxStore w21 ⟨b6, 0, none⟩ 0 [(.int .i64 r_04), (.int .i64 r_14), (.int .i64 r_24), (.int .i64 r_34), (.slice r_4_a4 r_4_l4 r_4_c4)] fun w22 =>
    (sxStore w22 ⟨b7, 0, none⟩ 0 [(.int .i64 r_05), (.int .i64 r_15), (.int .i64 r_25), (.int .i64 r_35), (.slice r_4_a5 r_4_l5 r_4_c5)] fun w23 =>
    (kDrew w23 fun w24 =>
    (∃ S : Nat → Prop,
    (Calls Try.prog N_law18_awake #[] w24 fun e_8 w25 =>
    ∃ r8 : Bool, e_8 = .returned (.bool r8) ∧
    (KeepsB S w24 w25 ∧ (bsplit r8
      ((S b1 ∧
      (kLd w24 ⟨b1, 0, none⟩ .i64 fun x8 =>
      (S b ∧
      (∃ x_04 : Int, ∃ x_14 : Int, ∃ x_24 : Int, ∃ x_34 : Int, ∃ x_4_a4 : Option Addr, ∃ x_4_l4 : Nat, ∃ x_4_c4 : Nat, cellsAt w24 ⟨b, 0, none⟩ 0 [(.int .i64 x_04), (.int .i64 x_14), (.int .i64 x_24), (.int .i64 x_34), (.slice x_4_a4 x_4_l4 x_4_c4)] ∧
      (S b1 ∧
      (kLd w24 ⟨b1, 0, none⟩ .i64 fun x9 =>
      (S b ∧
      (∃ x_05 : Int, ∃ x_15 : Int, ∃ x_25 : Int, ∃ x_35 : Int, ∃ x_4_a5 : Option Addr, ∃ x_4_l5 : Nat, ∃ x_4_c5 : Nat, cellsAt w24 ⟨b, 0, none⟩ 0 [(.int .i64 x_05), (.int .i64 x_15), (.int .i64 x_25), (.int .i64 x_35), (.slice x_4_a5 x_4_l5 x_4_c5)] ∧
      (Calls Try.prog N_segment_Valid #[(.int .i64 x8), (.agg #[.int .i64 x_04, .int .i64 x_14, .int .i64 x_24, .int .i64 x_34, .slice x_4_a4 x_4_l4 x_4_c4])] w25 fun e_9 w26 =>
      ∃ r9 : Bool, e_9 = .returned (.bool r9) ∧
      (KeepsB S w24 w26 ∧ (Calls Try.prog N_ref18_Valid #[(.int .i64 x9), (.agg #[.int .i64 x_05, .int .i64 x_15, .int .i64 x_25, .int .i64 x_35, .slice x_4_a5 x_4_l5 x_4_c5])] w26 fun e_10 w27 =>
      ∃ r10 : Bool, e_10 = .returned (.bool r10) ∧
      (KeepsB S w24 w27 ∧ (bsplit (r9 == r10)
        ((bsplit (decide (r2 = r3))
          ((Calls Try.prog N_ref01_Same #[(.slice r_a r_l r_c), (.slice r_a1 r_l1 r_c1)] w27 fun e_11 w28 =>
          ∃ r11 : Bool, e_11 = .returned (.bool r11) ∧
          (KeepsB S w24 w28 ∧ (bsplit r11
            ((bsplit (decide (r4 = r5))
              ((S b2 ∧
              (∃ x_06 : Int, ∃ x_16 : Int, ∃ x_26 : Int, ∃ x_36 : Int, ∃ x_4_a6 : Option Addr, ∃ x_4_l6 : Nat, ∃ x_4_c6 : Nat, cellsAt w24 ⟨b2, 0, none⟩ 0 [(.int .i64 x_06), (.int .i64 x_16), (.int .i64 x_26), (.int .i64 x_36), (.slice x_4_a6 x_4_l6 x_4_c6)] ∧
              (S b3 ∧
              (∃ x_07 : Int, ∃ x_17 : Int, ∃ x_27 : Int, ∃ x_37 : Int, ∃ x_4_a7 : Option Addr, ∃ x_4_l7 : Nat, ∃ x_4_c7 : Nat, cellsAt w24 ⟨b3, 0, none⟩ 0 [(.int .i64 x_07), (.int .i64 x_17), (.int .i64 x_27), (.int .i64 x_37), (.slice x_4_a7 x_4_l7 x_4_c7)] ∧
              (Calls Try.prog N_ref18_Same #[(.agg #[.int .i64 x_06, .int .i64 x_16, .int .i64 x_26, .int .i64 x_36, .slice x_4_a6 x_4_l6 x_4_c6]), (.agg #[.int .i64 x_07, .int .i64 x_17, .int .i64 x_27, .int .i64 x_37, .slice x_4_a7 x_4_l7 x_4_c7])] w28 fun e_12 w29 =>
              ∃ r12 : Bool, e_12 = .returned (.bool r12) ∧
              (KeepsB S w24 w29 ∧ (bsplit r12
                ((bsplit (decide (r6 = r7))
                  ((S b4 ∧
                  (∃ x_08 : Int, ∃ x_18 : Int, ∃ x_28 : Int, ∃ x_38 : Int, ∃ x_4_a8 : Option Addr, ∃ x_4_l8 : Nat, ∃ x_4_c8 : Nat, cellsAt w24 ⟨b4, 0, none⟩ 0 [(.int .i64 x_08), (.int .i64 x_18), (.int .i64 x_28), (.int .i64 x_38), (.slice x_4_a8 x_4_l8 x_4_c8)] ∧
                  (S b6 ∧
                  (∃ x_09 : Int, ∃ x_19 : Int, ∃ x_29 : Int, ∃ x_39 : Int, ∃ x_4_a9 : Option Addr, ∃ x_4_l9 : Nat, ∃ x_4_c9 : Nat, cellsAt w24 ⟨b6, 0, none⟩ 0 [(.int .i64 x_09), (.int .i64 x_19), (.int .i64 x_29), (.int .i64 x_39), (.slice x_4_a9 x_4_l9 x_4_c9)] ∧
                  (Calls Try.prog N_ref18_Same #[(.agg #[.int .i64 x_08, .int .i64 x_18, .int .i64 x_28, .int .i64 x_38, .slice x_4_a8 x_4_l8 x_4_c8]), (.agg #[.int .i64 x_09, .int .i64 x_19, .int .i64 x_29, .int .i64 x_39, .slice x_4_a9 x_4_l9 x_4_c9])] w29 fun e_13 w30 =>
                  ∃ r13 : Bool, e_13 = .returned (.bool r13) ∧
                  (KeepsB S w24 w30 ∧ (bsplit r13
                    ((S b5 ∧
                    (∃ x_010 : Int, ∃ x_110 : Int, ∃ x_210 : Int, ∃ x_310 : Int, ∃ x_4_a10 : Option Addr, ∃ x_4_l10 : Nat, ∃ x_4_c10 : Nat, cellsAt w24 ⟨b5, 0, none⟩ 0 [(.int .i64 x_010), (.int .i64 x_110), (.int .i64 x_210), (.int .i64 x_310), (.slice x_4_a10 x_4_l10 x_4_c10)] ∧
                    (S b7 ∧
                    (∃ x_011 : Int, ∃ x_111 : Int, ∃ x_211 : Int, ∃ x_311 : Int, ∃ x_4_a11 : Option Addr, ∃ x_4_l11 : Nat, ∃ x_4_c11 : Nat, cellsAt w24 ⟨b7, 0, none⟩ 0 [(.int .i64 x_011), (.int .i64 x_111), (.int .i64 x_211), (.int .i64 x_311), (.slice x_4_a11 x_4_l11 x_4_c11)] ∧
                    (Calls Try.prog N_ref18_Same #[(.agg #[.int .i64 x_010, .int .i64 x_110, .int .i64 x_210, .int .i64 x_310, .slice x_4_a10 x_4_l10 x_4_c10]), (.agg #[.int .i64 x_011, .int .i64 x_111, .int .i64 x_211, .int .i64 x_311, .slice x_4_a11 x_4_l11 x_4_c11])] w30 fun e_14 w31 =>
                    ∃ r14 : Bool, e_14 = .returned (.bool r14) ∧
                    (KeepsB S w24 w31 ∧ R (.bool r14) w31)))))))
                    (R (.bool false) w30)))))))))
                  (R (.bool false) w29)))
                (R (.bool false) w29)))))))))
              (R (.bool false) w28)))
            (R (.bool false) w28)))))
          (R (.bool false) w27)))
        (R (.bool false) w27)))))))))))))))
      (R (.bool false) w25))))))))))))))))))))))))))))))))))))) ∧
  (bsplit (decide ((b_l : Int) > (3000 : Int)))
    ((Calls Try.prog N_law18_awake #[] w2 fun e_ w3 =>
      ∃ r : Bool, e_ = .returned (.bool r) ∧
      R (.bool r) w3))
    ((kLdS w2 ⟨b, 4, none⟩ fun x_a x_l x_c =>
    (bsplit (decide ((x_l : Int) > (3000 : Int)))
      ((Calls Try.prog N_law18_awake #[] w2 fun e_1 w4 =>
      ∃ r1 : Bool, e_1 = .returned (.bool r1) ∧
      R (.bool r1) w4))
      (J w2))))))))
theorem F_law18_SegmentPieces_eq (p_0 : Int) (p_1 : Int) (p_2 : Int) (p_3 : Int) (p_4_a : Option Addr) (p_4_l : Nat) (p_4_c : Nat) (b_a : Option Addr) (b_l : Nat) (b_c : Nat) (n_0 : Int) (n_1 : Int) (w : World) (R : Value → World → Prop) : sxFn Try.prog TT h_law18_SegmentPieces Try.f4 #[(.agg #[.int .i64 p_0, .int .i64 p_1, .int .i64 p_2, .int .i64 p_3, .slice p_4_a p_4_l p_4_c]), (.slice b_a b_l b_c), (.agg #[.int .i64 n_0, .int .i64 n_1])] w R = F_law18_SegmentPieces p_0 p_1 p_2 p_3 p_4_a p_4_l p_4_c b_a b_l b_c n_0 n_1 w R := by kernel_rfl
theorem F_law18_SegmentPieces_ok {R : Ending → World → Prop} (p_0 : Int) (p_1 : Int) (p_2 : Int) (p_3 : Int) (p_4_a : Option Addr) (p_4_l : Nat) (p_4_c : Nat) (b_a : Option Addr) (b_l : Nat) (b_c : Nat) (n_0 : Int) (n_1 : Int) (w : World) (h : F_law18_SegmentPieces p_0 p_1 p_2 p_3 p_4_a p_4_l p_4_c b_a b_l b_c n_0 n_1 w fun v w' => R (.returned v) w') : Calls Try.prog N_law18_SegmentPieces #[(.agg #[.int .i64 p_0, .int .i64 p_1, .int .i64 p_2, .int .i64 p_3, .slice p_4_a p_4_l p_4_c]), (.slice b_a b_l b_c), (.agg #[.int .i64 n_0, .int .i64 n_1])] w R :=
  calls_of (f := 4) follows_ok Try.func4 (Eq.mpr (F_law18_SegmentPieces_eq p_0 p_1 p_2 p_3 p_4_a p_4_l p_4_c b_a b_l b_c n_0 n_1 w _) h)

def h_law18_SegmentPiecesMade : H := (.seq .reg (.seq (.seq .reg (.cond (.seq .reg .leaf) .leaf)) (.seq .reg (.seq .reg (.seq .reg (.seq .reg (.cut [(6, .p .slice)] [6, 25, 26, 27, 28, 29, 30, 31, 32, 33, 34, 35, 36, 37, 38, 39, 40] (.seq .reg (.block (.seq .reg (.cond .reg (.seq .reg (.cond .reg .leaf)))))) (.cut [(4, .p (.int .i64))] [4, 41, 42, 43, 44, 45, 46, 47, 48, 49, 50, 51, 52, 53, 54, 55, 56, 57, 58, 59, 60, 61, 62, 63, 64, 65, 66, 67, 68, 69, 70, 71, 72, 73, 74, 75, 76, 77, 78, 79, 80, 81, 82, 83] (.seq .reg (.block (.seq .reg (.cond .reg (.seq .reg (.cond .reg (.seq .reg (.cond .reg (.seq .reg (.cond .reg (.seq .reg (.cond .reg (.seq .reg (.cond .reg .leaf)))))))))))))) (.seq (.draw .blk (.one 0 .stable (.one 1 .stable (.one 2 .stable (.one 3 .pre (.one 4 .keep (.one 5 .stable (.one 6 .keep (.one 7 .keep (.one 8 .stable .nil)))))))))) .leaf)))))))))
def F_law18_SegmentPiecesMade (t_a : Option Addr) (t_l : Nat) (t_c : Nat) (w : World) (R : Value → World → Prop) : Prop :=
  (Calls Try.prog N_made_Light #[(.slice t_a t_l t_c)] w fun e_ w1 =>
  ∃ r : Bool, e_ = .returned (.bool r) ∧
  (bsplit (!r)
    ((Calls Try.prog N_law18_awake #[] w1 fun e_1 w2 =>
    ∃ r1 : Bool, e_1 = .returned (.bool r1) ∧
    R (.bool r1) w2))
    ((Calls Try.prog N_made_Roll #[(.slice t_a t_l t_c)] w1 fun e_2 w3 =>
    ∃ r2 : Option Addr, e_2 = .returned (.pointer r2) ∧
    (Calls Try.prog N_made_Dice_Bits #[(.pointer r2)] w3 fun e_3 w4 =>
    ∃ r3 : Int, e_3 = .returned (.int .i64 r3) ∧
    (Calls Try.prog N_made_Dice_Piece #[(.pointer r2), (.int .i64 r3)] w4 fun e_4 w5 =>
    ∃ r_0 : Int, ∃ r_1 : Int, ∃ r_2 : Int, ∃ r_3 : Int, ∃ r_4_a : Option Addr, ∃ r_4_l : Nat, ∃ r_4_c : Nat, e_4 = .returned (.agg #[.int .i64 r_0, .int .i64 r_1, .int .i64 r_2, .int .i64 r_3, .slice r_4_a r_4_l r_4_c]) ∧
    (kAlloc w5 #[.int .i64 (0 : Int), .int .i64 (0 : Int), .int .i64 (0 : Int), .int .i64 (0 : Int), .slice none 0 0] Ty_api_Piece fun b w6 =>
    (sxStore w6 ⟨b, 0, none⟩ 0 [(.int .i64 r_0), (.int .i64 r_1), (.int .i64 r_2), (.int .i64 r_3), (.slice r_4_a r_4_l r_4_c)] fun w7 =>
    (∃ x_0 : Int, ∃ x_1 : Int, ∃ x_2 : Int, ∃ x_3 : Int, ∃ x_4_a : Option Addr, ∃ x_4_l : Nat, ∃ x_4_c : Nat, cellsAt w7 ⟨b, 0, none⟩ 0 [(.int .i64 x_0), (.int .i64 x_1), (.int .i64 x_2), (.int .i64 x_3), (.slice x_4_a x_4_l x_4_c)] ∧
    (Calls Try.prog N_ref18_Encode #[(.int .i64 r3), (.agg #[.int .i64 x_0, .int .i64 x_1, .int .i64 x_2, .int .i64 x_3, .slice x_4_a x_4_l x_4_c])] w7 fun e_5 w8 =>
    ∃ r_a : Option Addr, ∃ r_l : Nat, ∃ r_c : Nat, ∃ r4 : Int, e_5 = .returned (.tuple #[(.slice r_a r_l r_c), (.int .i64 r4)]) ∧
    (∃ J : Option Addr → Nat → Nat → World → Prop,
    (∀ (_junk : Env) (b_a : Option Addr) (b_l : Nat) (b_c : Nat) (w12 : World), J b_a b_l b_c w12 →
      (∃ J1 : Int → World → Prop,
      (∀ (_junk : Env) (bits : Int) (w27 : World), J1 bits w27 →
        (kDrew w27 fun w28 =>
        (∃ S : Nat → Prop,
        (S b ∧
        (∃ x_01 : Int, ∃ x_11 : Int, ∃ x_21 : Int, ∃ x_31 : Int, ∃ x_4_a1 : Option Addr, ∃ x_4_l1 : Nat, ∃ x_4_c1 : Nat, cellsAt w28 ⟨b, 0, none⟩ 0 [(.int .i64 x_01), (.int .i64 x_11), (.int .i64 x_21), (.int .i64 x_31), (.slice x_4_a1 x_4_l1 x_4_c1)] ∧
        (Calls Try.prog N_made_Dice_Next #[(.pointer r2), (.int .i64 (30 : Int))] w28 fun e_15 w29 =>
        ∃ r13 : Int, e_15 = .returned (.int .i64 r13) ∧
        (KeepsB S w28 w29 ∧ (kW .i64 (r13 - (1 : Int)) fun x16 =>
        (KeepsB S w28 w29 ∧ (Calls Try.prog N_law18_SegmentPieces #[(.agg #[.int .i64 x_01, .int .i64 x_11, .int .i64 x_21, .int .i64 x_31, .slice x_4_a1 x_4_l1 x_4_c1]), (.slice b_a b_l b_c), (.agg #[.int .i64 bits, .int .i64 x16])] w29 fun e_16 w30 =>
        ∃ r14 : Bool, e_16 = .returned (.bool r14) ∧
        (KeepsB S w28 w30 ∧ R (.bool r14) w30))))))))))) ∧
      (Calls Try.prog N_made_Dice_Next #[(.pointer r2), (.int .i64 (8 : Int))] w12 fun e_9 w13 =>
      ∃ r7 : Int, e_9 = .returned (.int .i64 r7) ∧
      (kLet (decide (r7 = (0 : Int))) fun x3 =>
      (bsplit x3
        ((kW .u64 (r3) fun x4 =>
        (0 ≤ x4 ∧ (kW .i64 ((1 : Int) * 2 ^ (min x4.toNat (IntKind.bits .i64))) fun x5 =>
        (kAlloc w13 #[(.int .i64 (-1 : Int)), (.int .i64 x5)] Ty_int fun b1 w14 =>
        (Calls Try.prog N_made_Dice_Next #[(.pointer r2), (.int .i64 (2 : Int))] w14 fun e_10 w15 =>
        ∃ r8 : Int, e_10 = .returned (.int .i64 r8) ∧
        (kIx (some ⟨b1, 0, none⟩) 2 r8 fun b2 =>
        (kLd w15 (b2.add (r8.toNat * 1)) .i64 fun x6 =>
        (kSet w15 ⟨b, 0, none⟩ (.int .i64 x6) fun w16 =>
        J1 r3 w16)))))))))
        ((kLet (decide (r7 = (1 : Int))) fun x7 =>
        (bsplit x7
          ((Calls Try.prog N_made_Dice_Next #[(.pointer r2), (.int .i64 (6 : Int))] w13 fun e_11 w17 =>
          ∃ r9 : Int, e_11 = .returned (.int .i64 r9) ∧
          (kW .i64 (r9 - (1 : Int)) fun x8 =>
          (kSet w17 ⟨b, 1, none⟩ (.int .i64 x8) fun w18 =>
          J1 r3 w18))))
          ((kLet (decide (r7 = (2 : Int))) fun x9 =>
          (bsplit x9
            ((Calls Try.prog N_made_Dice_Next #[(.pointer r2), (.int .i64 (4 : Int))] w13 fun e_12 w19 =>
            ∃ r10 : Int, e_12 = .returned (.int .i64 r10) ∧
            (kW .i64 (r10 - (1 : Int)) fun x10 =>
            (kSet w19 ⟨b, 2, none⟩ (.int .i64 x10) fun w20 =>
            J1 r3 w20))))
            ((kLet (decide (r7 = (3 : Int))) fun x11 =>
            (bsplit x11
              ((kAlloc w13 #[(.int .i64 (-1 : Int)), (.int .i64 (0 : Int)), (.int .i64 (2034 : Int)), (.int .i64 (2053 : Int)), (.int .i64 (2054 : Int))] Ty_int fun b3 w21 =>
              (Calls Try.prog N_made_Dice_Next #[(.pointer r2), (.int .i64 (5 : Int))] w21 fun e_13 w22 =>
              ∃ r11 : Int, e_13 = .returned (.int .i64 r11) ∧
              (kIx (some ⟨b3, 0, none⟩) 5 r11 fun b4 =>
              (kLd w22 (b4.add (r11.toNat * 1)) .i64 fun x12 =>
              (kSet w22 ⟨b, 3, none⟩ (.int .i64 x12) fun w23 =>
              J1 r3 w23))))))
              ((kLet (decide (r7 = (4 : Int))) fun x13 =>
              (bsplit x13
                ((kSet w13 ⟨b, 4, none⟩ (.slice none 0 0) fun w24 =>
                J1 r3 w24))
                ((kLet (decide (r7 = (5 : Int))) fun x14 =>
                (bsplit x14
                  ((kAlloc w13 #[(.int .i64 (4 : Int)), (.int .i64 (10 : Int))] Ty_int fun b5 w25 =>
                  (Calls Try.prog N_made_Dice_Next #[(.pointer r2), (.int .i64 (2 : Int))] w25 fun e_14 w26 =>
                  ∃ r12 : Int, e_14 = .returned (.int .i64 r12) ∧
                  (kIx (some ⟨b5, 0, none⟩) 2 r12 fun b6 =>
                  (kLd w26 (b6.add (r12.toNat * 1)) .i64 fun x15 =>
                  J1 x15 w26)))))
                  (J1 r3 w13))))))))))))))))))))) ∧
    (Calls Try.prog N_made_Dice_Next #[(.pointer r2), (.int .i64 (4 : Int))] w8 fun e_6 w9 =>
    ∃ r5 : Int, e_6 = .returned (.int .i64 r5) ∧
    (kLet (decide (r5 = (0 : Int))) fun x =>
    (bsplit x
      ((Calls Try.prog N_made_Dice_Spoil #[(.pointer r2), (.slice r_a r_l r_c)] w9 fun e_7 w10 =>
      ∃ r_a1 : Option Addr, ∃ r_l1 : Nat, ∃ r_c1 : Nat, e_7 = .returned (.slice r_a1 r_l1 r_c1) ∧
      J r_a1 r_l1 r_c1 w10))
      ((kLet (decide (r5 = (1 : Int))) fun x1 =>
      (bsplit x1
        ((kW .i64 ((r_l : Int) + (1 : Int)) fun x2 =>
        (Calls Try.prog N_made_Dice_Next #[(.pointer r2), (.int .i64 x2)] w9 fun e_8 w11 =>
        ∃ r6 : Int, e_8 = .returned (.int .i64 r6) ∧
        ((0 ≤ r6 ∧ r6 ≤ ((r_c : Nat) : Int)) ∧ J (slAddr r_c 0 1 r_a) (r6.toNat - 0) (r_c - 0) w11))))
        (J r_a r_l r_c w9))))))))))))))))))
theorem F_law18_SegmentPiecesMade_eq (t_a : Option Addr) (t_l : Nat) (t_c : Nat) (w : World) (R : Value → World → Prop) : sxFn Try.prog TT h_law18_SegmentPiecesMade Try.f5 #[(.slice t_a t_l t_c)] w R = F_law18_SegmentPiecesMade t_a t_l t_c w R := by kernel_rfl
theorem F_law18_SegmentPiecesMade_ok {R : Ending → World → Prop} (t_a : Option Addr) (t_l : Nat) (t_c : Nat) (w : World) (h : F_law18_SegmentPiecesMade t_a t_l t_c w fun v w' => R (.returned v) w') : Calls Try.prog N_law18_SegmentPiecesMade #[(.slice t_a t_l t_c)] w R :=
  calls_of (f := 5) follows_ok Try.func5 (Eq.mpr (F_law18_SegmentPiecesMade_eq t_a t_l t_c w _) h)

def h_law18_SegmentReturns : H := (.seq .reg (.seq (.seq .reg (.cond (.seq .reg .leaf) .leaf)) (.seq .reg (.seq .reg (.seq .reg (.seq .reg (.seq .reg (.seq .reg .leaf))))))))
def F_law18_SegmentReturns (t_a : Option Addr) (t_l : Nat) (t_c : Nat) (w : World) (R : Value → World → Prop) : Prop :=
  (Calls Try.prog N_made_Light #[(.slice t_a t_l t_c)] w fun e_ w1 =>
  ∃ r : Bool, e_ = .returned (.bool r) ∧
  (bsplit (!r)
    ((Calls Try.prog N_law18_awake #[] w1 fun e_1 w2 =>
    ∃ r1 : Bool, e_1 = .returned (.bool r1) ∧
    R (.bool r1) w2))
    ((Calls Try.prog N_made_Roll #[(.slice t_a t_l t_c)] w1 fun e_2 w3 =>
    ∃ r2 : Option Addr, e_2 = .returned (.pointer r2) ∧
    (Calls Try.prog N_made_Dice_Bits #[(.pointer r2)] w3 fun e_3 w4 =>
    ∃ r3 : Int, e_3 = .returned (.int .i64 r3) ∧
    (Calls Try.prog N_made_Dice_Piece #[(.pointer r2), (.int .i64 r3)] w4 fun e_4 w5 =>
    ∃ r_0 : Int, ∃ r_1 : Int, ∃ r_2 : Int, ∃ r_3 : Int, ∃ r_4_a : Option Addr, ∃ r_4_l : Nat, ∃ r_4_c : Nat, e_4 = .returned (.agg #[.int .i64 r_0, .int .i64 r_1, .int .i64 r_2, .int .i64 r_3, .slice r_4_a r_4_l r_4_c]) ∧
    (kAlloc w5 #[.int .i64 (0 : Int), .int .i64 (0 : Int), .int .i64 (0 : Int), .int .i64 (0 : Int), .slice none 0 0] Ty_api_Piece fun b w6 =>
    (sxStore w6 ⟨b, 0, none⟩ 0 [(.int .i64 r_0), (.int .i64 r_1), (.int .i64 r_2), (.int .i64 r_3), (.slice r_4_a r_4_l r_4_c)] fun w7 =>
    (∃ x_0 : Int, ∃ x_1 : Int, ∃ x_2 : Int, ∃ x_3 : Int, ∃ x_4_a : Option Addr, ∃ x_4_l : Nat, ∃ x_4_c : Nat, cellsAt w7 ⟨b, 0, none⟩ 0 [(.int .i64 x_0), (.int .i64 x_1), (.int .i64 x_2), (.int .i64 x_3), (.slice x_4_a x_4_l x_4_c)] ∧
    (Calls Try.prog N_segment_Encode #[(.int .i64 r3), (.agg #[.int .i64 x_0, .int .i64 x_1, .int .i64 x_2, .int .i64 x_3, .slice x_4_a x_4_l x_4_c])] w7 fun e_5 w8 =>
    ∃ r_a : Option Addr, ∃ r_l : Nat, ∃ r_c : Nat, ∃ r4 : Int, e_5 = .returned (.tuple #[(.slice r_a r_l r_c), (.int .i64 r4)]) ∧
    (Calls Try.prog N_segment_Decode #[(.int .i64 r3), (.slice r_a r_l r_c)] w8 fun e_6 w9 =>
    ∃ r_01 : Int, ∃ r_11 : Int, ∃ r_21 : Int, ∃ r_31 : Int, ∃ r_4_a1 : Option Addr, ∃ r_4_l1 : Nat, ∃ r_4_c1 : Nat, ∃ r5 : Int, e_6 = .returned (.tuple #[(.agg #[.int .i64 r_01, .int .i64 r_11, .int .i64 r_21, .int .i64 r_31, .slice r_4_a1 r_4_l1 r_4_c1]), (.int .i64 r5)]) ∧
    (kAlloc w9 #[.int .i64 (0 : Int), .int .i64 (0 : Int), .int .i64 (0 : Int), .int .i64 (0 : Int), .slice none 0 0] Ty_api_Piece fun b1 w10 =>
    (sxStore w10 ⟨b1, 0, none⟩ 0 [(.int .i64 r_01), (.int .i64 r_11), (.int .i64 r_21), (.int .i64 r_31), (.slice r_4_a1 r_4_l1 r_4_c1)] fun w11 =>
    (Calls Try.prog N_law18_awake #[] w11 fun e_7 w12 =>
    ∃ r6 : Bool, e_7 = .returned (.bool r6) ∧
    (bsplit r6
      ((∃ x_01 : Int, ∃ x_11 : Int, ∃ x_21 : Int, ∃ x_31 : Int, ∃ x_4_a1 : Option Addr, ∃ x_4_l1 : Nat, ∃ x_4_c1 : Nat, cellsAt w12 ⟨b, 0, none⟩ 0 [(.int .i64 x_01), (.int .i64 x_11), (.int .i64 x_21), (.int .i64 x_31), (.slice x_4_a1 x_4_l1 x_4_c1)] ∧
      (Calls Try.prog N_segment_Valid #[(.int .i64 r3), (.agg #[.int .i64 x_01, .int .i64 x_11, .int .i64 x_21, .int .i64 x_31, .slice x_4_a1 x_4_l1 x_4_c1])] w12 fun e_8 w13 =>
      ∃ r7 : Bool, e_8 = .returned (.bool r7) ∧
      (bsplit r7
        ((bsplit (decide (r4 = (0 : Int)))
          ((bsplit (decide (r5 = (0 : Int)))
            ((∃ x_02 : Int, ∃ x_12 : Int, ∃ x_22 : Int, ∃ x_32 : Int, ∃ x_4_a2 : Option Addr, ∃ x_4_l2 : Nat, ∃ x_4_c2 : Nat, cellsAt w13 ⟨b, 0, none⟩ 0 [(.int .i64 x_02), (.int .i64 x_12), (.int .i64 x_22), (.int .i64 x_32), (.slice x_4_a2 x_4_l2 x_4_c2)] ∧
            (∃ x_03 : Int, ∃ x_13 : Int, ∃ x_23 : Int, ∃ x_33 : Int, ∃ x_4_a3 : Option Addr, ∃ x_4_l3 : Nat, ∃ x_4_c3 : Nat, cellsAt w13 ⟨b1, 0, none⟩ 0 [(.int .i64 x_03), (.int .i64 x_13), (.int .i64 x_23), (.int .i64 x_33), (.slice x_4_a3 x_4_l3 x_4_c3)] ∧
            (Calls Try.prog N_ref18_Same #[(.agg #[.int .i64 x_02, .int .i64 x_12, .int .i64 x_22, .int .i64 x_32, .slice x_4_a2 x_4_l2 x_4_c2]), (.agg #[.int .i64 x_03, .int .i64 x_13, .int .i64 x_23, .int .i64 x_33, .slice x_4_a3 x_4_l3 x_4_c3])] w13 fun e_9 w14 =>
            ∃ r8 : Bool, e_9 = .returned (.bool r8) ∧
            R (.bool r8) w14))))
            (R (.bool false) w13)))
          (R (.bool false) w13)))
        (R (.bool false) w13)))))
      (R (.bool false) w12))))))))))))))))
theorem F_law18_SegmentReturns_eq (t_a : Option Addr) (t_l : Nat) (t_c : Nat) (w : World) (R : Value → World → Prop) : sxFn Try.prog TT h_law18_SegmentReturns Try.f6 #[(.slice t_a t_l t_c)] w R = F_law18_SegmentReturns t_a t_l t_c w R := by kernel_rfl
theorem F_law18_SegmentReturns_ok {R : Ending → World → Prop} (t_a : Option Addr) (t_l : Nat) (t_c : Nat) (w : World) (h : F_law18_SegmentReturns t_a t_l t_c w fun v w' => R (.returned v) w') : Calls Try.prog N_law18_SegmentReturns #[(.slice t_a t_l t_c)] w R :=
  calls_of (f := 6) follows_ok Try.func6 (Eq.mpr (F_law18_SegmentReturns_eq t_a t_l t_c w _) h)

def h_law18_SegmentRanges : H := (.seq .reg (.cut [] [6, 21, 22, 23, 24, 25, 26, 27, 28, 29] (.seq .reg (.cond (.seq .reg .leaf) .leaf)) (.seq .reg (.seq .reg (.seq .reg (.seq (.draw .blk (.one 0 .stable (.one 1 .stable (.one 2 .stable (.one 3 .pre (.one 4 .keep (.one 5 .stable (.one 6 .stable (.one 7 .last .nil))))))))) (.cut [(8, .p .slice)] [8, 44, 45, 46, 47, 48] (.seq .reg (.cond .reg .leaf)) (.seq .reg (.seq .reg (.seq (.seq .reg (.block (.loop [(12, .p (.int .i64))] [6, 12, 13, 14, 15, 16, 17, 18, 19, 20, 55, 56, 57, 58, 59, 60, 61, 62, 63, 64, 65, 66, 67, 68, 69, 70, 71, 72, 73, 74, 75, 76, 77, 78, 79, 80, 81, 82, 83, 84, 85, 86, 87, 88, 89, 90, 91, 92, 93, 94, 95, 96, 97, 98, 99, 100, 101, 102, 103, 104, 105, 106, 107, 108, 109, 110, 111, 112, 113, 114, 115, 116, 117, 118, 119, 120, 121, 122, 123, 124, 125, 126, 127, 128] (.seq (.seq .reg (.cond .leaf .leaf)) (.seq (.block (.seq (.draw .blk (.one 0 .pre (.one 1 .pre (.one 2 .pre (.one 3 .pre (.one 4 .pre (.one 5 .pre (.one 6 .keep (.one 7 .stable (.one 8 .stable (.one 9 .stable (.one 10 .stable (.one 11 .stable .nil))))))))))))) (.seq (.draw .blk (.one 0 .pre (.one 1 .pre (.one 2 .pre (.one 3 .pre (.one 4 .pre (.one 5 .pre (.one 6 .keep (.one 7 .stable (.one 8 .stable (.one 9 .stable (.one 10 .stable (.one 11 .stable .nil))))))))))))) (.seq (.draw .blk (.one 0 .pre (.one 1 .pre (.one 2 .pre (.one 3 .pre (.one 4 .pre (.one 5 .pre (.one 6 .pre (.one 7 .pre (.one 8 .pre (.one 9 .pre (.one 10 .pre (.one 11 .keep (.one 12 .stable (.one 13 .stable (.one 14 .stable (.one 15 .stable (.one 16 .stable .nil)))))))))))))))))) (.seq (.draw .blk (.one 0 .pre (.one 1 .pre (.one 2 .pre (.one 3 .pre (.one 4 .pre (.one 5 .pre (.one 6 .pre (.one 7 .pre (.one 8 .pre (.one 9 .pre (.one 10 .pre (.one 11 .keep (.one 12 .stable (.one 13 .stable (.one 14 .stable (.one 15 .stable (.one 16 .stable .nil)))))))))))))))))) (.seq .reg (.cond (.seq .reg .leaf) .leaf))))))) .reg))))) (.seq .reg .leaf)))))))))))
def F_law18_SegmentRanges (l_a : Option Addr) (l_l : Nat) (l_c : Nat) (r_0 : Int) (r_1 : Int) (r_2 : Int) (t_a : Option Addr) (t_l : Nat) (t_c : Nat) (w : World) (R : Value → World → Prop) : Prop :=
  (kAlloc w #[(.int .i64 r_0), (.int .i64 r_1), (.int .i64 r_2)] Ty_api_Range fun b w1 =>
  (∃ J : World → Prop,
  (∀ (_junk : Env)  (w5 : World), J w5 →
    (Calls Try.prog N_made_Roll #[(.slice t_a t_l t_c)] w5 fun e_3 w6 =>
    ∃ r3 : Option Addr, e_3 = .returned (.pointer r3) ∧
    (Calls Try.prog N_made_Dice_Ranges #[(.pointer r3), (.int .i64 (3 : Int)), (.int .i64 (6 : Int))] w6 fun e_4 w7 =>
    ∃ r_a : Option Addr, ∃ r_l : Nat, ∃ r_c : Nat, e_4 = .returned (.slice r_a r_l r_c) ∧
    (Calls Try.prog N_made_Dice_Next #[(.pointer r3), (.int .i64 (40 : Int))] w7 fun e_5 w8 =>
    ∃ r4 : Int, e_5 = .returned (.int .i64 r4) ∧
    (kAlloc w8 #[.int .i64 (0 : Int), .int .i64 (0 : Int), .int .i64 (0 : Int)] Ty_api_Range fun b1 w9 =>
    (sxStore w9 ⟨b1, 0, none⟩ 0 [(.int .i64 (3 : Int)), (.int .i64 r4), (.int .i64 (0 : Int))] fun w10 =>
    (kDrew w10 fun w11 =>
    (∃ S : Nat → Prop,
    (S b1 ∧
    (kLd w11 ⟨b1, 1, none⟩ .i64 fun x =>
    (kW .i64 (x + (1 : Int)) fun x1 =>
    (Calls Try.prog N_made_Dice_Next #[(.pointer r3), (.int .i64 (20 : Int))] w11 fun e_6 w12 =>
    ∃ r5 : Int, e_6 = .returned (.int .i64 r5) ∧
    (KeepsB S w11 w12 ∧ (kW .i64 (x1 + r5) fun x2 =>
    (kSet w12 ⟨b1, 2, none⟩ (.int .i64 x2) fun w13 =>
    (∃ J1 : Option Addr → Nat → Nat → World → Prop,
    (∀ (_junk : Env) (x_a : Option Addr) (x_l : Nat) (x_c : Nat) (w16 : World), J1 x_a x_l x_c w16 →
      (kAlloc w16 #[.slice none 0 0, .slice none 0 0] Ty_2_S_api_Range fun b2 w17 =>
      (sxStore w17 ⟨b2, 0, none⟩ 0 [(.slice l_a l_l l_c), (.slice x_a x_l x_c)] fun w18 =>
      (∃ x_0 : Int, ∃ x_1 : Int, ∃ x_2 : Int, cellsAt w18 ⟨b, 0, none⟩ 0 [(.int .i64 x_0), (.int .i64 x_1), (.int .i64 x_2)] ∧
      (∃ x_01 : Int, ∃ x_11 : Int, ∃ x_21 : Int, cellsAt w18 ⟨b1, 0, none⟩ 0 [(.int .i64 x_01), (.int .i64 x_11), (.int .i64 x_21)] ∧
      (kAlloc w18 #[.int .i64 (0 : Int), .int .i64 (0 : Int), .int .i64 (0 : Int), .int .i64 (0 : Int), .int .i64 (0 : Int), .int .i64 (0 : Int)] Ty_2_api_Range fun b3 w19 =>
      (sxStore w19 ⟨b3, 0, none⟩ 0 [(.int .i64 x_0), (.int .i64 x_1), (.int .i64 x_2), (.int .i64 x_01), (.int .i64 x_11), (.int .i64 x_21)] fun w20 =>
      (∃ I : Int → Nat × (World → Prop), (I (0 : Int)).2 w20 ∧
      (∀ (_junk : Env) (i : Int) (w21 : World), (I i).2 w21 →
        (bsplit (decide (i < (2 : Int)))
          ((kDrew w21 fun w22 =>
          (∃ S1 : Nat → Prop,
          ((0 ≤ i ∧ i < (2 : Int)) ∧
          (kLdS w22 ((⟨b2, 0, none⟩ : Addr).add (i.toNat * 1)) fun x_a1 x_l1 x_c1 =>
          ((0 ≤ i ∧ i < (2 : Int)) ∧
          (∃ x_02 : Int, ∃ x_12 : Int, ∃ x_22 : Int, cellsAt w22 ((⟨b3, 0, none⟩ : Addr).add (i.toNat * 3)) 0 [(.int .i64 x_02), (.int .i64 x_12), (.int .i64 x_22)] ∧
          (Calls Try.prog N_segment_Union #[(.slice x_a1 x_l1 x_c1), (.agg #[.int .i64 x_02, .int .i64 x_12, .int .i64 x_22])] w22 fun e_9 w23 =>
          ∃ r_a2 : Option Addr, ∃ r_l2 : Nat, ∃ r_c2 : Nat, ∃ r7 : Int, e_9 = .returned (.tuple #[(.slice r_a2 r_l2 r_c2), (.int .i64 r7)]) ∧
          (KeepsB S1 w22 w23 ∧ (kDrew w23 fun w24 =>
          (∃ S2 : Nat → Prop,
          ((0 ≤ i ∧ i < (2 : Int)) ∧
          (kLdS w24 ((⟨b2, 0, none⟩ : Addr).add (i.toNat * 1)) fun x_a2 x_l2 x_c2 =>
          ((0 ≤ i ∧ i < (2 : Int)) ∧
          (∃ x_03 : Int, ∃ x_13 : Int, ∃ x_23 : Int, cellsAt w24 ((⟨b3, 0, none⟩ : Addr).add (i.toNat * 3)) 0 [(.int .i64 x_03), (.int .i64 x_13), (.int .i64 x_23)] ∧
          (Calls Try.prog N_ref18_Union #[(.slice x_a2 x_l2 x_c2), (.agg #[.int .i64 x_03, .int .i64 x_13, .int .i64 x_23])] w24 fun e_10 w25 =>
          ∃ r_a3 : Option Addr, ∃ r_l3 : Nat, ∃ r_c3 : Nat, ∃ r8 : Int, e_10 = .returned (.tuple #[(.slice r_a3 r_l3 r_c3), (.int .i64 r8)]) ∧
          (KeepsB S2 w24 w25 ∧ (kDrew w25 fun w26 =>
          (∃ S3 : Nat → Prop,
          ((0 ≤ i ∧ i < (2 : Int)) ∧
          (kLdS w26 ((⟨b2, 0, none⟩ : Addr).add (i.toNat * 1)) fun x_a3 x_l3 x_c3 =>
          ((0 ≤ i ∧ i < (2 : Int)) ∧
          (kLd w26 ((⟨b3, 0, none⟩ : Addr).add (i.toNat * 3)) .i64 fun x3 =>
          ((0 ≤ i ∧ i < (2 : Int)) ∧
          (kLd w26 (((⟨b3, 0, none⟩ : Addr).add (i.toNat * 3)).add 2) .i64 fun x4 =>
          (Calls Try.prog N_segment_Gaps #[(.slice x_a3 x_l3 x_c3), (.int .i64 x3), (.int .i64 x4)] w26 fun e_11 w27 =>
          ∃ r_a4 : Option Addr, ∃ r_l4 : Nat, ∃ r_c4 : Nat, ∃ r9 : Int, e_11 = .returned (.tuple #[(.slice r_a4 r_l4 r_c4), (.int .i64 r9)]) ∧
          (KeepsB S3 w26 w27 ∧ (kDrew w27 fun w28 =>
          (∃ S4 : Nat → Prop,
          ((0 ≤ i ∧ i < (2 : Int)) ∧
          (kLdS w28 ((⟨b2, 0, none⟩ : Addr).add (i.toNat * 1)) fun x_a4 x_l4 x_c4 =>
          ((0 ≤ i ∧ i < (2 : Int)) ∧
          (kLd w28 ((⟨b3, 0, none⟩ : Addr).add (i.toNat * 3)) .i64 fun x5 =>
          ((0 ≤ i ∧ i < (2 : Int)) ∧
          (kLd w28 (((⟨b3, 0, none⟩ : Addr).add (i.toNat * 3)).add 2) .i64 fun x6 =>
          (Calls Try.prog N_ref18_Gaps #[(.slice x_a4 x_l4 x_c4), (.int .i64 x5), (.int .i64 x6)] w28 fun e_12 w29 =>
          ∃ r_a5 : Option Addr, ∃ r_l5 : Nat, ∃ r_c5 : Nat, ∃ r10 : Int, e_12 = .returned (.tuple #[(.slice r_a5 r_l5 r_c5), (.int .i64 r10)]) ∧
          (KeepsB S4 w28 w29 ∧ (bsplit (!decide (r7 = r8))
            (R (.bool false) w29)
            ((Calls Try.prog N_ref18_SameRanges #[(.slice r_a2 r_l2 r_c2), (.slice r_a3 r_l3 r_c3)] w29 fun e_13 w30 =>
            ∃ r11 : Bool, e_13 = .returned (.bool r11) ∧
            (bsplit (!r11)
              (R (.bool false) w30)
              ((bsplit (!decide (r9 = r10))
                (R (.bool false) w30)
                ((Calls Try.prog N_ref18_SameRanges #[(.slice r_a4 r_l4 r_c4), (.slice r_a5 r_l5 r_c5)] w30 fun e_14 w31 =>
                ∃ r12 : Bool, e_14 = .returned (.bool r12) ∧
                (bsplit (!r12)
                  (R (.bool false) w31)
                  ((kW .i64 (i + (1 : Int)) fun x10 =>
                  ((I x10).2 w31 ∧ (I x10).1 < (I i).1)))))))))))))))))))))))))))))))))))))))))))))))))
          ((Calls Try.prog N_law18_awake #[] w21 fun e_15 w32 =>
          ∃ r13 : Bool, e_15 = .returned (.bool r13) ∧
          R (.bool r13) w32)))))))))))) ∧
    (Calls Try.prog N_made_Dice_One #[(.pointer r3), (.int .i64 (5 : Int))] w13 fun e_7 w14 =>
    ∃ r6 : Bool, e_7 = .returned (.bool r6) ∧
    (bsplit r6
      ((Calls Try.prog N_made_Dice_OddRange #[(.pointer r3), (.slice r_a r_l r_c)] w14 fun e_8 w15 =>
      ∃ r_a1 : Option Addr, ∃ r_l1 : Nat, ∃ r_c1 : Nat, e_8 = .returned (.slice r_a1 r_l1 r_c1) ∧
      J1 r_a1 r_l1 r_c1 w15))
      (J1 r_a r_l r_c w14))))))))))))))))))) ∧
  (Calls Try.prog N_made_Light #[(.slice t_a t_l t_c)] w1 fun e_ w2 =>
  ∃ r : Bool, e_ = .returned (.bool r) ∧
  (bsplit (!r)
    ((Calls Try.prog N_law18_awake #[] w2 fun e_1 w3 =>
      ∃ r1 : Bool, e_1 = .returned (.bool r1) ∧
      R (.bool r1) w3))
    ((bsplit (decide ((l_l : Int) > (200 : Int)))
      ((Calls Try.prog N_law18_awake #[] w2 fun e_2 w4 =>
      ∃ r2 : Bool, e_2 = .returned (.bool r2) ∧
      R (.bool r2) w4))
      (J w2)))))))
theorem F_law18_SegmentRanges_eq (l_a : Option Addr) (l_l : Nat) (l_c : Nat) (r_0 : Int) (r_1 : Int) (r_2 : Int) (t_a : Option Addr) (t_l : Nat) (t_c : Nat) (w : World) (R : Value → World → Prop) : sxFn Try.prog TT h_law18_SegmentRanges Try.f7 #[(.slice l_a l_l l_c), (.agg #[.int .i64 r_0, .int .i64 r_1, .int .i64 r_2]), (.slice t_a t_l t_c)] w R = F_law18_SegmentRanges l_a l_l l_c r_0 r_1 r_2 t_a t_l t_c w R := by kernel_rfl
theorem F_law18_SegmentRanges_ok {R : Ending → World → Prop} (l_a : Option Addr) (l_l : Nat) (l_c : Nat) (r_0 : Int) (r_1 : Int) (r_2 : Int) (t_a : Option Addr) (t_l : Nat) (t_c : Nat) (w : World) (h : F_law18_SegmentRanges l_a l_l l_c r_0 r_1 r_2 t_a t_l t_c w fun v w' => R (.returned v) w') : Calls Try.prog N_law18_SegmentRanges #[(.slice l_a l_l l_c), (.agg #[.int .i64 r_0, .int .i64 r_1, .int .i64 r_2]), (.slice t_a t_l t_c)] w R :=
  calls_of (f := 7) follows_ok Try.func7 (Eq.mpr (F_law18_SegmentRanges_eq l_a l_l l_c r_0 r_1 r_2 t_a t_l t_c w _) h)

def h_law18_SegmentCovers : H := (.seq .reg (.seq (.seq .reg (.cond (.seq .reg .leaf) .leaf)) (.seq .reg (.seq .reg (.seq .reg (.seq (.draw .cel (.one 0 .stable (.one 1 .stable (.one 2 .stable (.one 3 .pre (.one 6 .stable (.one 7 .stable (.one 8 .stable (.one 9 .stable (.one 4 .keep (.one 5 .stable (.one 12 .stable (.one 10 .keep (.one 11 .stable (.one 13 .keep (.one 14 .stable (.one 15 .last .nil))))))))))))))))) (.seq .reg (.seq .reg (.seq .reg (.seq .reg (.seq .reg (.seq .reg (.seq .reg (.cut [(22, .p .bool)] [22, 87, 88, 89, 90, 91, 92, 93, 94, 95, 96, 97, 98, 99, 100, 101] .reg (.seq .reg .leaf)))))))))))))))
def F_law18_SegmentCovers (t_a : Option Addr) (t_l : Nat) (t_c : Nat) (at1 : Int) (w : World) (R : Value → World → Prop) : Prop :=
  (Calls Try.prog N_made_Light #[(.slice t_a t_l t_c)] w fun e_ w1 =>
  ∃ r : Bool, e_ = .returned (.bool r) ∧
  (bsplit (!r)
    ((Calls Try.prog N_law18_awake #[] w1 fun e_1 w2 =>
    ∃ r1 : Bool, e_1 = .returned (.bool r1) ∧
    R (.bool r1) w2))
    ((Calls Try.prog N_made_Roll #[(.slice t_a t_l t_c)] w1 fun e_2 w3 =>
    ∃ r2 : Option Addr, e_2 = .returned (.pointer r2) ∧
    (Calls Try.prog N_made_Dice_Ranges #[(.pointer r2), (.int .i64 (1 : Int)), (.int .i64 (6 : Int))] w3 fun e_3 w4 =>
    ∃ r_a : Option Addr, ∃ r_l : Nat, ∃ r_c : Nat, e_3 = .returned (.slice r_a r_l r_c) ∧
    (Calls Try.prog N_made_Dice_Next #[(.pointer r2), (.int .i64 (40 : Int))] w4 fun e_4 w5 =>
    ∃ r3 : Int, e_4 = .returned (.int .i64 r3) ∧
    (Calls Try.prog N_made_Dice_Next #[(.pointer r2), (.int .i64 (40 : Int))] w5 fun e_5 w6 =>
    ∃ r4 : Int, e_5 = .returned (.int .i64 r4) ∧
    (kAlloc w6 #[.int .i64 (0 : Int), .int .i64 (0 : Int), .int .i64 (0 : Int)] Ty_api_Range fun b w7 =>
    (kAlloc w7 #[.int .i64 (0 : Int), .int .i64 (0 : Int), .int .i64 (0 : Int)] Ty_api_Range fun b1 w8 =>
    (sxStore w8 ⟨b, 0, none⟩ 0 [(.int .i64 (1 : Int)), (.int .i64 r3), (.int .i64 (0 : Int))] fun w9 =>
    (sxStore w9 ⟨b1, 0, none⟩ 0 [(.int .i64 (1 : Int)), (.int .i64 r4), (.int .i64 (0 : Int))] fun w10 =>
    (kDrew w10 fun w11 =>
    (∃ S : Addr → Prop,
    (S ⟨b, 1, none⟩ ∧
    (kLd w11 ⟨b, 1, none⟩ .i64 fun x =>
    (kW .i64 (x + (1 : Int)) fun x1 =>
    (S ⟨b1, 1, none⟩ ∧
    (kLd w11 ⟨b1, 1, none⟩ .i64 fun x2 =>
    (kW .i64 (x2 + (1 : Int)) fun x3 =>
    (Calls Try.prog N_made_Dice_Next #[(.pointer r2), (.int .i64 (15 : Int))] w11 fun e_6 w12 =>
    ∃ r5 : Int, e_6 = .returned (.int .i64 r5) ∧
    (KeepsA S w11 w12 ∧ (kW .i64 (x1 + r5) fun x4 =>
    (Calls Try.prog N_made_Dice_Next #[(.pointer r2), (.int .i64 (15 : Int))] w12 fun e_7 w13 =>
    ∃ r6 : Int, e_7 = .returned (.int .i64 r6) ∧
    (KeepsA S w11 w13 ∧ (kW .i64 (x3 + r6) fun x5 =>
    (kSet w13 ⟨b, 2, none⟩ (.int .i64 x4) fun w14 =>
    (KeepsA S w11 w14 ∧ (kSet w14 ⟨b1, 2, none⟩ (.int .i64 x5) fun w15 =>
    (∃ x_0 : Int, ∃ x_1 : Int, ∃ x_2 : Int, cellsAt w15 ⟨b, 0, none⟩ 0 [(.int .i64 x_0), (.int .i64 x_1), (.int .i64 x_2)] ∧
    (Calls Try.prog N_segment_Union #[(.slice r_a r_l r_c), (.agg #[.int .i64 x_0, .int .i64 x_1, .int .i64 x_2])] w15 fun e_8 w16 =>
    ∃ r_a1 : Option Addr, ∃ r_l1 : Nat, ∃ r_c1 : Nat, ∃ r7 : Int, e_8 = .returned (.tuple #[(.slice r_a1 r_l1 r_c1), (.int .i64 r7)]) ∧
    (∃ x_01 : Int, ∃ x_11 : Int, ∃ x_21 : Int, cellsAt w16 ⟨b1, 0, none⟩ 0 [(.int .i64 x_01), (.int .i64 x_11), (.int .i64 x_21)] ∧
    (Calls Try.prog N_segment_Union #[(.slice r_a1 r_l1 r_c1), (.agg #[.int .i64 x_01, .int .i64 x_11, .int .i64 x_21])] w16 fun e_9 w17 =>
    ∃ r_a2 : Option Addr, ∃ r_l2 : Nat, ∃ r_c2 : Nat, ∃ r8 : Int, e_9 = .returned (.tuple #[(.slice r_a2 r_l2 r_c2), (.int .i64 r8)]) ∧
    (∃ x_02 : Int, ∃ x_12 : Int, ∃ x_22 : Int, cellsAt w17 ⟨b1, 0, none⟩ 0 [(.int .i64 x_02), (.int .i64 x_12), (.int .i64 x_22)] ∧
    (Calls Try.prog N_segment_Union #[(.slice r_a r_l r_c), (.agg #[.int .i64 x_02, .int .i64 x_12, .int .i64 x_22])] w17 fun e_10 w18 =>
    ∃ r_a3 : Option Addr, ∃ r_l3 : Nat, ∃ r_c3 : Nat, ∃ r9 : Int, e_10 = .returned (.tuple #[(.slice r_a3 r_l3 r_c3), (.int .i64 r9)]) ∧
    (∃ x_03 : Int, ∃ x_13 : Int, ∃ x_23 : Int, cellsAt w18 ⟨b, 0, none⟩ 0 [(.int .i64 x_03), (.int .i64 x_13), (.int .i64 x_23)] ∧
    (Calls Try.prog N_segment_Union #[(.slice r_a3 r_l3 r_c3), (.agg #[.int .i64 x_03, .int .i64 x_13, .int .i64 x_23])] w18 fun e_11 w19 =>
    ∃ r_a4 : Option Addr, ∃ r_l4 : Nat, ∃ r_c4 : Nat, ∃ r10 : Int, e_11 = .returned (.tuple #[(.slice r_a4 r_l4 r_c4), (.int .i64 r10)]) ∧
    (Calls Try.prog N_segment_Gaps #[(.slice r_a2 r_l2 r_c2), (.int .i64 (1 : Int)), (.int .i64 (100 : Int))] w19 fun e_12 w20 =>
    ∃ r_a5 : Option Addr, ∃ r_l5 : Nat, ∃ r_c5 : Nat, ∃ r11 : Int, e_12 = .returned (.tuple #[(.slice r_a5 r_l5 r_c5), (.int .i64 r11)]) ∧
    (Calls Try.prog N_segment_Gaps #[(.slice r_a5 r_l5 r_c5), (.int .i64 (1 : Int)), (.int .i64 (100 : Int))] w20 fun e_13 w21 =>
    ∃ r_a6 : Option Addr, ∃ r_l6 : Nat, ∃ r_c6 : Nat, ∃ r12 : Int, e_13 = .returned (.tuple #[(.slice r_a6 r_l6 r_c6), (.int .i64 r12)]) ∧
    (Calls Try.prog N_made_Mod #[(.int .i64 at1), (.int .i64 (100 : Int))] w21 fun e_14 w22 =>
    ∃ r13 : Int, e_14 = .returned (.int .i64 r13) ∧
    (∃ J : Bool → World → Prop,
    (∀ (_junk : Env) (in1 : Bool) (w28 : World), J in1 w28 →
      (Calls Try.prog N_law18_awake #[] w28 fun e_18 w29 =>
      ∃ r17 : Bool, e_18 = .returned (.bool r17) ∧
      (bsplit r17
        ((bsplit (decide (r7 = (0 : Int)))
          ((bsplit (decide (r8 = (0 : Int)))
            ((bsplit (decide (r9 = (0 : Int)))
              ((bsplit (decide (r10 = (0 : Int)))
                ((bsplit (decide (r11 = (0 : Int)))
                  ((bsplit (decide (r12 = (0 : Int)))
                    ((Calls Try.prog N_ref18_Normal #[(.slice r_a2 r_l2 r_c2)] w29 fun e_19 w30 =>
                    ∃ r18 : Bool, e_19 = .returned (.bool r18) ∧
                    (bsplit r18
                      ((Calls Try.prog N_ref18_SameRanges #[(.slice r_a2 r_l2 r_c2), (.slice r_a4 r_l4 r_c4)] w30 fun e_20 w31 =>
                      ∃ r19 : Bool, e_20 = .returned (.bool r19) ∧
                      (bsplit r19
                        ((Calls Try.prog N_law18_covers #[(.slice r_a2 r_l2 r_c2), (.int .i64 r13)] w31 fun e_21 w32 =>
                        ∃ r20 : Bool, e_21 = .returned (.bool r20) ∧
                        (bsplit (r20 == in1)
                          ((Calls Try.prog N_law18_covers #[(.slice r_a5 r_l5 r_c5), (.int .i64 r13)] w32 fun e_22 w33 =>
                          ∃ r21 : Bool, e_22 = .returned (.bool r21) ∧
                          (bsplit (!(r21 == in1))
                            ((Calls Try.prog N_ref18_SameRanges #[(.slice r_a6 r_l6 r_c6), (.slice r_a2 r_l2 r_c2)] w33 fun e_23 w34 =>
                            ∃ r22 : Bool, e_23 = .returned (.bool r22) ∧
                            R (.bool r22) w34))
                            (R (.bool false) w33))))
                          (R (.bool false) w32))))
                        (R (.bool false) w31))))
                      (R (.bool false) w30))))
                    (R (.bool false) w29)))
                  (R (.bool false) w29)))
                (R (.bool false) w29)))
              (R (.bool false) w29)))
            (R (.bool false) w29)))
          (R (.bool false) w29)))
        (R (.bool false) w29)))) ∧
    (Calls Try.prog N_law18_covers #[(.slice r_a r_l r_c), (.int .i64 r13)] w22 fun e_15 w23 =>
    ∃ r14 : Bool, e_15 = .returned (.bool r14) ∧
    (bsplit r14
      (J true w23)
      ((∃ x_04 : Int, ∃ x_14 : Int, ∃ x_24 : Int, cellsAt w23 ⟨b, 0, none⟩ 0 [(.int .i64 x_04), (.int .i64 x_14), (.int .i64 x_24)] ∧
      (kAlloc w23 #[(.int .i64 x_04), (.int .i64 x_14), (.int .i64 x_24)] Ty_api_Range fun b2 w24 =>
      (Calls Try.prog N_law18_covers #[(.slice (some ⟨b2, 0, none⟩) 1 1), (.int .i64 r13)] w24 fun e_16 w25 =>
      ∃ r15 : Bool, e_16 = .returned (.bool r15) ∧
      (bsplit r15
        (J true w25)
        ((∃ x_05 : Int, ∃ x_15 : Int, ∃ x_25 : Int, cellsAt w25 ⟨b1, 0, none⟩ 0 [(.int .i64 x_05), (.int .i64 x_15), (.int .i64 x_25)] ∧
        (kAlloc w25 #[(.int .i64 x_05), (.int .i64 x_15), (.int .i64 x_25)] Ty_api_Range fun b3 w26 =>
        (Calls Try.prog N_law18_covers #[(.slice (some ⟨b3, 0, none⟩) 1 1), (.int .i64 r13)] w26 fun e_17 w27 =>
        ∃ r16 : Bool, e_17 = .returned (.bool r16) ∧
        J r16 w27)))))))))))))))))))))))))))))))))))))))))))))))))))
theorem F_law18_SegmentCovers_eq (t_a : Option Addr) (t_l : Nat) (t_c : Nat) (at1 : Int) (w : World) (R : Value → World → Prop) : sxFn Try.prog TT h_law18_SegmentCovers Try.f8 #[(.slice t_a t_l t_c), (.int .i64 at1)] w R = F_law18_SegmentCovers t_a t_l t_c at1 w R := by kernel_rfl
theorem F_law18_SegmentCovers_ok {R : Ending → World → Prop} (t_a : Option Addr) (t_l : Nat) (t_c : Nat) (at1 : Int) (w : World) (h : F_law18_SegmentCovers t_a t_l t_c at1 w fun v w' => R (.returned v) w') : Calls Try.prog N_law18_SegmentCovers #[(.slice t_a t_l t_c), (.int .i64 at1)] w R :=
  calls_of (f := 8) follows_ok Try.func8 (Eq.mpr (F_law18_SegmentCovers_eq t_a t_l t_c at1 w _) h)

def h_made_Light : H := (.seq .reg (.seq .reg .leaf))
def F_made_Light (t_a : Option Addr) (t_l : Nat) (t_c : Nat) (w : World) (R : Value → World → Prop) : Prop :=
  (kLet (decide ((t_l : Int) ≤ (400 : Int))) fun x =>
  R (.bool x) w)
theorem F_made_Light_eq (t_a : Option Addr) (t_l : Nat) (t_c : Nat) (w : World) (R : Value → World → Prop) : sxFn Try.prog TT h_made_Light Try.f9 #[(.slice t_a t_l t_c)] w R = F_made_Light t_a t_l t_c w R := by kernel_rfl
theorem F_made_Light_ok {R : Ending → World → Prop} (t_a : Option Addr) (t_l : Nat) (t_c : Nat) (w : World) (h : F_made_Light t_a t_l t_c w fun v w' => R (.returned v) w') : Calls Try.prog N_made_Light #[(.slice t_a t_l t_c)] w R :=
  calls_of (f := 9) follows_ok Try.func9 (Eq.mpr (F_made_Light_eq t_a t_l t_c w _) h)

def h_law18_awake : H := (.seq .reg (.seq .reg (.seq .reg (.seq .reg .leaf))))
def F_law18_awake  (w : World) (R : Value → World → Prop) : Prop :=
  (kAlloc w #[(.int .u8 (1 : Int)), (.int .u8 (2 : Int)), (.int .u8 (3 : Int))] Ty_uint8 fun b w1 =>
  (Calls Try.prog N_segment_Cut #[(.int .i64 (5 : Int)), (.agg #[.int .i64 (3 : Int), .int .i64 (0 : Int), .int .i64 (0 : Int), .int .i64 (0 : Int), .slice (some ⟨b, 0, none⟩) 3 3]), (.int .i64 (4 : Int))] w1 fun e_ w2 =>
  ∃ r_0 : Int, ∃ r_1 : Int, ∃ r_2 : Int, ∃ r_3 : Int, ∃ r_4_a : Option Addr, ∃ r_4_l : Nat, ∃ r_4_c : Nat, ∃ r_01 : Int, ∃ r_11 : Int, ∃ r_21 : Int, ∃ r_31 : Int, ∃ r_4_a1 : Option Addr, ∃ r_4_l1 : Nat, ∃ r_4_c1 : Nat, ∃ r : Int, e_ = .returned (.tuple #[(.agg #[.int .i64 r_0, .int .i64 r_1, .int .i64 r_2, .int .i64 r_3, .slice r_4_a r_4_l r_4_c]), (.agg #[.int .i64 r_01, .int .i64 r_11, .int .i64 r_21, .int .i64 r_31, .slice r_4_a1 r_4_l1 r_4_c1]), (.int .i64 r)]) ∧
  (kAlloc w2 #[.int .i64 (0 : Int), .int .i64 (0 : Int), .int .i64 (0 : Int), .int .i64 (0 : Int), .slice none 0 0] Ty_api_Piece fun b1 w3 =>
  (kAlloc w3 #[.int .i64 (0 : Int), .int .i64 (0 : Int), .int .i64 (0 : Int), .int .i64 (0 : Int), .slice none 0 0] Ty_api_Piece fun b2 w4 =>
  (sxStore w4 ⟨b1, 0, none⟩ 0 [(.int .i64 r_0), (.int .i64 r_1), (.int .i64 r_2), (.int .i64 r_3), (.slice r_4_a r_4_l r_4_c)] fun w5 =>
  (sxStore w5 ⟨b2, 0, none⟩ 0 [(.int .i64 r_01), (.int .i64 r_11), (.int .i64 r_21), (.int .i64 r_31), (.slice r_4_a1 r_4_l1 r_4_c1)] fun w6 =>
  (∃ x_0 : Int, ∃ x_1 : Int, ∃ x_2 : Int, ∃ x_3 : Int, ∃ x_4_a : Option Addr, ∃ x_4_l : Nat, ∃ x_4_c : Nat, cellsAt w6 ⟨b2, 0, none⟩ 0 [(.int .i64 x_0), (.int .i64 x_1), (.int .i64 x_2), (.int .i64 x_3), (.slice x_4_a x_4_l x_4_c)] ∧
  (Calls Try.prog N_segment_Encode #[(.int .i64 (5 : Int)), (.agg #[.int .i64 x_0, .int .i64 x_1, .int .i64 x_2, .int .i64 x_3, .slice x_4_a x_4_l x_4_c])] w6 fun e_1 w7 =>
  ∃ r_a : Option Addr, ∃ r_l : Nat, ∃ r_c : Nat, ∃ r1 : Int, e_1 = .returned (.tuple #[(.slice r_a r_l r_c), (.int .i64 r1)]) ∧
  (bsplit (decide (r = (0 : Int)))
    ((bsplit (decide (r1 = (0 : Int)))
      ((kLd w7 ⟨b1, 1, none⟩ .i64 fun x =>
      (bsplit (decide (x = (1 : Int)))
        ((kLdS w7 ⟨b1, 4, none⟩ fun x_a x_l x_c =>
        (bsplit (decide ((x_l : Int) = (2 : Int)))
          ((kLd w7 ⟨b2, 1, none⟩ .i64 fun x1 =>
          (bsplit (decide (x1 = (2 : Int)))
            ((kLd w7 ⟨b2, 3, none⟩ .i64 fun x2 =>
            (bsplit (decide (x2 = (2 : Int)))
              ((bsplit (decide ((r_l : Int) = (5 : Int)))
                ((kIx r_a r_l (0 : Int) fun b3 =>
                (kLd w7 (b3.add ((0 : Int).toNat * 1)) .u8 fun x3 =>
                (kLet (decide (x3 = (160 : Int))) fun x4 =>
                R (.bool x4) w7))))
                (R (.bool false) w7)))
              (R (.bool false) w7))))
            (R (.bool false) w7))))
          (R (.bool false) w7))))
        (R (.bool false) w7))))
      (R (.bool false) w7)))
    (R (.bool false) w7))))))))))
theorem F_law18_awake_eq  (w : World) (R : Value → World → Prop) : sxFn Try.prog TT h_law18_awake Try.f10 #[] w R = F_law18_awake  w R := by kernel_rfl
theorem F_law18_awake_ok {R : Ending → World → Prop}  (w : World) (h : F_law18_awake  w fun v w' => R (.returned v) w') : Calls Try.prog N_law18_awake #[] w R :=
  calls_of (f := 10) follows_ok Try.func10 (Eq.mpr (F_law18_awake_eq  w _) h)

def h_made_Roll : H := (.seq .reg (.seq .reg .leaf))
def F_made_Roll (t_a : Option Addr) (t_l : Nat) (t_c : Nat) (w : World) (R : Value → World → Prop) : Prop :=
  (kAlloc w #[(.slice t_a t_l t_c), (.int .i64 (0 : Int))] Ty_radiolinkmade_Dice fun b w1 =>
  R (.pointer (some ⟨b, 0, none⟩)) w1)
theorem F_made_Roll_eq (t_a : Option Addr) (t_l : Nat) (t_c : Nat) (w : World) (R : Value → World → Prop) : sxFn Try.prog TT h_made_Roll Try.f11 #[(.slice t_a t_l t_c)] w R = F_made_Roll t_a t_l t_c w R := by kernel_rfl
theorem F_made_Roll_ok {R : Ending → World → Prop} (t_a : Option Addr) (t_l : Nat) (t_c : Nat) (w : World) (h : F_made_Roll t_a t_l t_c w fun v w' => R (.returned v) w') : Calls Try.prog N_made_Roll #[(.slice t_a t_l t_c)] w R :=
  calls_of (f := 11) follows_ok Try.func11 (Eq.mpr (F_made_Roll_eq t_a t_l t_c w _) h)

def h_made_Dice_Bits : H := (.seq .reg (.seq .reg .leaf))
def F_made_Dice_Bits (d_b : Nat) (d_o : Nat) (w : World) (R : Value → World → Prop) : Prop :=
  (kAlloc w #[(.int .i64 (5 : Int)), (.int .i64 (5 : Int)), (.int .i64 (6 : Int)), (.int .i64 (9 : Int))] Ty_int fun b w1 =>
  (Calls Try.prog N_made_Dice_Next #[(.pointer (some ⟨d_b, d_o, none⟩)), (.int .i64 (4 : Int))] w1 fun e_ w2 =>
  ∃ r : Int, e_ = .returned (.int .i64 r) ∧
  (kIx (some ⟨b, 0, none⟩) 4 r fun b1 =>
  (kLd w2 (b1.add (r.toNat * 1)) .i64 fun x =>
  R (.int .i64 x) w2))))
theorem F_made_Dice_Bits_eq (d_b : Nat) (d_o : Nat) (w : World) (R : Value → World → Prop) : sxFn Try.prog TT h_made_Dice_Bits Try.f12 #[(.pointer (some ⟨d_b, d_o, none⟩))] w R = F_made_Dice_Bits d_b d_o w R := by kernel_rfl
theorem F_made_Dice_Bits_ok {R : Ending → World → Prop} (d_b : Nat) (d_o : Nat) (w : World) (h : F_made_Dice_Bits d_b d_o w fun v w' => R (.returned v) w') : Calls Try.prog N_made_Dice_Bits #[(.pointer (some ⟨d_b, d_o, none⟩))] w R :=
  calls_of (f := 12) follows_ok Try.func12 (Eq.mpr (F_made_Dice_Bits_eq d_b d_o w _) h)

def h_made_Dice_Piece : H := (.seq .reg (.seq .reg (.seq (.seq .reg (.cond .reg .leaf)) (.seq .reg .leaf))))
def F_made_Dice_Piece (d_b : Nat) (d_o : Nat) (bits : Int) (w : World) (R : Value → World → Prop) : Prop :=
  (kAlloc w #[.int .i64 (0 : Int), .int .i64 (0 : Int), .int .i64 (0 : Int), .int .i64 (0 : Int), .slice none 0 0] Ty_api_Piece fun b w1 =>
  (kW .u64 (bits) fun x =>
  (0 ≤ x ∧ (kW .i64 ((1 : Int) * 2 ^ (min x.toNat (IntKind.bits .i64))) fun x1 =>
  (Calls Try.prog N_made_Dice_Next #[(.pointer (some ⟨d_b, d_o, none⟩)), (.int .i64 x1)] w1 fun e_ w2 =>
  ∃ r : Int, e_ = .returned (.int .i64 r) ∧
  (Calls Try.prog N_made_Dice_Next #[(.pointer (some ⟨d_b, d_o, none⟩)), (.int .i64 (4 : Int))] w2 fun e_1 w3 =>
  ∃ r1 : Int, e_1 = .returned (.int .i64 r1) ∧
  (Calls Try.prog N_made_Dice_Next #[(.pointer (some ⟨d_b, d_o, none⟩)), (.int .i64 (2 : Int))] w3 fun e_2 w4 =>
  ∃ r2 : Int, e_2 = .returned (.int .i64 r2) ∧
  (Calls Try.prog N_made_Dice_Some #[(.pointer (some ⟨d_b, d_o, none⟩)), (.int .i64 (20 : Int))] w4 fun e_3 w5 =>
  ∃ r_a : Option Addr, ∃ r_l : Nat, ∃ r_c : Nat, e_3 = .returned (.slice r_a r_l r_c) ∧
  (kAlloc w5 #[.int .i64 (0 : Int), .int .i64 (0 : Int), .int .i64 (0 : Int), .int .i64 (0 : Int), .slice none 0 0] Ty_api_Piece fun b1 w6 =>
  (sxStore w6 ⟨b1, 0, none⟩ 0 [(.int .i64 r), (.int .i64 r1), (.int .i64 r2), (.int .i64 (0 : Int)), (.slice r_a r_l r_c)] fun w7 =>
  (kLd w7 ⟨b1, 1, none⟩ .i64 fun x2 =>
  (bsplit (decide (x2 = (2 : Int)))
    ((Calls Try.prog N_made_Dice_Next #[(.pointer (some ⟨d_b, d_o, none⟩)), (.int .i64 (30 : Int))] w7 fun e_4 w8 =>
      ∃ r3 : Int, e_4 = .returned (.int .i64 r3) ∧
      (kW .i64 ((1 : Int) + r3) fun x3 =>
      (kSet w8 ⟨b1, 3, none⟩ (.int .i64 x3) fun w9 =>
      (∃ x_0 : Int, ∃ x_1 : Int, ∃ x_2 : Int, ∃ x_3 : Int, ∃ x_4_a : Option Addr, ∃ x_4_l : Nat, ∃ x_4_c : Nat, cellsAt w9 ⟨b1, 0, none⟩ 0 [(.int .i64 x_0), (.int .i64 x_1), (.int .i64 x_2), (.int .i64 x_3), (.slice x_4_a x_4_l x_4_c)] ∧
      (sxStore w9 ⟨b, 0, none⟩ 0 [(.int .i64 x_0), (.int .i64 x_1), (.int .i64 x_2), (.int .i64 x_3), (.slice x_4_a x_4_l x_4_c)] fun w10 =>
      (∃ r_0 : Int, ∃ r_1 : Int, ∃ r_2 : Int, ∃ r_3 : Int, ∃ r_4_a : Option Addr, ∃ r_4_l : Nat, ∃ r_4_c : Nat, cellsAt w10 ⟨b, 0, none⟩ 0 [(.int .i64 r_0), (.int .i64 r_1), (.int .i64 r_2), (.int .i64 r_3), (.slice r_4_a r_4_l r_4_c)] ∧
      R (.agg #[.int .i64 r_0, .int .i64 r_1, .int .i64 r_2, .int .i64 r_3, .slice r_4_a r_4_l r_4_c]) w10)))))))
    ((kLd w7 ⟨b1, 1, none⟩ .i64 fun x4 =>
    (bsplit (decide (x4 = (3 : Int)))
      ((Calls Try.prog N_made_Dice_Next #[(.pointer (some ⟨d_b, d_o, none⟩)), (.int .i64 (30 : Int))] w7 fun e_5 w12 =>
      ∃ r4 : Int, e_5 = .returned (.int .i64 r4) ∧
      (kW .i64 ((1 : Int) + r4) fun x5 =>
      (kSet w12 ⟨b1, 3, none⟩ (.int .i64 x5) fun w13 =>
      (∃ x_02 : Int, ∃ x_12 : Int, ∃ x_22 : Int, ∃ x_32 : Int, ∃ x_4_a2 : Option Addr, ∃ x_4_l2 : Nat, ∃ x_4_c2 : Nat, cellsAt w13 ⟨b1, 0, none⟩ 0 [(.int .i64 x_02), (.int .i64 x_12), (.int .i64 x_22), (.int .i64 x_32), (.slice x_4_a2 x_4_l2 x_4_c2)] ∧
      (sxStore w13 ⟨b, 0, none⟩ 0 [(.int .i64 x_02), (.int .i64 x_12), (.int .i64 x_22), (.int .i64 x_32), (.slice x_4_a2 x_4_l2 x_4_c2)] fun w14 =>
      (∃ r_02 : Int, ∃ r_12 : Int, ∃ r_22 : Int, ∃ r_32 : Int, ∃ r_4_a2 : Option Addr, ∃ r_4_l2 : Nat, ∃ r_4_c2 : Nat, cellsAt w14 ⟨b, 0, none⟩ 0 [(.int .i64 r_02), (.int .i64 r_12), (.int .i64 r_22), (.int .i64 r_32), (.slice r_4_a2 r_4_l2 r_4_c2)] ∧
      R (.agg #[.int .i64 r_02, .int .i64 r_12, .int .i64 r_22, .int .i64 r_32, .slice r_4_a2 r_4_l2 r_4_c2]) w14)))))))
      ((∃ x_03 : Int, ∃ x_13 : Int, ∃ x_23 : Int, ∃ x_33 : Int, ∃ x_4_a3 : Option Addr, ∃ x_4_l3 : Nat, ∃ x_4_c3 : Nat, cellsAt w7 ⟨b1, 0, none⟩ 0 [(.int .i64 x_03), (.int .i64 x_13), (.int .i64 x_23), (.int .i64 x_33), (.slice x_4_a3 x_4_l3 x_4_c3)] ∧
      (sxStore w7 ⟨b, 0, none⟩ 0 [(.int .i64 x_03), (.int .i64 x_13), (.int .i64 x_23), (.int .i64 x_33), (.slice x_4_a3 x_4_l3 x_4_c3)] fun w15 =>
      (∃ r_03 : Int, ∃ r_13 : Int, ∃ r_23 : Int, ∃ r_33 : Int, ∃ r_4_a3 : Option Addr, ∃ r_4_l3 : Nat, ∃ r_4_c3 : Nat, cellsAt w15 ⟨b, 0, none⟩ 0 [(.int .i64 r_03), (.int .i64 r_13), (.int .i64 r_23), (.int .i64 r_33), (.slice r_4_a3 r_4_l3 r_4_c3)] ∧
      R (.agg #[.int .i64 r_03, .int .i64 r_13, .int .i64 r_23, .int .i64 r_33, .slice r_4_a3 r_4_l3 r_4_c3]) w15)))))))))))))))))))
theorem F_made_Dice_Piece_eq (d_b : Nat) (d_o : Nat) (bits : Int) (w : World) (R : Value → World → Prop) : sxFn Try.prog TT h_made_Dice_Piece Try.f13 #[(.pointer (some ⟨d_b, d_o, none⟩)), (.int .i64 bits)] w R = F_made_Dice_Piece d_b d_o bits w R := by kernel_rfl
theorem F_made_Dice_Piece_ok {R : Ending → World → Prop} (d_b : Nat) (d_o : Nat) (bits : Int) (w : World) (h : F_made_Dice_Piece d_b d_o bits w fun v w' => R (.returned v) w') : Calls Try.prog N_made_Dice_Piece #[(.pointer (some ⟨d_b, d_o, none⟩)), (.int .i64 bits)] w R :=
  calls_of (f := 13) follows_ok Try.func13 (Eq.mpr (F_made_Dice_Piece_eq d_b d_o bits w _) h)

def h_made_Dice_Next : H := (.seq .reg (.seq (.seq (.draw .no (.one 0 .stable (.one 1 .stable (.one 2 .stable (.one 3 .stable (.one 4 .stable (.one 5 .stable (.one 6 .stable (.one 7 .stable (.one 8 .stable (.one 9 .stable .nil))))))))))) (.cond (.seq .reg .leaf) .leaf)) (.seq .reg (.seq (.draw .blk (.one 0 .pre (.one 1 .pre (.one 2 .pre (.one 3 .pre (.one 4 .pre (.one 5 .pre (.one 6 .pre (.one 7 .pre (.one 8 .pre (.one 9 .pre (.one 10 .pre (.one 11 .pre (.one 12 .keep (.one 13 .stable .nil))))))))))))))) .leaf))))
def F_made_Dice_Next (d_b : Nat) (d_o : Nat) (n : Int) (w : World) (R : Value → World → Prop) : Prop :=
  (kDrew w fun w1 =>
  (kLd w1 ⟨d_b, d_o + 1, none⟩ .i64 fun x =>
  (kLdS w1 ⟨d_b, d_o, none⟩ fun x_a x_l x_c =>
  (bsplit (decide (x ≥ (x_l : Int)))
    (R (.int .i64 (0 : Int)) w1)
    ((kLd w1 ⟨d_b, d_o + 1, none⟩ .i64 fun x1 =>
    (kW .i64 (x1 + (1 : Int)) fun x2 =>
    (kSet w1 ⟨d_b, d_o + 1, none⟩ (.int .i64 x2) fun w2 =>
    (kDrew w2 fun w3 =>
    (∃ S : Nat → Prop,
    (kLdS w3 ⟨d_b, d_o, none⟩ fun x_a1 x_l1 x_c1 =>
    (kLd w3 ⟨d_b, d_o + 1, none⟩ .i64 fun x3 =>
    (kW .i64 (x3 - (1 : Int)) fun x4 =>
    (kIx x_a1 x_l1 x4 fun b =>
    (kLd w3 (b.add (x4.toNat * 1)) .i64 fun x5 =>
    (Calls Try.prog N_made_Mod #[(.int .i64 x5), (.int .i64 n)] w3 fun e_ w4 =>
    ∃ r : Int, e_ = .returned (.int .i64 r) ∧
    (KeepsB S w3 w4 ∧ R (.int .i64 r) w4)))))))))))))))))
theorem F_made_Dice_Next_eq (d_b : Nat) (d_o : Nat) (n : Int) (w : World) (R : Value → World → Prop) : sxFn Try.prog TT h_made_Dice_Next Try.f14 #[(.pointer (some ⟨d_b, d_o, none⟩)), (.int .i64 n)] w R = F_made_Dice_Next d_b d_o n w R := by kernel_rfl
theorem F_made_Dice_Next_ok {R : Ending → World → Prop} (d_b : Nat) (d_o : Nat) (n : Int) (w : World) (h : F_made_Dice_Next d_b d_o n w fun v w' => R (.returned v) w') : Calls Try.prog N_made_Dice_Next #[(.pointer (some ⟨d_b, d_o, none⟩)), (.int .i64 n)] w R :=
  calls_of (f := 14) follows_ok Try.func14 (Eq.mpr (F_made_Dice_Next_eq d_b d_o n w _) h)

def h_segment_Cut : H := (.seq .reg (.seq .reg (.seq (.block (.seq .reg (.cond (.seq .reg .leaf) (.seq .reg (.cond (.seq .reg .leaf) .leaf))))) (.seq .reg (.seq .reg (.seq (.seq .reg (.cond (.seq .reg .leaf) .leaf)) (.seq .reg (.seq .reg (.seq (.draw .blk (.one 0 .stable (.one 1 .stable (.one 2 .stable (.one 3 .stable (.one 4 .pre (.one 5 .pre (.one 6 .pre (.one 7 .pre (.one 9 .stable (.one 8 .keep (.one 10 .keep (.one 11 .stable (.one 12 .last .nil)))))))))))))) (.seq .reg (.seq (.draw .blk (.one 0 .pre (.one 1 .pre (.one 4 .stable (.one 5 .stable (.one 2 .keep (.one 3 .keep (.one 8 .stable (.one 6 .keep (.one 7 .keep (.one 9 .keep (.one 10 .stable (.one 11 .last .nil))))))))))))) (.seq (.draw .blk (.one 0 .pre (.one 1 .stable (.one 2 .keep (.one 3 .keep (.one 4 .stable .nil)))))) .leaf))))))))))))
def F_segment_Cut (bits : Int) (p_0 : Int) (p_1 : Int) (p_2 : Int) (p_3 : Int) (p_4_a : Option Addr) (p_4_l : Nat) (p_4_c : Nat) (size : Int) (w : World) (R : Value → World → Prop) : Prop :=
  (kAlloc w #[(.int .i64 p_0), (.int .i64 p_1), (.int .i64 p_2), (.int .i64 p_3), (.slice p_4_a p_4_l p_4_c)] Ty_api_Piece fun b w1 =>
  (kAlloc w1 #[.int .i64 (0 : Int), .int .i64 (0 : Int), .int .i64 (0 : Int), .int .i64 (0 : Int), .slice none 0 0] Ty_api_Piece fun b1 w2 =>
  (kAlloc w2 #[.int .i64 (0 : Int), .int .i64 (0 : Int), .int .i64 (0 : Int), .int .i64 (0 : Int), .slice none 0 0] Ty_api_Piece fun b2 w3 =>
  (kLd w3 ⟨b, 1, none⟩ .i64 fun x =>
  (Calls Try.prog N_segment_head #[(.int .i64 x)] w3 fun e_ w4 =>
  ∃ r : Int, e_ = .returned (.int .i64 r) ∧
  (∃ x_0 : Int, ∃ x_1 : Int, ∃ x_2 : Int, ∃ x_3 : Int, ∃ x_4_a : Option Addr, ∃ x_4_l : Nat, ∃ x_4_c : Nat, cellsAt w4 ⟨b, 0, none⟩ 0 [(.int .i64 x_0), (.int .i64 x_1), (.int .i64 x_2), (.int .i64 x_3), (.slice x_4_a x_4_l x_4_c)] ∧
  (Calls Try.prog N_segment_Valid #[(.int .i64 bits), (.agg #[.int .i64 x_0, .int .i64 x_1, .int .i64 x_2, .int .i64 x_3, .slice x_4_a x_4_l x_4_c])] w4 fun e_1 w5 =>
  ∃ r1 : Bool, e_1 = .returned (.bool r1) ∧
  (bsplit (!r1)
    ((sxStore w5 ⟨b1, 0, none⟩ 0 [(.int .i64 (0 : Int)), (.int .i64 (0 : Int)), (.int .i64 (0 : Int)), (.int .i64 (0 : Int)), (.slice none 0 0)] fun w6 =>
    (sxStore w6 ⟨b2, 0, none⟩ 0 [(.int .i64 (0 : Int)), (.int .i64 (0 : Int)), (.int .i64 (0 : Int)), (.int .i64 (0 : Int)), (.slice none 0 0)] fun w7 =>
    (∃ r_0 : Int, ∃ r_1 : Int, ∃ r_2 : Int, ∃ r_3 : Int, ∃ r_4_a : Option Addr, ∃ r_4_l : Nat, ∃ r_4_c : Nat, cellsAt w7 ⟨b1, 0, none⟩ 0 [(.int .i64 r_0), (.int .i64 r_1), (.int .i64 r_2), (.int .i64 r_3), (.slice r_4_a r_4_l r_4_c)] ∧
    (∃ r_01 : Int, ∃ r_11 : Int, ∃ r_21 : Int, ∃ r_31 : Int, ∃ r_4_a1 : Option Addr, ∃ r_4_l1 : Nat, ∃ r_4_c1 : Nat, cellsAt w7 ⟨b2, 0, none⟩ 0 [(.int .i64 r_01), (.int .i64 r_11), (.int .i64 r_21), (.int .i64 r_31), (.slice r_4_a1 r_4_l1 r_4_c1)] ∧
    R (.tuple #[(.agg #[.int .i64 r_0, .int .i64 r_1, .int .i64 r_2, .int .i64 r_3, .slice r_4_a r_4_l r_4_c]), (.agg #[.int .i64 r_01, .int .i64 r_11, .int .i64 r_21, .int .i64 r_31, .slice r_4_a1 r_4_l1 r_4_c1]), (.int .i64 (1 : Int))]) w7)))))
    ((kW .i64 (r + (1 : Int)) fun x1 =>
    (kLet (decide (size < x1)) fun x2 =>
    (bsplit x2
      ((sxStore w5 ⟨b1, 0, none⟩ 0 [(.int .i64 (0 : Int)), (.int .i64 (0 : Int)), (.int .i64 (0 : Int)), (.int .i64 (0 : Int)), (.slice none 0 0)] fun w8 =>
      (sxStore w8 ⟨b2, 0, none⟩ 0 [(.int .i64 (0 : Int)), (.int .i64 (0 : Int)), (.int .i64 (0 : Int)), (.int .i64 (0 : Int)), (.slice none 0 0)] fun w9 =>
      (∃ r_02 : Int, ∃ r_12 : Int, ∃ r_22 : Int, ∃ r_32 : Int, ∃ r_4_a2 : Option Addr, ∃ r_4_l2 : Nat, ∃ r_4_c2 : Nat, cellsAt w9 ⟨b1, 0, none⟩ 0 [(.int .i64 r_02), (.int .i64 r_12), (.int .i64 r_22), (.int .i64 r_32), (.slice r_4_a2 r_4_l2 r_4_c2)] ∧
      (∃ r_03 : Int, ∃ r_13 : Int, ∃ r_23 : Int, ∃ r_33 : Int, ∃ r_4_a3 : Option Addr, ∃ r_4_l3 : Nat, ∃ r_4_c3 : Nat, cellsAt w9 ⟨b2, 0, none⟩ 0 [(.int .i64 r_03), (.int .i64 r_13), (.int .i64 r_23), (.int .i64 r_33), (.slice r_4_a3 r_4_l3 r_4_c3)] ∧
      R (.tuple #[(.agg #[.int .i64 r_02, .int .i64 r_12, .int .i64 r_22, .int .i64 r_32, .slice r_4_a2 r_4_l2 r_4_c2]), (.agg #[.int .i64 r_03, .int .i64 r_13, .int .i64 r_23, .int .i64 r_33, .slice r_4_a3 r_4_l3 r_4_c3]), (.int .i64 (15 : Int))]) w9)))))
      ((∃ x_01 : Int, ∃ x_11 : Int, ∃ x_21 : Int, ∃ x_31 : Int, ∃ x_4_a1 : Option Addr, ∃ x_4_l1 : Nat, ∃ x_4_c1 : Nat, cellsAt w5 ⟨b, 0, none⟩ 0 [(.int .i64 x_01), (.int .i64 x_11), (.int .i64 x_21), (.int .i64 x_31), (.slice x_4_a1 x_4_l1 x_4_c1)] ∧
      (sxStore w5 ⟨b1, 0, none⟩ 0 [(.int .i64 x_01), (.int .i64 x_11), (.int .i64 x_21), (.int .i64 x_31), (.slice x_4_a1 x_4_l1 x_4_c1)] fun w10 =>
      (kLdS w10 ⟨b, 4, none⟩ fun x_a x_l x_c =>
      (Calls Try.prog N_slices_Clone_Sbyte_byte #[(.slice x_a x_l x_c)] w10 fun e_2 w11 =>
      ∃ r_a : Option Addr, ∃ r_l : Nat, ∃ r_c : Nat, e_2 = .returned (.slice r_a r_l r_c) ∧
      (kSet w11 ⟨b1, 4, none⟩ (.slice r_a r_l r_c) fun w12 =>
      (kLdS w12 ⟨b, 4, none⟩ fun x_a1 x_l1 x_c1 =>
      (kW .i64 (r + (x_l1 : Int)) fun x3 =>
      (bsplit (decide (x3 ≤ size))
        ((∃ x_02 : Int, ∃ x_12 : Int, ∃ x_22 : Int, ∃ x_32 : Int, ∃ x_4_a2 : Option Addr, ∃ x_4_l2 : Nat, ∃ x_4_c2 : Nat, cellsAt w12 ⟨b1, 0, none⟩ 0 [(.int .i64 x_02), (.int .i64 x_12), (.int .i64 x_22), (.int .i64 x_32), (.slice x_4_a2 x_4_l2 x_4_c2)] ∧
        (sxStore w12 ⟨b1, 0, none⟩ 0 [(.int .i64 x_02), (.int .i64 x_12), (.int .i64 x_22), (.int .i64 x_32), (.slice x_4_a2 x_4_l2 x_4_c2)] fun w13 =>
        (sxStore w13 ⟨b2, 0, none⟩ 0 [(.int .i64 (0 : Int)), (.int .i64 (0 : Int)), (.int .i64 (0 : Int)), (.int .i64 (0 : Int)), (.slice none 0 0)] fun w14 =>
        (∃ r_04 : Int, ∃ r_14 : Int, ∃ r_24 : Int, ∃ r_34 : Int, ∃ r_4_a4 : Option Addr, ∃ r_4_l4 : Nat, ∃ r_4_c4 : Nat, cellsAt w14 ⟨b1, 0, none⟩ 0 [(.int .i64 r_04), (.int .i64 r_14), (.int .i64 r_24), (.int .i64 r_34), (.slice r_4_a4 r_4_l4 r_4_c4)] ∧
        (∃ r_05 : Int, ∃ r_15 : Int, ∃ r_25 : Int, ∃ r_35 : Int, ∃ r_4_a5 : Option Addr, ∃ r_4_l5 : Nat, ∃ r_4_c5 : Nat, cellsAt w14 ⟨b2, 0, none⟩ 0 [(.int .i64 r_05), (.int .i64 r_15), (.int .i64 r_25), (.int .i64 r_35), (.slice r_4_a5 r_4_l5 r_4_c5)] ∧
        R (.tuple #[(.agg #[.int .i64 r_04, .int .i64 r_14, .int .i64 r_24, .int .i64 r_34, .slice r_4_a4 r_4_l4 r_4_c4]), (.agg #[.int .i64 r_05, .int .i64 r_15, .int .i64 r_25, .int .i64 r_35, .slice r_4_a5 r_4_l5 r_4_c5]), (.int .i64 (0 : Int))]) w14))))))
        ((kW .i64 (size - r) fun x4 =>
        (∃ x_03 : Int, ∃ x_13 : Int, ∃ x_23 : Int, ∃ x_33 : Int, ∃ x_4_a3 : Option Addr, ∃ x_4_l3 : Nat, ∃ x_4_c3 : Nat, cellsAt w12 ⟨b, 0, none⟩ 0 [(.int .i64 x_03), (.int .i64 x_13), (.int .i64 x_23), (.int .i64 x_33), (.slice x_4_a3 x_4_l3 x_4_c3)] ∧
        (sxStore w12 ⟨b2, 0, none⟩ 0 [(.int .i64 x_03), (.int .i64 x_13), (.int .i64 x_23), (.int .i64 x_33), (.slice x_4_a3 x_4_l3 x_4_c3)] fun w15 =>
        (kDrew w15 fun w16 =>
        (∃ S : Nat → Prop,
        (S b ∧
        (kLd w16 ⟨b, 3, none⟩ .i64 fun x5 =>
        (kW .i64 (x5 + x4) fun x6 =>
        (kLdS w16 ⟨b, 4, none⟩ fun x_a2 x_l2 x_c2 =>
        ((0 ≤ x4 ∧ x4 ≤ ((x_l2 : Nat) : Int)) ∧ (Calls Try.prog N_slices_Clone_Sbyte_byte #[(.slice (slAddr x_c2 (x4.toNat) 1 x_a2) (x_l2 - x4.toNat) (x_c2 - x4.toNat))] w16 fun e_3 w17 =>
        ∃ r_a1 : Option Addr, ∃ r_l1 : Nat, ∃ r_c1 : Nat, e_3 = .returned (.slice r_a1 r_l1 r_c1) ∧
        (KeepsB S w16 w17 ∧ (kSet w17 ⟨b2, 3, none⟩ (.int .i64 x6) fun w18 =>
        (KeepsB S w16 w18 ∧ (kSet w18 ⟨b2, 4, none⟩ (.slice r_a1 r_l1 r_c1) fun w19 =>
        (kLdS w19 ⟨b1, 4, none⟩ fun x_a3 x_l3 x_c3 =>
        ((0 ≤ x4 ∧ x4 ≤ ((x_c3 : Nat) : Int)) ∧ ((0 ≤ x4 ∧ x4 ≤ ((x4.toNat : Nat) : Int)) ∧ (kSet w19 ⟨b1, 4, none⟩ (.slice (slAddr (x4.toNat) 0 1 x_a3) (x4.toNat - 0) (x4.toNat - 0)) fun w20 =>
        (kDrew w20 fun w21 =>
        (∃ S1 : Nat → Prop,
        (kLd w21 ⟨b, 1, none⟩ .i64 fun x7 =>
        (S1 b ∧
        (kLd w21 ⟨b, 1, none⟩ .i64 fun x8 =>
        (Calls Try.prog N_segment_begins #[(.int .i64 x7)] w21 fun e_4 w22 =>
        ∃ r2 : Bool, e_4 = .returned (.bool r2) ∧
        (KeepsB S1 w21 w22 ∧ (Calls Try.prog N_segment_Part #[(.bool r2), (.bool false)] w22 fun e_5 w23 =>
        ∃ r3 : Int, e_5 = .returned (.int .i64 r3) ∧
        (KeepsB S1 w21 w23 ∧ (Calls Try.prog N_segment_Ends #[(.int .i64 x8)] w23 fun e_6 w24 =>
        ∃ r4 : Bool, e_6 = .returned (.bool r4) ∧
        (KeepsB S1 w21 w24 ∧ (Calls Try.prog N_segment_Part #[(.bool false), (.bool r4)] w24 fun e_7 w25 =>
        ∃ r5 : Int, e_7 = .returned (.int .i64 r5) ∧
        (KeepsB S1 w21 w25 ∧ (kSet w25 ⟨b1, 1, none⟩ (.int .i64 r3) fun w26 =>
        (KeepsB S1 w21 w26 ∧ (kSet w26 ⟨b2, 1, none⟩ (.int .i64 r5) fun w27 =>
        (kDrew w27 fun w28 =>
        (∃ S2 : Nat → Prop,
        (∃ x_04 : Int, ∃ x_14 : Int, ∃ x_24 : Int, ∃ x_34 : Int, ∃ x_4_a4 : Option Addr, ∃ x_4_l4 : Nat, ∃ x_4_c4 : Nat, cellsAt w28 ⟨b1, 0, none⟩ 0 [(.int .i64 x_04), (.int .i64 x_14), (.int .i64 x_24), (.int .i64 x_34), (.slice x_4_a4 x_4_l4 x_4_c4)] ∧
        (S2 b2 ∧
        (∃ x_05 : Int, ∃ x_15 : Int, ∃ x_25 : Int, ∃ x_35 : Int, ∃ x_4_a5 : Option Addr, ∃ x_4_l5 : Nat, ∃ x_4_c5 : Nat, cellsAt w28 ⟨b2, 0, none⟩ 0 [(.int .i64 x_05), (.int .i64 x_15), (.int .i64 x_25), (.int .i64 x_35), (.slice x_4_a5 x_4_l5 x_4_c5)] ∧
        (sxStore w28 ⟨b1, 0, none⟩ 0 [(.int .i64 x_04), (.int .i64 x_14), (.int .i64 x_24), (.int .i64 x_34), (.slice x_4_a4 x_4_l4 x_4_c4)] fun w29 =>
        (KeepsB S2 w28 w29 ∧ (sxStore w29 ⟨b2, 0, none⟩ 0 [(.int .i64 x_05), (.int .i64 x_15), (.int .i64 x_25), (.int .i64 x_35), (.slice x_4_a5 x_4_l5 x_4_c5)] fun w30 =>
        (KeepsB S2 w28 w30 ∧ (∃ r_06 : Int, ∃ r_16 : Int, ∃ r_26 : Int, ∃ r_36 : Int, ∃ r_4_a6 : Option Addr, ∃ r_4_l6 : Nat, ∃ r_4_c6 : Nat, cellsAt w30 ⟨b1, 0, none⟩ 0 [(.int .i64 r_06), (.int .i64 r_16), (.int .i64 r_26), (.int .i64 r_36), (.slice r_4_a6 r_4_l6 r_4_c6)] ∧
        (∃ r_07 : Int, ∃ r_17 : Int, ∃ r_27 : Int, ∃ r_37 : Int, ∃ r_4_a7 : Option Addr, ∃ r_4_l7 : Nat, ∃ r_4_c7 : Nat, cellsAt w30 ⟨b2, 0, none⟩ 0 [(.int .i64 r_07), (.int .i64 r_17), (.int .i64 r_27), (.int .i64 r_37), (.slice r_4_a7 r_4_l7 r_4_c7)] ∧
        R (.tuple #[(.agg #[.int .i64 r_06, .int .i64 r_16, .int .i64 r_26, .int .i64 r_36, .slice r_4_a6 r_4_l6 r_4_c6]), (.agg #[.int .i64 r_07, .int .i64 r_17, .int .i64 r_27, .int .i64 r_37, .slice r_4_a7 r_4_l7 r_4_c7]), (.int .i64 (0 : Int))]) w30))))))))))))))))))))))))))))))))))))))))))))))))))))))))))))))))))))
theorem F_segment_Cut_eq (bits : Int) (p_0 : Int) (p_1 : Int) (p_2 : Int) (p_3 : Int) (p_4_a : Option Addr) (p_4_l : Nat) (p_4_c : Nat) (size : Int) (w : World) (R : Value → World → Prop) : sxFn Try.prog TT h_segment_Cut Try.f15 #[(.int .i64 bits), (.agg #[.int .i64 p_0, .int .i64 p_1, .int .i64 p_2, .int .i64 p_3, .slice p_4_a p_4_l p_4_c]), (.int .i64 size)] w R = F_segment_Cut bits p_0 p_1 p_2 p_3 p_4_a p_4_l p_4_c size w R := by kernel_rfl
theorem F_segment_Cut_ok {R : Ending → World → Prop} (bits : Int) (p_0 : Int) (p_1 : Int) (p_2 : Int) (p_3 : Int) (p_4_a : Option Addr) (p_4_l : Nat) (p_4_c : Nat) (size : Int) (w : World) (h : F_segment_Cut bits p_0 p_1 p_2 p_3 p_4_a p_4_l p_4_c size w fun v w' => R (.returned v) w') : Calls Try.prog N_segment_Cut #[(.int .i64 bits), (.agg #[.int .i64 p_0, .int .i64 p_1, .int .i64 p_2, .int .i64 p_3, .slice p_4_a p_4_l p_4_c]), (.int .i64 size)] w R :=
  calls_of (f := 15) follows_ok Try.func15 (Eq.mpr (F_segment_Cut_eq bits p_0 p_1 p_2 p_3 p_4_a p_4_l p_4_c size w _) h)

def h_segment_Encode : H := (.seq .reg (.seq (.seq .reg (.cond (.seq .reg .leaf) .leaf)) (.seq .reg (.seq .reg (.seq (.seq .reg (.cond .reg .leaf)) (.seq .reg .leaf))))))
def F_segment_Encode (bits : Int) (p_0 : Int) (p_1 : Int) (p_2 : Int) (p_3 : Int) (p_4_a : Option Addr) (p_4_l : Nat) (p_4_c : Nat) (w : World) (R : Value → World → Prop) : Prop :=
  (kAlloc w #[(.int .i64 p_0), (.int .i64 p_1), (.int .i64 p_2), (.int .i64 p_3), (.slice p_4_a p_4_l p_4_c)] Ty_api_Piece fun b w1 =>
  (∃ x_0 : Int, ∃ x_1 : Int, ∃ x_2 : Int, ∃ x_3 : Int, ∃ x_4_a : Option Addr, ∃ x_4_l : Nat, ∃ x_4_c : Nat, cellsAt w1 ⟨b, 0, none⟩ 0 [(.int .i64 x_0), (.int .i64 x_1), (.int .i64 x_2), (.int .i64 x_3), (.slice x_4_a x_4_l x_4_c)] ∧
  (Calls Try.prog N_segment_Valid #[(.int .i64 bits), (.agg #[.int .i64 x_0, .int .i64 x_1, .int .i64 x_2, .int .i64 x_3, .slice x_4_a x_4_l x_4_c])] w1 fun e_ w2 =>
  ∃ r : Bool, e_ = .returned (.bool r) ∧
  (bsplit (!r)
    (R (.tuple #[(.slice none 0 0), (.int .i64 (1 : Int))]) w2)
    ((kLd w2 ⟨b, 2, none⟩ .i64 fun x =>
    (kW .i64 (x * 2 ^ 14) fun x1 =>
    (kLet (bOr .i64 (32768 : Int) x1) fun x2 =>
    (kLd w2 ⟨b, 1, none⟩ .i64 fun x3 =>
    (kW .i64 (x3 * 2 ^ 12) fun x4 =>
    (kLet (bOr .i64 x2 x4) fun x5 =>
    (kLd w2 ⟨b, 0, none⟩ .i64 fun x6 =>
    (kLet (bOr .i64 x5 x6) fun x7 =>
    (kLet (Int.fdiv x7 (2 ^ 8)) fun x8 =>
    (kW .u8 (x8) fun x9 =>
    (kW .u8 (x7) fun x10 =>
    (kAlloc w2 #[(.int .u8 x9), (.int .u8 x10)] Ty_uint8 fun b1 w3 =>
    (kLd w3 ⟨b, 1, none⟩ .i64 fun x11 =>
    (Calls Try.prog N_segment_begins #[(.int .i64 x11)] w3 fun e_1 w4 =>
    ∃ r1 : Bool, e_1 = .returned (.bool r1) ∧
    (bsplit (!r1)
      ((kLd w4 ⟨b, 3, none⟩ .i64 fun x12 =>
      (kLet (Int.fdiv x12 (2 ^ 8)) fun x13 =>
      (kW .u8 (x13) fun x14 =>
      (kLd w4 ⟨b, 3, none⟩ .i64 fun x15 =>
      (kW .u8 (x15) fun x16 =>
      (kAlloc w4 #[(.int .u8 x14), (.int .u8 x16)] Ty_uint8 fun b2 w5 =>
      (AppP Try.prog #[Ty_S_uint8, Ty_S_uint8] Ty_S_uint8 #[(.slice (some ⟨b1, 0, none⟩) 2 2), (.slice (some ⟨b2, 0, none⟩) 2 2)] w5 fun x_a x_l x_c w6 =>
      (kLdS w6 ⟨b, 4, none⟩ fun x_a1 x_l1 x_c1 =>
      (AppP Try.prog #[Ty_S_uint8, Ty_S_uint8] Ty_S_uint8 #[(.slice x_a x_l x_c), (.slice x_a1 x_l1 x_c1)] w6 fun x_a2 x_l2 x_c2 w7 =>
      R (.tuple #[(.slice x_a2 x_l2 x_c2), (.int .i64 (0 : Int))]) w7))))))))))
      ((kLdS w4 ⟨b, 4, none⟩ fun x_a3 x_l3 x_c3 =>
      (AppP Try.prog #[Ty_S_uint8, Ty_S_uint8] Ty_S_uint8 #[(.slice (some ⟨b1, 0, none⟩) 2 2), (.slice x_a3 x_l3 x_c3)] w4 fun x_a4 x_l4 x_c4 w8 =>
      R (.tuple #[(.slice x_a4 x_l4 x_c4), (.int .i64 (0 : Int))]) w8)))))))))))))))))))))))
theorem F_segment_Encode_eq (bits : Int) (p_0 : Int) (p_1 : Int) (p_2 : Int) (p_3 : Int) (p_4_a : Option Addr) (p_4_l : Nat) (p_4_c : Nat) (w : World) (R : Value → World → Prop) : sxFn Try.prog TT h_segment_Encode Try.f16 #[(.int .i64 bits), (.agg #[.int .i64 p_0, .int .i64 p_1, .int .i64 p_2, .int .i64 p_3, .slice p_4_a p_4_l p_4_c])] w R = F_segment_Encode bits p_0 p_1 p_2 p_3 p_4_a p_4_l p_4_c w R := by kernel_rfl
theorem F_segment_Encode_ok {R : Ending → World → Prop} (bits : Int) (p_0 : Int) (p_1 : Int) (p_2 : Int) (p_3 : Int) (p_4_a : Option Addr) (p_4_l : Nat) (p_4_c : Nat) (w : World) (h : F_segment_Encode bits p_0 p_1 p_2 p_3 p_4_a p_4_l p_4_c w fun v w' => R (.returned v) w') : Calls Try.prog N_segment_Encode #[(.int .i64 bits), (.agg #[.int .i64 p_0, .int .i64 p_1, .int .i64 p_2, .int .i64 p_3, .slice p_4_a p_4_l p_4_c])] w R :=
  calls_of (f := 16) follows_ok Try.func16 (Eq.mpr (F_segment_Encode_eq bits p_0 p_1 p_2 p_3 p_4_a p_4_l p_4_c w _) h)

def h_ref01_Same : H := (.seq .reg (.seq .reg .leaf))
def F_ref01_Same (a_a : Option Addr) (a_l : Nat) (a_c : Nat) (b_a : Option Addr) (b_l : Nat) (b_c : Nat) (w : World) (R : Value → World → Prop) : Prop :=
  (ConvS Try.prog Ty_S_uint8 Ty_string (.slice a_a a_l a_c) w fun x =>
  (ConvS Try.prog Ty_S_uint8 Ty_string (.slice b_a b_l b_c) w fun x1 =>
  R (.bool (x == x1)) w))
theorem F_ref01_Same_eq (a_a : Option Addr) (a_l : Nat) (a_c : Nat) (b_a : Option Addr) (b_l : Nat) (b_c : Nat) (w : World) (R : Value → World → Prop) : sxFn Try.prog TT h_ref01_Same Try.f17 #[(.slice a_a a_l a_c), (.slice b_a b_l b_c)] w R = F_ref01_Same a_a a_l a_c b_a b_l b_c w R := by kernel_rfl
theorem F_ref01_Same_ok {R : Ending → World → Prop} (a_a : Option Addr) (a_l : Nat) (a_c : Nat) (b_a : Option Addr) (b_l : Nat) (b_c : Nat) (w : World) (h : F_ref01_Same a_a a_l a_c b_a b_l b_c w fun v w' => R (.returned v) w') : Calls Try.prog N_ref01_Same #[(.slice a_a a_l a_c), (.slice b_a b_l b_c)] w R :=
  calls_of (f := 17) follows_ok Try.func17 (Eq.mpr (F_ref01_Same_eq a_a a_l a_c b_a b_l b_c w _) h)

def h_ref18_Encode : H := (.seq .reg (.seq (.seq .reg (.cond (.seq .reg .leaf) .leaf)) (.seq .reg (.seq (.seq .reg (.cond .reg .leaf)) (.seq .reg .leaf)))))
def F_ref18_Encode (bits : Int) (p_0 : Int) (p_1 : Int) (p_2 : Int) (p_3 : Int) (p_4_a : Option Addr) (p_4_l : Nat) (p_4_c : Nat) (w : World) (R : Value → World → Prop) : Prop :=
  (kAlloc w #[(.int .i64 p_0), (.int .i64 p_1), (.int .i64 p_2), (.int .i64 p_3), (.slice p_4_a p_4_l p_4_c)] Ty_api_Piece fun b w1 =>
  (∃ x_0 : Int, ∃ x_1 : Int, ∃ x_2 : Int, ∃ x_3 : Int, ∃ x_4_a : Option Addr, ∃ x_4_l : Nat, ∃ x_4_c : Nat, cellsAt w1 ⟨b, 0, none⟩ 0 [(.int .i64 x_0), (.int .i64 x_1), (.int .i64 x_2), (.int .i64 x_3), (.slice x_4_a x_4_l x_4_c)] ∧
  (Calls Try.prog N_ref18_Valid #[(.int .i64 bits), (.agg #[.int .i64 x_0, .int .i64 x_1, .int .i64 x_2, .int .i64 x_3, .slice x_4_a x_4_l x_4_c])] w1 fun e_ w2 =>
  ∃ r : Bool, e_ = .returned (.bool r) ∧
  (bsplit (!r)
    (R (.tuple #[(.slice none 0 0), (.int .i64 (1 : Int))]) w2)
    ((kLd w2 ⟨b, 2, none⟩ .i64 fun x =>
    (kW .i64 ((16384 : Int) * x) fun x1 =>
    (kW .i64 ((32768 : Int) + x1) fun x2 =>
    (kLd w2 ⟨b, 1, none⟩ .i64 fun x3 =>
    (kW .i64 ((4096 : Int) * x3) fun x4 =>
    (kW .i64 (x2 + x4) fun x5 =>
    (kLd w2 ⟨b, 0, none⟩ .i64 fun x6 =>
    (kW .i64 (x5 + x6) fun x7 =>
    (Calls Try.prog N_ref01_Put #[(.slice none 0 0), (.int .i64 (2 : Int)), (.int .i64 x7)] w2 fun e_1 w3 =>
    ∃ r_a : Option Addr, ∃ r_l : Nat, ∃ r_c : Nat, e_1 = .returned (.slice r_a r_l r_c) ∧
    (kLd w3 ⟨b, 1, none⟩ .i64 fun x8 =>
    (Calls Try.prog N_ref18_Head #[(.int .i64 x8)] w3 fun e_2 w4 =>
    ∃ r1 : Int, e_2 = .returned (.int .i64 r1) ∧
    (bsplit (decide (r1 = (4 : Int)))
      ((kLd w4 ⟨b, 3, none⟩ .i64 fun x9 =>
      (Calls Try.prog N_ref01_Put #[(.slice r_a r_l r_c), (.int .i64 (2 : Int)), (.int .i64 x9)] w4 fun e_3 w5 =>
      ∃ r_a1 : Option Addr, ∃ r_l1 : Nat, ∃ r_c1 : Nat, e_3 = .returned (.slice r_a1 r_l1 r_c1) ∧
      (kLdS w5 ⟨b, 4, none⟩ fun x_a x_l x_c =>
      (AppP Try.prog #[Ty_S_uint8, Ty_S_uint8] Ty_S_uint8 #[(.slice r_a1 r_l1 r_c1), (.slice x_a x_l x_c)] w5 fun x_a1 x_l1 x_c1 w6 =>
      R (.tuple #[(.slice x_a1 x_l1 x_c1), (.int .i64 (0 : Int))]) w6)))))
      ((kLdS w4 ⟨b, 4, none⟩ fun x_a2 x_l2 x_c2 =>
      (AppP Try.prog #[Ty_S_uint8, Ty_S_uint8] Ty_S_uint8 #[(.slice r_a r_l r_c), (.slice x_a2 x_l2 x_c2)] w4 fun x_a3 x_l3 x_c3 w7 =>
      R (.tuple #[(.slice x_a3 x_l3 x_c3), (.int .i64 (0 : Int))]) w7))))))))))))))))))))
theorem F_ref18_Encode_eq (bits : Int) (p_0 : Int) (p_1 : Int) (p_2 : Int) (p_3 : Int) (p_4_a : Option Addr) (p_4_l : Nat) (p_4_c : Nat) (w : World) (R : Value → World → Prop) : sxFn Try.prog TT h_ref18_Encode Try.f18 #[(.int .i64 bits), (.agg #[.int .i64 p_0, .int .i64 p_1, .int .i64 p_2, .int .i64 p_3, .slice p_4_a p_4_l p_4_c])] w R = F_ref18_Encode bits p_0 p_1 p_2 p_3 p_4_a p_4_l p_4_c w R := by kernel_rfl
theorem F_ref18_Encode_ok {R : Ending → World → Prop} (bits : Int) (p_0 : Int) (p_1 : Int) (p_2 : Int) (p_3 : Int) (p_4_a : Option Addr) (p_4_l : Nat) (p_4_c : Nat) (w : World) (h : F_ref18_Encode bits p_0 p_1 p_2 p_3 p_4_a p_4_l p_4_c w fun v w' => R (.returned v) w') : Calls Try.prog N_ref18_Encode #[(.int .i64 bits), (.agg #[.int .i64 p_0, .int .i64 p_1, .int .i64 p_2, .int .i64 p_3, .slice p_4_a p_4_l p_4_c])] w R :=
  calls_of (f := 18) follows_ok Try.func18 (Eq.mpr (F_ref18_Encode_eq bits p_0 p_1 p_2 p_3 p_4_a p_4_l p_4_c w _) h)

def h_segment_Decode : H := (.seq .reg (.seq (.block (.seq .reg (.cond (.seq .reg .leaf) (.seq .reg (.cond (.seq .reg .leaf) .leaf))))) (.seq (.draw .no (.one 0 .stable (.one 1 .stable (.one 2 .stable (.one 3 .stable (.one 4 .stable (.one 5 .stable (.one 6 .stable (.one 7 .stable (.one 8 .stable (.one 9 .stable (.one 10 .stable .nil)))))))))))) (.seq .reg (.seq .reg (.seq (.seq .reg (.cond (.seq .reg .leaf) .leaf)) (.cut [] [46, 47, 48, 49, 50, 51, 52, 53, 54, 55, 56, 57, 58] (.seq .reg (.cond (.draw .no (.one 0 .pre (.one 1 .pre (.one 2 .pre (.one 3 .pre (.one 4 .pre (.one 5 .pre (.one 6 .pre (.one 7 .pre (.one 8 .pre (.one 9 .pre (.one 10 .pre (.one 11 .last .nil))))))))))))) .leaf)) (.seq .reg (.seq (.seq .reg (.cond (.seq .reg .leaf) .leaf)) (.seq .reg .leaf))))))))))
def F_segment_Decode (bits : Int) (b_a : Option Addr) (b_l : Nat) (b_c : Nat) (w : World) (R : Value → World → Prop) : Prop :=
  (kAlloc w #[.int .i64 (0 : Int), .int .i64 (0 : Int), .int .i64 (0 : Int), .int .i64 (0 : Int), .slice none 0 0] Ty_api_Piece fun b w1 =>
  (Calls Try.prog N_counter_Bits #[(.int .i64 bits)] w1 fun e_ w2 =>
  ∃ r : Bool, e_ = .returned (.bool r) ∧
  (bsplit (!r)
    ((sxStore w2 ⟨b, 0, none⟩ 0 [(.int .i64 (0 : Int)), (.int .i64 (0 : Int)), (.int .i64 (0 : Int)), (.int .i64 (0 : Int)), (.slice none 0 0)] fun w3 =>
    (∃ r_0 : Int, ∃ r_1 : Int, ∃ r_2 : Int, ∃ r_3 : Int, ∃ r_4_a : Option Addr, ∃ r_4_l : Nat, ∃ r_4_c : Nat, cellsAt w3 ⟨b, 0, none⟩ 0 [(.int .i64 r_0), (.int .i64 r_1), (.int .i64 r_2), (.int .i64 r_3), (.slice r_4_a r_4_l r_4_c)] ∧
    R (.tuple #[(.agg #[.int .i64 r_0, .int .i64 r_1, .int .i64 r_2, .int .i64 r_3, .slice r_4_a r_4_l r_4_c]), (.int .i64 (3 : Int))]) w3)))
    ((kLet (decide ((b_l : Int) < (2 : Int))) fun x =>
    (bsplit x
      ((sxStore w2 ⟨b, 0, none⟩ 0 [(.int .i64 (0 : Int)), (.int .i64 (0 : Int)), (.int .i64 (0 : Int)), (.int .i64 (0 : Int)), (.slice none 0 0)] fun w4 =>
      (∃ r_01 : Int, ∃ r_11 : Int, ∃ r_21 : Int, ∃ r_31 : Int, ∃ r_4_a1 : Option Addr, ∃ r_4_l1 : Nat, ∃ r_4_c1 : Nat, cellsAt w4 ⟨b, 0, none⟩ 0 [(.int .i64 r_01), (.int .i64 r_11), (.int .i64 r_21), (.int .i64 r_31), (.slice r_4_a1 r_4_l1 r_4_c1)] ∧
      R (.tuple #[(.agg #[.int .i64 r_01, .int .i64 r_11, .int .i64 r_21, .int .i64 r_31, .slice r_4_a1 r_4_l1 r_4_c1]), (.int .i64 (5 : Int))]) w4)))
      ((kDrew w2 fun w5 =>
      (kIx b_a b_l (0 : Int) fun b1 =>
      (kLd w5 (b1.add ((0 : Int).toNat * 1)) .u8 fun x1 =>
      (kW .i64 (x1) fun x2 =>
      (kW .i64 (x2 * 2 ^ 8) fun x3 =>
      (kIx b_a b_l (1 : Int) fun b2 =>
      (kLd w5 (b2.add ((1 : Int).toNat * 1)) .u8 fun x4 =>
      (kW .i64 (x4) fun x5 =>
      (kLet (bOr .i64 x3 x5) fun x6 =>
      (kLet (Int.fdiv x6 (2 ^ 14)) fun x7 =>
      (kLet (bAnd .i64 x7 (1 : Int)) fun x8 =>
      (kLet (Int.fdiv x6 (2 ^ 12)) fun x9 =>
      (kLet (bAnd .i64 x9 (3 : Int)) fun x10 =>
      (kLet (bAnd .i64 x6 (4095 : Int)) fun x11 =>
      (kAlloc w5 #[.int .i64 (0 : Int), .int .i64 (0 : Int), .int .i64 (0 : Int), .int .i64 (0 : Int), .slice none 0 0] Ty_api_Piece fun b3 w6 =>
      (sxStore w6 ⟨b3, 0, none⟩ 0 [(.int .i64 x11), (.int .i64 x10), (.int .i64 x8), (.int .i64 (0 : Int)), (.slice none 0 0)] fun w7 =>
      (kLd w7 ⟨b3, 1, none⟩ .i64 fun x12 =>
      (Calls Try.prog N_segment_head #[(.int .i64 x12)] w7 fun e_1 w8 =>
      ∃ r1 : Int, e_1 = .returned (.int .i64 r1) ∧
      (bsplit (decide ((b_l : Int) ≤ r1))
        ((sxStore w8 ⟨b, 0, none⟩ 0 [(.int .i64 (0 : Int)), (.int .i64 (0 : Int)), (.int .i64 (0 : Int)), (.int .i64 (0 : Int)), (.slice none 0 0)] fun w9 =>
        (∃ r_02 : Int, ∃ r_12 : Int, ∃ r_22 : Int, ∃ r_32 : Int, ∃ r_4_a2 : Option Addr, ∃ r_4_l2 : Nat, ∃ r_4_c2 : Nat, cellsAt w9 ⟨b, 0, none⟩ 0 [(.int .i64 r_02), (.int .i64 r_12), (.int .i64 r_22), (.int .i64 r_32), (.slice r_4_a2 r_4_l2 r_4_c2)] ∧
        R (.tuple #[(.agg #[.int .i64 r_02, .int .i64 r_12, .int .i64 r_22, .int .i64 r_32, .slice r_4_a2 r_4_l2 r_4_c2]), (.int .i64 (5 : Int))]) w9)))
        ((∃ J : World → Prop,
        (∀ (_junk : Env)  (w12 : World), J w12 →
          ((0 ≤ r1 ∧ r1 ≤ ((b_l : Nat) : Int)) ∧ (Calls Try.prog N_slices_Clone_Sbyte_byte #[(.slice (slAddr b_c (r1.toNat) 1 b_a) (b_l - r1.toNat) (b_c - r1.toNat))] w12 fun e_2 w13 =>
          ∃ r_a : Option Addr, ∃ r_l : Nat, ∃ r_c : Nat, e_2 = .returned (.slice r_a r_l r_c) ∧
          (kSet w13 ⟨b3, 4, none⟩ (.slice r_a r_l r_c) fun w14 =>
          (kLet (Int.fdiv x6 (2 ^ 15)) fun x19 =>
          (bsplit (decide (x19 = (0 : Int)))
            ((sxStore w14 ⟨b, 0, none⟩ 0 [(.int .i64 (0 : Int)), (.int .i64 (0 : Int)), (.int .i64 (0 : Int)), (.int .i64 (0 : Int)), (.slice none 0 0)] fun w15 =>
              (∃ r_03 : Int, ∃ r_13 : Int, ∃ r_23 : Int, ∃ r_33 : Int, ∃ r_4_a3 : Option Addr, ∃ r_4_l3 : Nat, ∃ r_4_c3 : Nat, cellsAt w15 ⟨b, 0, none⟩ 0 [(.int .i64 r_03), (.int .i64 r_13), (.int .i64 r_23), (.int .i64 r_33), (.slice r_4_a3 r_4_l3 r_4_c3)] ∧
              R (.tuple #[(.agg #[.int .i64 r_03, .int .i64 r_13, .int .i64 r_23, .int .i64 r_33, .slice r_4_a3 r_4_l3 r_4_c3]), (.int .i64 (4 : Int))]) w15)))
            ((∃ x_01 : Int, ∃ x_11 : Int, ∃ x_21 : Int, ∃ x_31 : Int, ∃ x_4_a1 : Option Addr, ∃ x_4_l1 : Nat, ∃ x_4_c1 : Nat, cellsAt w14 ⟨b3, 0, none⟩ 0 [(.int .i64 x_01), (.int .i64 x_11), (.int .i64 x_21), (.int .i64 x_31), (.slice x_4_a1 x_4_l1 x_4_c1)] ∧
            (Calls Try.prog N_segment_Valid #[(.int .i64 bits), (.agg #[.int .i64 x_01, .int .i64 x_11, .int .i64 x_21, .int .i64 x_31, .slice x_4_a1 x_4_l1 x_4_c1])] w14 fun e_3 w17 =>
            ∃ r2 : Bool, e_3 = .returned (.bool r2) ∧
            (bsplit (!r2)
              ((sxStore w17 ⟨b, 0, none⟩ 0 [(.int .i64 (0 : Int)), (.int .i64 (0 : Int)), (.int .i64 (0 : Int)), (.int .i64 (0 : Int)), (.slice none 0 0)] fun w18 =>
              (∃ r_05 : Int, ∃ r_15 : Int, ∃ r_25 : Int, ∃ r_35 : Int, ∃ r_4_a5 : Option Addr, ∃ r_4_l5 : Nat, ∃ r_4_c5 : Nat, cellsAt w18 ⟨b, 0, none⟩ 0 [(.int .i64 r_05), (.int .i64 r_15), (.int .i64 r_25), (.int .i64 r_35), (.slice r_4_a5 r_4_l5 r_4_c5)] ∧
              R (.tuple #[(.agg #[.int .i64 r_05, .int .i64 r_15, .int .i64 r_25, .int .i64 r_35, .slice r_4_a5 r_4_l5 r_4_c5]), (.int .i64 (4 : Int))]) w18)))
              ((∃ x_02 : Int, ∃ x_12 : Int, ∃ x_22 : Int, ∃ x_32 : Int, ∃ x_4_a2 : Option Addr, ∃ x_4_l2 : Nat, ∃ x_4_c2 : Nat, cellsAt w17 ⟨b3, 0, none⟩ 0 [(.int .i64 x_02), (.int .i64 x_12), (.int .i64 x_22), (.int .i64 x_32), (.slice x_4_a2 x_4_l2 x_4_c2)] ∧
              (sxStore w17 ⟨b, 0, none⟩ 0 [(.int .i64 x_02), (.int .i64 x_12), (.int .i64 x_22), (.int .i64 x_32), (.slice x_4_a2 x_4_l2 x_4_c2)] fun w19 =>
              (∃ r_06 : Int, ∃ r_16 : Int, ∃ r_26 : Int, ∃ r_36 : Int, ∃ r_4_a6 : Option Addr, ∃ r_4_l6 : Nat, ∃ r_4_c6 : Nat, cellsAt w19 ⟨b, 0, none⟩ 0 [(.int .i64 r_06), (.int .i64 r_16), (.int .i64 r_26), (.int .i64 r_36), (.slice r_4_a6 r_4_l6 r_4_c6)] ∧
              R (.tuple #[(.agg #[.int .i64 r_06, .int .i64 r_16, .int .i64 r_26, .int .i64 r_36, .slice r_4_a6 r_4_l6 r_4_c6]), (.int .i64 (0 : Int))]) w19)))))))))))))) ∧
        (bsplit (decide (r1 = (4 : Int)))
          ((kDrew w8 fun w10 =>
          (kIx b_a b_l (2 : Int) fun b4 =>
          (kLd w10 (b4.add ((2 : Int).toNat * 1)) .u8 fun x13 =>
          (kW .i64 (x13) fun x14 =>
          (kW .i64 (x14 * 2 ^ 8) fun x15 =>
          (kIx b_a b_l (3 : Int) fun b5 =>
          (kLd w10 (b5.add ((3 : Int).toNat * 1)) .u8 fun x16 =>
          (kW .i64 (x16) fun x17 =>
          (kLet (bOr .i64 x15 x17) fun x18 =>
          (kSet w10 ⟨b3, 3, none⟩ (.int .i64 x18) fun w11 =>
          J w11)))))))))))
          (J w8))))))))))))))))))))))))))))))
theorem F_segment_Decode_eq (bits : Int) (b_a : Option Addr) (b_l : Nat) (b_c : Nat) (w : World) (R : Value → World → Prop) : sxFn Try.prog TT h_segment_Decode Try.f19 #[(.int .i64 bits), (.slice b_a b_l b_c)] w R = F_segment_Decode bits b_a b_l b_c w R := by kernel_rfl
theorem F_segment_Decode_ok {R : Ending → World → Prop} (bits : Int) (b_a : Option Addr) (b_l : Nat) (b_c : Nat) (w : World) (h : F_segment_Decode bits b_a b_l b_c w fun v w' => R (.returned v) w') : Calls Try.prog N_segment_Decode #[(.int .i64 bits), (.slice b_a b_l b_c)] w R :=
  calls_of (f := 19) follows_ok Try.func19 (Eq.mpr (F_segment_Decode_eq bits b_a b_l b_c w _) h)

def h_ref18_Decode : H := (.seq .reg (.seq (.seq .reg (.cond (.seq .reg .leaf) .leaf)) (.seq (.seq .reg (.cond (.seq .reg .leaf) .leaf)) (.seq .reg (.seq .reg (.seq .reg (.seq (.seq .reg (.cond (.seq .reg .leaf) .leaf)) (.cut [] [36, 37, 38, 39, 40] (.seq .reg (.cond .reg .leaf)) (.seq .reg (.seq (.seq .reg (.cond (.seq .reg .leaf) .leaf)) (.seq .reg .leaf)))))))))))
def F_ref18_Decode (bits : Int) (b_a : Option Addr) (b_l : Nat) (b_c : Nat) (w : World) (R : Value → World → Prop) : Prop :=
  (kAlloc w #[.int .i64 (0 : Int), .int .i64 (0 : Int), .int .i64 (0 : Int), .int .i64 (0 : Int), .slice none 0 0] Ty_api_Piece fun b w1 =>
  (Calls Try.prog N_ref15_Bits #[(.int .i64 bits)] w1 fun e_ w2 =>
  ∃ r : Bool, e_ = .returned (.bool r) ∧
  (bsplit (!r)
    ((sxStore w2 ⟨b, 0, none⟩ 0 [(.int .i64 (0 : Int)), (.int .i64 (0 : Int)), (.int .i64 (0 : Int)), (.int .i64 (0 : Int)), (.slice none 0 0)] fun w3 =>
    (∃ r_0 : Int, ∃ r_1 : Int, ∃ r_2 : Int, ∃ r_3 : Int, ∃ r_4_a : Option Addr, ∃ r_4_l : Nat, ∃ r_4_c : Nat, cellsAt w3 ⟨b, 0, none⟩ 0 [(.int .i64 r_0), (.int .i64 r_1), (.int .i64 r_2), (.int .i64 r_3), (.slice r_4_a r_4_l r_4_c)] ∧
    R (.tuple #[(.agg #[.int .i64 r_0, .int .i64 r_1, .int .i64 r_2, .int .i64 r_3, .slice r_4_a r_4_l r_4_c]), (.int .i64 (3 : Int))]) w3)))
    ((bsplit (decide ((b_l : Int) < (2 : Int)))
      ((sxStore w2 ⟨b, 0, none⟩ 0 [(.int .i64 (0 : Int)), (.int .i64 (0 : Int)), (.int .i64 (0 : Int)), (.int .i64 (0 : Int)), (.slice none 0 0)] fun w4 =>
      (∃ r_01 : Int, ∃ r_11 : Int, ∃ r_21 : Int, ∃ r_31 : Int, ∃ r_4_a1 : Option Addr, ∃ r_4_l1 : Nat, ∃ r_4_c1 : Nat, cellsAt w4 ⟨b, 0, none⟩ 0 [(.int .i64 r_01), (.int .i64 r_11), (.int .i64 r_21), (.int .i64 r_31), (.slice r_4_a1 r_4_l1 r_4_c1)] ∧
      R (.tuple #[(.agg #[.int .i64 r_01, .int .i64 r_11, .int .i64 r_21, .int .i64 r_31, .slice r_4_a1 r_4_l1 r_4_c1]), (.int .i64 (5 : Int))]) w4)))
      ((Calls Try.prog N_ref01_Get #[(.slice b_a b_l b_c), (.int .i64 (0 : Int)), (.int .i64 (2 : Int))] w2 fun e_1 w5 =>
      ∃ r1 : Int, e_1 = .returned (.int .i64 r1) ∧
      (kLet (Int.fdiv r1 (2 ^ 14)) fun x =>
      (kLet (bAnd .i64 x (1 : Int)) fun x1 =>
      (kLet (Int.fdiv r1 (2 ^ 12)) fun x2 =>
      (kLet (bAnd .i64 x2 (3 : Int)) fun x3 =>
      (kLet (bAnd .i64 r1 (4095 : Int)) fun x4 =>
      (kAlloc w5 #[.int .i64 (0 : Int), .int .i64 (0 : Int), .int .i64 (0 : Int), .int .i64 (0 : Int), .slice none 0 0] Ty_api_Piece fun b1 w6 =>
      (sxStore w6 ⟨b1, 0, none⟩ 0 [(.int .i64 x4), (.int .i64 x3), (.int .i64 x1), (.int .i64 (0 : Int)), (.slice none 0 0)] fun w7 =>
      (kLd w7 ⟨b1, 1, none⟩ .i64 fun x5 =>
      (Calls Try.prog N_ref18_Head #[(.int .i64 x5)] w7 fun e_2 w8 =>
      ∃ r2 : Int, e_2 = .returned (.int .i64 r2) ∧
      (bsplit (decide ((b_l : Int) ≤ r2))
        ((sxStore w8 ⟨b, 0, none⟩ 0 [(.int .i64 (0 : Int)), (.int .i64 (0 : Int)), (.int .i64 (0 : Int)), (.int .i64 (0 : Int)), (.slice none 0 0)] fun w9 =>
        (∃ r_02 : Int, ∃ r_12 : Int, ∃ r_22 : Int, ∃ r_32 : Int, ∃ r_4_a2 : Option Addr, ∃ r_4_l2 : Nat, ∃ r_4_c2 : Nat, cellsAt w9 ⟨b, 0, none⟩ 0 [(.int .i64 r_02), (.int .i64 r_12), (.int .i64 r_22), (.int .i64 r_32), (.slice r_4_a2 r_4_l2 r_4_c2)] ∧
        R (.tuple #[(.agg #[.int .i64 r_02, .int .i64 r_12, .int .i64 r_22, .int .i64 r_32, .slice r_4_a2 r_4_l2 r_4_c2]), (.int .i64 (5 : Int))]) w9)))
        ((∃ J : World → Prop,
        (∀ (_junk : Env)  (w12 : World), J w12 →
          ((0 ≤ r2 ∧ r2 ≤ ((b_l : Nat) : Int)) ∧ (AppP Try.prog #[Ty_S_uint8, Ty_S_uint8] Ty_S_uint8 #[(.slice none 0 0), (.slice (slAddr b_c (r2.toNat) 1 b_a) (b_l - r2.toNat) (b_c - r2.toNat))] w12 fun x_a x_l x_c w13 =>
          (kSet w13 ⟨b1, 4, none⟩ (.slice x_a x_l x_c) fun w14 =>
          (bsplit (decide (r1 < (32768 : Int)))
            ((sxStore w14 ⟨b, 0, none⟩ 0 [(.int .i64 (0 : Int)), (.int .i64 (0 : Int)), (.int .i64 (0 : Int)), (.int .i64 (0 : Int)), (.slice none 0 0)] fun w15 =>
              (∃ r_03 : Int, ∃ r_13 : Int, ∃ r_23 : Int, ∃ r_33 : Int, ∃ r_4_a3 : Option Addr, ∃ r_4_l3 : Nat, ∃ r_4_c3 : Nat, cellsAt w15 ⟨b, 0, none⟩ 0 [(.int .i64 r_03), (.int .i64 r_13), (.int .i64 r_23), (.int .i64 r_33), (.slice r_4_a3 r_4_l3 r_4_c3)] ∧
              R (.tuple #[(.agg #[.int .i64 r_03, .int .i64 r_13, .int .i64 r_23, .int .i64 r_33, .slice r_4_a3 r_4_l3 r_4_c3]), (.int .i64 (4 : Int))]) w15)))
            ((∃ x_01 : Int, ∃ x_11 : Int, ∃ x_21 : Int, ∃ x_31 : Int, ∃ x_4_a1 : Option Addr, ∃ x_4_l1 : Nat, ∃ x_4_c1 : Nat, cellsAt w14 ⟨b1, 0, none⟩ 0 [(.int .i64 x_01), (.int .i64 x_11), (.int .i64 x_21), (.int .i64 x_31), (.slice x_4_a1 x_4_l1 x_4_c1)] ∧
            (Calls Try.prog N_ref18_Valid #[(.int .i64 bits), (.agg #[.int .i64 x_01, .int .i64 x_11, .int .i64 x_21, .int .i64 x_31, .slice x_4_a1 x_4_l1 x_4_c1])] w14 fun e_4 w17 =>
            ∃ r4 : Bool, e_4 = .returned (.bool r4) ∧
            (bsplit (!r4)
              ((sxStore w17 ⟨b, 0, none⟩ 0 [(.int .i64 (0 : Int)), (.int .i64 (0 : Int)), (.int .i64 (0 : Int)), (.int .i64 (0 : Int)), (.slice none 0 0)] fun w18 =>
              (∃ r_05 : Int, ∃ r_15 : Int, ∃ r_25 : Int, ∃ r_35 : Int, ∃ r_4_a5 : Option Addr, ∃ r_4_l5 : Nat, ∃ r_4_c5 : Nat, cellsAt w18 ⟨b, 0, none⟩ 0 [(.int .i64 r_05), (.int .i64 r_15), (.int .i64 r_25), (.int .i64 r_35), (.slice r_4_a5 r_4_l5 r_4_c5)] ∧
              R (.tuple #[(.agg #[.int .i64 r_05, .int .i64 r_15, .int .i64 r_25, .int .i64 r_35, .slice r_4_a5 r_4_l5 r_4_c5]), (.int .i64 (4 : Int))]) w18)))
              ((∃ x_02 : Int, ∃ x_12 : Int, ∃ x_22 : Int, ∃ x_32 : Int, ∃ x_4_a2 : Option Addr, ∃ x_4_l2 : Nat, ∃ x_4_c2 : Nat, cellsAt w17 ⟨b1, 0, none⟩ 0 [(.int .i64 x_02), (.int .i64 x_12), (.int .i64 x_22), (.int .i64 x_32), (.slice x_4_a2 x_4_l2 x_4_c2)] ∧
              (sxStore w17 ⟨b, 0, none⟩ 0 [(.int .i64 x_02), (.int .i64 x_12), (.int .i64 x_22), (.int .i64 x_32), (.slice x_4_a2 x_4_l2 x_4_c2)] fun w19 =>
              (∃ r_06 : Int, ∃ r_16 : Int, ∃ r_26 : Int, ∃ r_36 : Int, ∃ r_4_a6 : Option Addr, ∃ r_4_l6 : Nat, ∃ r_4_c6 : Nat, cellsAt w19 ⟨b, 0, none⟩ 0 [(.int .i64 r_06), (.int .i64 r_16), (.int .i64 r_26), (.int .i64 r_36), (.slice r_4_a6 r_4_l6 r_4_c6)] ∧
              R (.tuple #[(.agg #[.int .i64 r_06, .int .i64 r_16, .int .i64 r_26, .int .i64 r_36, .slice r_4_a6 r_4_l6 r_4_c6]), (.int .i64 (0 : Int))]) w19))))))))))))) ∧
        (bsplit (decide (r2 = (4 : Int)))
          ((Calls Try.prog N_ref01_Get #[(.slice b_a b_l b_c), (.int .i64 (2 : Int)), (.int .i64 (2 : Int))] w8 fun e_3 w10 =>
          ∃ r3 : Int, e_3 = .returned (.int .i64 r3) ∧
          (kSet w10 ⟨b1, 3, none⟩ (.int .i64 r3) fun w11 =>
          J w11)))
          (J w8)))))))))))))))))))))
theorem F_ref18_Decode_eq (bits : Int) (b_a : Option Addr) (b_l : Nat) (b_c : Nat) (w : World) (R : Value → World → Prop) : sxFn Try.prog TT h_ref18_Decode Try.f20 #[(.int .i64 bits), (.slice b_a b_l b_c)] w R = F_ref18_Decode bits b_a b_l b_c w R := by kernel_rfl
theorem F_ref18_Decode_ok {R : Ending → World → Prop} (bits : Int) (b_a : Option Addr) (b_l : Nat) (b_c : Nat) (w : World) (h : F_ref18_Decode bits b_a b_l b_c w fun v w' => R (.returned v) w') : Calls Try.prog N_ref18_Decode #[(.int .i64 bits), (.slice b_a b_l b_c)] w R :=
  calls_of (f := 20) follows_ok Try.func20 (Eq.mpr (F_ref18_Decode_eq bits b_a b_l b_c w _) h)

def h_ref18_Cut : H := (.seq .reg (.seq (.seq .reg (.cond (.seq .reg .leaf) .leaf)) (.seq .reg (.seq (.seq .reg (.cond (.seq .reg .leaf) .leaf)) (.seq (.seq .reg (.cond (.seq .reg (.seq .reg .leaf)) .leaf)) (.seq .reg (.cut [(11, .p .addr), (12, .p .addr)] [11, 12, 44, 45] (.draw .blk (.one 0 .stable (.one 1 .stable (.alt 2 (.one 3 .keep (.one 4 .keep (.one 5 .last .nil))) (.alt 3 (.one 2 .keep (.one 4 .keep (.one 5 .last .nil))) .endAlt))))) (.seq .reg (.seq .reg (.seq .reg (.cut [] [63, 64, 65, 66, 67, 68, 69, 70, 71, 72, 73, 74] (.seq .reg (.block (.seq .reg (.cond .reg (.seq .reg (.cond .reg (.seq .reg (.cond .reg .leaf)))))))) (.seq (.draw .blk (.one 0 .pre (.one 1 .stable (.one 2 .keep (.one 3 .keep (.one 4 .stable .nil)))))) .leaf))))))))))))
def F_ref18_Cut (bits : Int) (p_0 : Int) (p_1 : Int) (p_2 : Int) (p_3 : Int) (p_4_a : Option Addr) (p_4_l : Nat) (p_4_c : Nat) (size : Int) (w : World) (R : Value → World → Prop) : Prop :=
  (kAlloc w #[(.int .i64 p_0), (.int .i64 p_1), (.int .i64 p_2), (.int .i64 p_3), (.slice p_4_a p_4_l p_4_c)] Ty_api_Piece fun b w1 =>
  (kAlloc w1 #[.int .i64 (0 : Int), .int .i64 (0 : Int), .int .i64 (0 : Int), .int .i64 (0 : Int), .slice none 0 0] Ty_api_Piece fun b1 w2 =>
  (kAlloc w2 #[.int .i64 (0 : Int), .int .i64 (0 : Int), .int .i64 (0 : Int), .int .i64 (0 : Int), .slice none 0 0] Ty_api_Piece fun b2 w3 =>
  (∃ x_0 : Int, ∃ x_1 : Int, ∃ x_2 : Int, ∃ x_3 : Int, ∃ x_4_a : Option Addr, ∃ x_4_l : Nat, ∃ x_4_c : Nat, cellsAt w3 ⟨b, 0, none⟩ 0 [(.int .i64 x_0), (.int .i64 x_1), (.int .i64 x_2), (.int .i64 x_3), (.slice x_4_a x_4_l x_4_c)] ∧
  (Calls Try.prog N_ref18_Valid #[(.int .i64 bits), (.agg #[.int .i64 x_0, .int .i64 x_1, .int .i64 x_2, .int .i64 x_3, .slice x_4_a x_4_l x_4_c])] w3 fun e_ w4 =>
  ∃ r : Bool, e_ = .returned (.bool r) ∧
  (bsplit (!r)
    ((sxStore w4 ⟨b1, 0, none⟩ 0 [(.int .i64 (0 : Int)), (.int .i64 (0 : Int)), (.int .i64 (0 : Int)), (.int .i64 (0 : Int)), (.slice none 0 0)] fun w5 =>
    (sxStore w5 ⟨b2, 0, none⟩ 0 [(.int .i64 (0 : Int)), (.int .i64 (0 : Int)), (.int .i64 (0 : Int)), (.int .i64 (0 : Int)), (.slice none 0 0)] fun w6 =>
    (∃ r_0 : Int, ∃ r_1 : Int, ∃ r_2 : Int, ∃ r_3 : Int, ∃ r_4_a : Option Addr, ∃ r_4_l : Nat, ∃ r_4_c : Nat, cellsAt w6 ⟨b1, 0, none⟩ 0 [(.int .i64 r_0), (.int .i64 r_1), (.int .i64 r_2), (.int .i64 r_3), (.slice r_4_a r_4_l r_4_c)] ∧
    (∃ r_01 : Int, ∃ r_11 : Int, ∃ r_21 : Int, ∃ r_31 : Int, ∃ r_4_a1 : Option Addr, ∃ r_4_l1 : Nat, ∃ r_4_c1 : Nat, cellsAt w6 ⟨b2, 0, none⟩ 0 [(.int .i64 r_01), (.int .i64 r_11), (.int .i64 r_21), (.int .i64 r_31), (.slice r_4_a1 r_4_l1 r_4_c1)] ∧
    R (.tuple #[(.agg #[.int .i64 r_0, .int .i64 r_1, .int .i64 r_2, .int .i64 r_3, .slice r_4_a r_4_l r_4_c]), (.agg #[.int .i64 r_01, .int .i64 r_11, .int .i64 r_21, .int .i64 r_31, .slice r_4_a1 r_4_l1 r_4_c1]), (.int .i64 (1 : Int))]) w6)))))
    ((kLd w4 ⟨b, 1, none⟩ .i64 fun x =>
    (Calls Try.prog N_ref18_Head #[(.int .i64 x)] w4 fun e_1 w7 =>
    ∃ r1 : Int, e_1 = .returned (.int .i64 r1) ∧
    (kW .i64 (r1 + (1 : Int)) fun x1 =>
    (bsplit (decide (size < x1))
      ((sxStore w7 ⟨b1, 0, none⟩ 0 [(.int .i64 (0 : Int)), (.int .i64 (0 : Int)), (.int .i64 (0 : Int)), (.int .i64 (0 : Int)), (.slice none 0 0)] fun w8 =>
      (sxStore w8 ⟨b2, 0, none⟩ 0 [(.int .i64 (0 : Int)), (.int .i64 (0 : Int)), (.int .i64 (0 : Int)), (.int .i64 (0 : Int)), (.slice none 0 0)] fun w9 =>
      (∃ r_02 : Int, ∃ r_12 : Int, ∃ r_22 : Int, ∃ r_32 : Int, ∃ r_4_a2 : Option Addr, ∃ r_4_l2 : Nat, ∃ r_4_c2 : Nat, cellsAt w9 ⟨b1, 0, none⟩ 0 [(.int .i64 r_02), (.int .i64 r_12), (.int .i64 r_22), (.int .i64 r_32), (.slice r_4_a2 r_4_l2 r_4_c2)] ∧
      (∃ r_03 : Int, ∃ r_13 : Int, ∃ r_23 : Int, ∃ r_33 : Int, ∃ r_4_a3 : Option Addr, ∃ r_4_l3 : Nat, ∃ r_4_c3 : Nat, cellsAt w9 ⟨b2, 0, none⟩ 0 [(.int .i64 r_03), (.int .i64 r_13), (.int .i64 r_23), (.int .i64 r_33), (.slice r_4_a3 r_4_l3 r_4_c3)] ∧
      R (.tuple #[(.agg #[.int .i64 r_02, .int .i64 r_12, .int .i64 r_22, .int .i64 r_32, .slice r_4_a2 r_4_l2 r_4_c2]), (.agg #[.int .i64 r_03, .int .i64 r_13, .int .i64 r_23, .int .i64 r_33, .slice r_4_a3 r_4_l3 r_4_c3]), (.int .i64 (15 : Int))]) w9)))))
      ((kLdS w7 ⟨b, 4, none⟩ fun x_a x_l x_c =>
      (kW .i64 (r1 + (x_l : Int)) fun x2 =>
      (bsplit (decide (size ≥ x2))
        ((kLdS w7 ⟨b, 4, none⟩ fun x_a1 x_l1 x_c1 =>
        (AppP Try.prog #[Ty_S_uint8, Ty_S_uint8] Ty_S_uint8 #[(.slice none 0 0), (.slice x_a1 x_l1 x_c1)] w7 fun x_a2 x_l2 x_c2 w10 =>
        (kSet w10 ⟨b, 4, none⟩ (.slice x_a2 x_l2 x_c2) fun w11 =>
        (∃ x_01 : Int, ∃ x_11 : Int, ∃ x_21 : Int, ∃ x_31 : Int, ∃ x_4_a1 : Option Addr, ∃ x_4_l1 : Nat, ∃ x_4_c1 : Nat, cellsAt w11 ⟨b, 0, none⟩ 0 [(.int .i64 x_01), (.int .i64 x_11), (.int .i64 x_21), (.int .i64 x_31), (.slice x_4_a1 x_4_l1 x_4_c1)] ∧
        (sxStore w11 ⟨b1, 0, none⟩ 0 [(.int .i64 x_01), (.int .i64 x_11), (.int .i64 x_21), (.int .i64 x_31), (.slice x_4_a1 x_4_l1 x_4_c1)] fun w12 =>
        (sxStore w12 ⟨b2, 0, none⟩ 0 [(.int .i64 (0 : Int)), (.int .i64 (0 : Int)), (.int .i64 (0 : Int)), (.int .i64 (0 : Int)), (.slice none 0 0)] fun w13 =>
        (∃ r_04 : Int, ∃ r_14 : Int, ∃ r_24 : Int, ∃ r_34 : Int, ∃ r_4_a4 : Option Addr, ∃ r_4_l4 : Nat, ∃ r_4_c4 : Nat, cellsAt w13 ⟨b1, 0, none⟩ 0 [(.int .i64 r_04), (.int .i64 r_14), (.int .i64 r_24), (.int .i64 r_34), (.slice r_4_a4 r_4_l4 r_4_c4)] ∧
        (∃ r_05 : Int, ∃ r_15 : Int, ∃ r_25 : Int, ∃ r_35 : Int, ∃ r_4_a5 : Option Addr, ∃ r_4_l5 : Nat, ∃ r_4_c5 : Nat, cellsAt w13 ⟨b2, 0, none⟩ 0 [(.int .i64 r_05), (.int .i64 r_15), (.int .i64 r_25), (.int .i64 r_35), (.slice r_4_a5 r_4_l5 r_4_c5)] ∧
        R (.tuple #[(.agg #[.int .i64 r_04, .int .i64 r_14, .int .i64 r_24, .int .i64 r_34, .slice r_4_a4 r_4_l4 r_4_c4]), (.agg #[.int .i64 r_05, .int .i64 r_15, .int .i64 r_25, .int .i64 r_35, .slice r_4_a5 r_4_l5 r_4_c5]), (.int .i64 (0 : Int))]) w13)))))))))
        ((kW .i64 (size - r1) fun x3 =>
        (∃ J : Addr → Addr → World → Prop,
        (∀ (_junk : Env) (first : Addr) (rest : Addr) (w23 : World), J first rest w23 →
          (kLdS w23 ⟨b, 4, none⟩ fun x_a3 x_l3 x_c3 =>
          ((0 ≤ x3 ∧ x3 ≤ ((x_c3 : Nat) : Int)) ∧ (AppP Try.prog #[Ty_S_uint8, Ty_S_uint8] Ty_S_uint8 #[(.slice none 0 0), (.slice (slAddr x_c3 0 1 x_a3) (x3.toNat - 0) (x_c3 - 0))] w23 fun x_a4 x_l4 x_c4 w24 =>
          (kSet w24 (first.add 4) (.slice x_a4 x_l4 x_c4) fun w25 =>
          (kLdS w25 ⟨b, 4, none⟩ fun x_a5 x_l5 x_c5 =>
          ((0 ≤ x3 ∧ x3 ≤ ((x_l5 : Nat) : Int)) ∧ (AppP Try.prog #[Ty_S_uint8, Ty_S_uint8] Ty_S_uint8 #[(.slice none 0 0), (.slice (slAddr x_c5 (x3.toNat) 1 x_a5) (x_l5 - x3.toNat) (x_c5 - x3.toNat))] w25 fun x_a6 x_l6 x_c6 w26 =>
          (kSet w26 (rest.add 4) (.slice x_a6 x_l6 x_c6) fun w27 =>
          (kLd w27 ⟨b, 3, none⟩ .i64 fun x4 =>
          (kW .i64 (x4 + x3) fun x5 =>
          (kSet w27 (rest.add 3) (.int .i64 x5) fun w28 =>
          (∃ J1 : World → Prop,
          (∀ (_junk : Env)  (w33 : World), J1 w33 →
            (kDrew w33 fun w34 =>
            (∃ S1 : Nat → Prop,
            (∃ x_04 : Int, ∃ x_14 : Int, ∃ x_24 : Int, ∃ x_34 : Int, ∃ x_4_a4 : Option Addr, ∃ x_4_l4 : Nat, ∃ x_4_c4 : Nat, cellsAt w34 first 0 [(.int .i64 x_04), (.int .i64 x_14), (.int .i64 x_24), (.int .i64 x_34), (.slice x_4_a4 x_4_l4 x_4_c4)] ∧
            (S1 rest.block ∧
            (∃ x_05 : Int, ∃ x_15 : Int, ∃ x_25 : Int, ∃ x_35 : Int, ∃ x_4_a5 : Option Addr, ∃ x_4_l5 : Nat, ∃ x_4_c5 : Nat, cellsAt w34 rest 0 [(.int .i64 x_05), (.int .i64 x_15), (.int .i64 x_25), (.int .i64 x_35), (.slice x_4_a5 x_4_l5 x_4_c5)] ∧
            (sxStore w34 ⟨b1, 0, none⟩ 0 [(.int .i64 x_04), (.int .i64 x_14), (.int .i64 x_24), (.int .i64 x_34), (.slice x_4_a4 x_4_l4 x_4_c4)] fun w35 =>
            (KeepsB S1 w34 w35 ∧ (sxStore w35 ⟨b2, 0, none⟩ 0 [(.int .i64 x_05), (.int .i64 x_15), (.int .i64 x_25), (.int .i64 x_35), (.slice x_4_a5 x_4_l5 x_4_c5)] fun w36 =>
            (KeepsB S1 w34 w36 ∧ (∃ r_06 : Int, ∃ r_16 : Int, ∃ r_26 : Int, ∃ r_36 : Int, ∃ r_4_a6 : Option Addr, ∃ r_4_l6 : Nat, ∃ r_4_c6 : Nat, cellsAt w36 ⟨b1, 0, none⟩ 0 [(.int .i64 r_06), (.int .i64 r_16), (.int .i64 r_26), (.int .i64 r_36), (.slice r_4_a6 r_4_l6 r_4_c6)] ∧
            (∃ r_07 : Int, ∃ r_17 : Int, ∃ r_27 : Int, ∃ r_37 : Int, ∃ r_4_a7 : Option Addr, ∃ r_4_l7 : Nat, ∃ r_4_c7 : Nat, cellsAt w36 ⟨b2, 0, none⟩ 0 [(.int .i64 r_07), (.int .i64 r_17), (.int .i64 r_27), (.int .i64 r_37), (.slice r_4_a7 r_4_l7 r_4_c7)] ∧
            R (.tuple #[(.agg #[.int .i64 r_06, .int .i64 r_16, .int .i64 r_26, .int .i64 r_36, .slice r_4_a6 r_4_l6 r_4_c6]), (.agg #[.int .i64 r_07, .int .i64 r_17, .int .i64 r_27, .int .i64 r_37, .slice r_4_a7 r_4_l7 r_4_c7]), (.int .i64 (0 : Int))]) w36)))))))))))) ∧
          (kLd w28 ⟨b, 1, none⟩ .i64 fun x6 =>
          (kLet (decide (x6 = (0 : Int))) fun x7 =>
          (bsplit x7
            ((kSet w28 (first.add 1) (.int .i64 (1 : Int)) fun w29 =>
            (kSet w29 (rest.add 1) (.int .i64 (2 : Int)) fun w30 =>
            J1 w30)))
            ((kLet (decide (x6 = (1 : Int))) fun x8 =>
            (bsplit x8
              ((kSet w28 (rest.add 1) (.int .i64 (3 : Int)) fun w31 =>
              J1 w31))
              ((kLet (decide (x6 = (2 : Int))) fun x9 =>
              (bsplit x9
                ((kSet w28 (first.add 1) (.int .i64 (3 : Int)) fun w32 =>
                J1 w32))
                (J1 w28))))))))))))))))))))))) ∧
        (kDrew w7 fun w14 =>
        (∃ S : Nat → Prop,
        (S b ∧
        (∃ x_02 : Int, ∃ x_12 : Int, ∃ x_22 : Int, ∃ x_32 : Int, ∃ x_4_a2 : Option Addr, ∃ x_4_l2 : Nat, ∃ x_4_c2 : Nat, cellsAt w14 ⟨b, 0, none⟩ 0 [(.int .i64 x_02), (.int .i64 x_12), (.int .i64 x_22), (.int .i64 x_32), (.slice x_4_a2 x_4_l2 x_4_c2)] ∧
        (S b ∧
        (∃ x_03 : Int, ∃ x_13 : Int, ∃ x_23 : Int, ∃ x_33 : Int, ∃ x_4_a3 : Option Addr, ∃ x_4_l3 : Nat, ∃ x_4_c3 : Nat, cellsAt w14 ⟨b, 0, none⟩ 0 [(.int .i64 x_03), (.int .i64 x_13), (.int .i64 x_23), (.int .i64 x_33), (.slice x_4_a3 x_4_l3 x_4_c3)] ∧
        ((kAlloc w14 #[.int .i64 (0 : Int), .int .i64 (0 : Int), .int .i64 (0 : Int), .int .i64 (0 : Int), .slice none 0 0] Ty_api_Piece fun b5 w19 =>
        (KeepsB S w14 w19 ∧ (kAlloc w19 #[.int .i64 (0 : Int), .int .i64 (0 : Int), .int .i64 (0 : Int), .int .i64 (0 : Int), .slice none 0 0] Ty_api_Piece fun b6 w20 =>
        (KeepsB S w14 w20 ∧ (sxStore w20 ⟨b5, 0, none⟩ 0 [(.int .i64 x_02), (.int .i64 x_12), (.int .i64 x_22), (.int .i64 x_32), (.slice x_4_a2 x_4_l2 x_4_c2)] fun w21 =>
        (KeepsB S w14 w21 ∧ (sxStore w21 ⟨b6, 0, none⟩ 0 [(.int .i64 x_03), (.int .i64 x_13), (.int .i64 x_23), (.int .i64 x_33), (.slice x_4_a3 x_4_l3 x_4_c3)] fun w22 =>
        J ⟨b5, 0, none⟩ ⟨b6, 0, none⟩ w22))))))) ∧
        ((kAlloc w14 #[.int .i64 (0 : Int), .int .i64 (0 : Int), .int .i64 (0 : Int), .int .i64 (0 : Int), .slice none 0 0] Ty_api_Piece fun b3 w15 =>
        (KeepsB S w14 w15 ∧ (kAlloc w15 #[.int .i64 (0 : Int), .int .i64 (0 : Int), .int .i64 (0 : Int), .int .i64 (0 : Int), .slice none 0 0] Ty_api_Piece fun b4 w16 =>
        (KeepsB S w14 w16 ∧ (sxStore w16 ⟨b4, 0, none⟩ 0 [(.int .i64 x_02), (.int .i64 x_12), (.int .i64 x_22), (.int .i64 x_32), (.slice x_4_a2 x_4_l2 x_4_c2)] fun w17 =>
        (KeepsB S w14 w17 ∧ (sxStore w17 ⟨b3, 0, none⟩ 0 [(.int .i64 x_03), (.int .i64 x_13), (.int .i64 x_23), (.int .i64 x_33), (.slice x_4_a3 x_4_l3 x_4_c3)] fun w18 =>
        J ⟨b4, 0, none⟩ ⟨b3, 0, none⟩ w18))))))) ∧
        True))))))))))))))))))))))))))
theorem F_ref18_Cut_eq (bits : Int) (p_0 : Int) (p_1 : Int) (p_2 : Int) (p_3 : Int) (p_4_a : Option Addr) (p_4_l : Nat) (p_4_c : Nat) (size : Int) (w : World) (R : Value → World → Prop) : sxFn Try.prog TT h_ref18_Cut Try.f21 #[(.int .i64 bits), (.agg #[.int .i64 p_0, .int .i64 p_1, .int .i64 p_2, .int .i64 p_3, .slice p_4_a p_4_l p_4_c]), (.int .i64 size)] w R = F_ref18_Cut bits p_0 p_1 p_2 p_3 p_4_a p_4_l p_4_c size w R := by kernel_rfl
theorem F_ref18_Cut_ok {R : Ending → World → Prop} (bits : Int) (p_0 : Int) (p_1 : Int) (p_2 : Int) (p_3 : Int) (p_4_a : Option Addr) (p_4_l : Nat) (p_4_c : Nat) (size : Int) (w : World) (h : F_ref18_Cut bits p_0 p_1 p_2 p_3 p_4_a p_4_l p_4_c size w fun v w' => R (.returned v) w') : Calls Try.prog N_ref18_Cut #[(.int .i64 bits), (.agg #[.int .i64 p_0, .int .i64 p_1, .int .i64 p_2, .int .i64 p_3, .slice p_4_a p_4_l p_4_c]), (.int .i64 size)] w R :=
  calls_of (f := 21) follows_ok Try.func21 (Eq.mpr (F_ref18_Cut_eq bits p_0 p_1 p_2 p_3 p_4_a p_4_l p_4_c size w _) h)

def h_segment_Valid : H := (.seq .reg (.seq (.cut [(39, .p .bool)] [5, 6, 7, 8, 9, 10, 11, 12, 13, 14, 15, 16, 17, 18, 19, 20, 21, 22, 23, 24, 25, 26, 27, 28, 29, 30, 31, 32, 33, 34, 35, 36, 37, 38, 39] (.draw .blk (.one 0 .pre (.one 1 .keep (.one 2 .stable (.one 3 .stable (.one 4 .stable (.one 5 .stable (.one 6 .stable (.one 7 .stable (.one 8 .stable (.one 9 .stable (.one 10 .stable (.one 11 .stable (.one 12 .stable (.one 13 .stable (.one 14 .stable (.one 15 .stable (.one 16 .stable (.one 17 .stable (.one 18 .stable (.one 19 .stable (.one 20 .stable (.one 21 .stable (.one 22 .stable (.one 23 .stable (.one 24 .stable (.one 25 .stable (.one 26 .stable (.one 27 .stable (.one 28 .stable (.one 29 .stable (.one 30 .stable (.one 31 .stable (.one 32 .stable (.one 33 .stable (.one 34 .stable .nil)))))))))))))))))))))))))))))))))))) (.cond (.seq .reg .leaf) .leaf)) (.cut [] [4, 40, 41, 42, 43, 44, 45, 46, 47, 48, 49, 50, 51, 52, 53, 54, 55, 56] (.seq (.draw .blk (.one 0 .pre (.one 1 .pre (.one 3 .stable (.one 4 .stable (.one 5 .stable (.one 2 .keep (.one 6 .stable (.one 7 .stable (.one 8 .stable (.one 9 .stable (.one 10 .stable (.one 11 .stable (.one 12 .stable (.one 13 .stable (.one 14 .stable (.one 15 .stable (.one 16 .stable .nil)))))))))))))))))) (.cond (.seq .reg .leaf) .leaf)) (.seq .reg .leaf))))
def F_segment_Valid (bits : Int) (p_0 : Int) (p_1 : Int) (p_2 : Int) (p_3 : Int) (p_4_a : Option Addr) (p_4_l : Nat) (p_4_c : Nat) (w : World) (R : Value → World → Prop) : Prop :=
  (kAlloc w #[(.int .i64 p_0), (.int .i64 p_1), (.int .i64 p_2), (.int .i64 p_3), (.slice p_4_a p_4_l p_4_c)] Ty_api_Piece fun b w1 =>
  (∃ J : Bool → World → Prop,
  (∀ (_junk : Env) (x7 : Bool) (w4 : World), J x7 w4 →
    (bsplit x7
      (R (.bool false) w4)
      ((∃ J1 : World → Prop,
      (∀ (_junk : Env)  (w7 : World), J1 w7 →
        (kLdS w7 ⟨b, 4, none⟩ fun x_a x_l x_c =>
        (bsplit (decide ((x_l : Int) ≥ (1 : Int)))
          ((kLdS w7 ⟨b, 4, none⟩ fun x_a1 x_l1 x_c1 =>
          (kLd w7 ⟨b, 3, none⟩ .i64 fun x12 =>
          (kW .i64 ((2054 : Int) - x12) fun x13 =>
          (kLet (decide ((x_l1 : Int) ≤ x13)) fun x14 =>
          R (.bool x14) w7)))))
          (R (.bool false) w7)))) ∧
      (kDrew w4 fun w5 =>
      (∃ S1 : Nat → Prop,
      (kLd w5 ⟨b, 1, none⟩ .i64 fun x8 =>
      (S1 b ∧
      (kLd w5 ⟨b, 3, none⟩ .i64 fun x9 =>
      (Calls Try.prog N_segment_begins #[(.int .i64 x8)] w5 fun e_1 w6 =>
      ∃ r1 : Bool, e_1 = .returned (.bool r1) ∧
      (KeepsB S1 w5 w6 ∧ (bsplit (!(r1 == (decide (x9 = (0 : Int)))))
        (R (.bool false) w6)
        ((S1 b ∧
        (kLd w5 ⟨b, 3, none⟩ .i64 fun x10 =>
        (bsplit (decide (x10 < (0 : Int)))
          (R (.bool false) w6)
          ((S1 b ∧
          (kLd w5 ⟨b, 3, none⟩ .i64 fun x11 =>
          (bsplit (decide (x11 > (2054 : Int)))
            (R (.bool false) w6)
            (J1 w6))))))))))))))))))))) ∧
  (kDrew w1 fun w2 =>
  (∃ S : Nat → Prop,
  (Calls Try.prog N_counter_Bits #[(.int .i64 bits)] w2 fun e_ w3 =>
  ∃ r : Bool, e_ = .returned (.bool r) ∧
  (KeepsB S w2 w3 ∧ (bsplit (!r)
    (J true w3)
    ((S b ∧
    (kLd w2 ⟨b, 0, none⟩ .i64 fun x =>
    (bsplit (decide (x < (0 : Int)))
      (J true w3)
      ((S b ∧
      (kLd w2 ⟨b, 0, none⟩ .i64 fun x1 =>
      (0 ≤ bits ∧ (kW .i64 ((1 : Int) * 2 ^ (min bits.toNat (IntKind.bits .i64))) fun x2 =>
      (bsplit (decide (x1 ≥ x2))
        (J true w3)
        ((S b ∧
        (kLd w2 ⟨b, 1, none⟩ .i64 fun x3 =>
        (bsplit (decide (x3 < (0 : Int)))
          (J true w3)
          ((S b ∧
          (kLd w2 ⟨b, 1, none⟩ .i64 fun x4 =>
          (bsplit (decide (x4 > (3 : Int)))
            (J true w3)
            ((S b ∧
            (kLd w2 ⟨b, 2, none⟩ .i64 fun x5 =>
            (bsplit (decide (x5 < (0 : Int)))
              (J true w3)
              ((S b ∧
              (kLd w2 ⟨b, 2, none⟩ .i64 fun x6 =>
              J (decide (x6 > (1 : Int))) w3))))))))))))))))))))))))))))))))
theorem F_segment_Valid_eq (bits : Int) (p_0 : Int) (p_1 : Int) (p_2 : Int) (p_3 : Int) (p_4_a : Option Addr) (p_4_l : Nat) (p_4_c : Nat) (w : World) (R : Value → World → Prop) : sxFn Try.prog TT h_segment_Valid Try.f22 #[(.int .i64 bits), (.agg #[.int .i64 p_0, .int .i64 p_1, .int .i64 p_2, .int .i64 p_3, .slice p_4_a p_4_l p_4_c])] w R = F_segment_Valid bits p_0 p_1 p_2 p_3 p_4_a p_4_l p_4_c w R := by kernel_rfl
theorem F_segment_Valid_ok {R : Ending → World → Prop} (bits : Int) (p_0 : Int) (p_1 : Int) (p_2 : Int) (p_3 : Int) (p_4_a : Option Addr) (p_4_l : Nat) (p_4_c : Nat) (w : World) (h : F_segment_Valid bits p_0 p_1 p_2 p_3 p_4_a p_4_l p_4_c w fun v w' => R (.returned v) w') : Calls Try.prog N_segment_Valid #[(.int .i64 bits), (.agg #[.int .i64 p_0, .int .i64 p_1, .int .i64 p_2, .int .i64 p_3, .slice p_4_a p_4_l p_4_c])] w R :=
  calls_of (f := 22) follows_ok Try.func22 (Eq.mpr (F_segment_Valid_eq bits p_0 p_1 p_2 p_3 p_4_a p_4_l p_4_c w _) h)

def h_ref18_Valid : H := (.seq .reg (.seq (.cut [(65, .p .bool)] [5, 6, 7, 8, 9, 10, 11, 12, 13, 14, 15, 16, 17, 18, 19, 20, 21, 22, 23, 24, 25, 26, 27, 28, 29, 30, 31, 32, 33, 34, 35, 36, 37, 38, 39, 40, 41, 42, 43, 44, 45, 46, 47, 48, 49, 50, 51, 52, 53, 54, 55, 56, 57, 58, 59, 60, 61, 62, 63, 64, 65] .reg (.cond (.seq .reg .leaf) .leaf)) (.seq (.seq .reg (.cond (.seq .reg .leaf) .leaf)) (.seq .reg .leaf))))
def F_ref18_Valid (bits : Int) (p_0 : Int) (p_1 : Int) (p_2 : Int) (p_3 : Int) (p_4_a : Option Addr) (p_4_l : Nat) (p_4_c : Nat) (w : World) (R : Value → World → Prop) : Prop :=
  (kAlloc w #[(.int .i64 p_0), (.int .i64 p_1), (.int .i64 p_2), (.int .i64 p_3), (.slice p_4_a p_4_l p_4_c)] Ty_api_Piece fun b w1 =>
  (∃ J : Bool → World → Prop,
  (∀ (_junk : Env) (x12 : Bool) (w3 : World), J x12 w3 →
    (bsplit x12
      (R (.bool false) w3)
      ((kLd w3 ⟨b, 1, none⟩ .i64 fun x13 =>
      (bsplit (decide (x13 = (0 : Int)))
        ((kLd w3 ⟨b, 3, none⟩ .i64 fun x14 =>
          (kLet (decide (x14 = (0 : Int))) fun x15 =>
          R (.bool x15) w3)))
        ((kLd w3 ⟨b, 1, none⟩ .i64 fun x18 =>
        (bsplit (decide (x18 = (1 : Int)))
          ((kLd w3 ⟨b, 3, none⟩ .i64 fun x19 =>
          (kLet (decide (x19 = (0 : Int))) fun x20 =>
          R (.bool x20) w3)))
          ((kLd w3 ⟨b, 3, none⟩ .i64 fun x21 =>
          (kLet (decide (x21 > (0 : Int))) fun x22 =>
          R (.bool x22) w3))))))))))) ∧
  (Calls Try.prog N_ref15_Bits #[(.int .i64 bits)] w1 fun e_ w2 =>
  ∃ r : Bool, e_ = .returned (.bool r) ∧
  (bsplit (!r)
    (J true w2)
    ((kLd w2 ⟨b, 0, none⟩ .i64 fun x =>
    (bsplit (decide (x < (0 : Int)))
      (J true w2)
      ((kLd w2 ⟨b, 0, none⟩ .i64 fun x1 =>
      (kW .u64 (bits) fun x2 =>
      (0 ≤ x2 ∧ (kW .i64 ((1 : Int) * 2 ^ (min x2.toNat (IntKind.bits .i64))) fun x3 =>
      (bsplit (decide (x1 ≥ x3))
        (J true w2)
        ((kLd w2 ⟨b, 1, none⟩ .i64 fun x4 =>
        (bsplit (decide (x4 < (0 : Int)))
          (J true w2)
          ((kLd w2 ⟨b, 1, none⟩ .i64 fun x5 =>
          (bsplit (decide (x5 > (3 : Int)))
            (J true w2)
            ((kLd w2 ⟨b, 2, none⟩ .i64 fun x6 =>
            (bsplit (decide (x6 < (0 : Int)))
              (J true w2)
              ((kLd w2 ⟨b, 2, none⟩ .i64 fun x7 =>
              (bsplit (decide (x7 > (1 : Int)))
                (J true w2)
                ((kLdS w2 ⟨b, 4, none⟩ fun x_a x_l x_c =>
                (bsplit (decide ((x_l : Int) < (1 : Int)))
                  (J true w2)
                  ((kLd w2 ⟨b, 3, none⟩ .i64 fun x8 =>
                  (bsplit (decide (x8 < (0 : Int)))
                    (J true w2)
                    ((kLd w2 ⟨b, 3, none⟩ .i64 fun x9 =>
                    (bsplit (decide (x9 > (2054 : Int)))
                      (J true w2)
                      ((kLd w2 ⟨b, 3, none⟩ .i64 fun x10 =>
                      (kLdS w2 ⟨b, 4, none⟩ fun x_a1 x_l1 x_c1 =>
                      (kW .i64 (x10 + (x_l1 : Int)) fun x11 =>
                      J (decide (x11 > (2054 : Int))) w2))))))))))))))))))))))))))))))))))))))
theorem F_ref18_Valid_eq (bits : Int) (p_0 : Int) (p_1 : Int) (p_2 : Int) (p_3 : Int) (p_4_a : Option Addr) (p_4_l : Nat) (p_4_c : Nat) (w : World) (R : Value → World → Prop) : sxFn Try.prog TT h_ref18_Valid Try.f23 #[(.int .i64 bits), (.agg #[.int .i64 p_0, .int .i64 p_1, .int .i64 p_2, .int .i64 p_3, .slice p_4_a p_4_l p_4_c])] w R = F_ref18_Valid bits p_0 p_1 p_2 p_3 p_4_a p_4_l p_4_c w R := by kernel_rfl
theorem F_ref18_Valid_ok {R : Ending → World → Prop} (bits : Int) (p_0 : Int) (p_1 : Int) (p_2 : Int) (p_3 : Int) (p_4_a : Option Addr) (p_4_l : Nat) (p_4_c : Nat) (w : World) (h : F_ref18_Valid bits p_0 p_1 p_2 p_3 p_4_a p_4_l p_4_c w fun v w' => R (.returned v) w') : Calls Try.prog N_ref18_Valid #[(.int .i64 bits), (.agg #[.int .i64 p_0, .int .i64 p_1, .int .i64 p_2, .int .i64 p_3, .slice p_4_a p_4_l p_4_c])] w R :=
  calls_of (f := 23) follows_ok Try.func23 (Eq.mpr (F_ref18_Valid_eq bits p_0 p_1 p_2 p_3 p_4_a p_4_l p_4_c w _) h)

def h_ref18_Same : H := (.seq .reg (.seq .reg .leaf))
def F_ref18_Same (a_0 : Int) (a_1 : Int) (a_2 : Int) (a_3 : Int) (a_4_a : Option Addr) (a_4_l : Nat) (a_4_c : Nat) (b_0 : Int) (b_1 : Int) (b_2 : Int) (b_3 : Int) (b_4_a : Option Addr) (b_4_l : Nat) (b_4_c : Nat) (w : World) (R : Value → World → Prop) : Prop :=
  (kAlloc w #[(.int .i64 a_0), (.int .i64 a_1), (.int .i64 a_2), (.int .i64 a_3), (.slice a_4_a a_4_l a_4_c)] Ty_api_Piece fun b w1 =>
  (kAlloc w1 #[(.int .i64 b_0), (.int .i64 b_1), (.int .i64 b_2), (.int .i64 b_3), (.slice b_4_a b_4_l b_4_c)] Ty_api_Piece fun b1 w2 =>
  (kLd w2 ⟨b, 0, none⟩ .i64 fun x =>
  (kLd w2 ⟨b1, 0, none⟩ .i64 fun x1 =>
  (bsplit (decide (x = x1))
    ((kLd w2 ⟨b, 1, none⟩ .i64 fun x2 =>
    (kLd w2 ⟨b1, 1, none⟩ .i64 fun x3 =>
    (bsplit (decide (x2 = x3))
      ((kLd w2 ⟨b, 2, none⟩ .i64 fun x4 =>
      (kLd w2 ⟨b1, 2, none⟩ .i64 fun x5 =>
      (bsplit (decide (x4 = x5))
        ((kLd w2 ⟨b, 3, none⟩ .i64 fun x6 =>
        (kLd w2 ⟨b1, 3, none⟩ .i64 fun x7 =>
        (bsplit (decide (x6 = x7))
          ((kLdS w2 ⟨b, 4, none⟩ fun x_a x_l x_c =>
          (kLdS w2 ⟨b1, 4, none⟩ fun x_a1 x_l1 x_c1 =>
          (Calls Try.prog N_ref01_Same #[(.slice x_a x_l x_c), (.slice x_a1 x_l1 x_c1)] w2 fun e_ w3 =>
          ∃ r : Bool, e_ = .returned (.bool r) ∧
          R (.bool r) w3))))
          (R (.bool false) w2)))))
        (R (.bool false) w2)))))
      (R (.bool false) w2)))))
    (R (.bool false) w2))))))
theorem F_ref18_Same_eq (a_0 : Int) (a_1 : Int) (a_2 : Int) (a_3 : Int) (a_4_a : Option Addr) (a_4_l : Nat) (a_4_c : Nat) (b_0 : Int) (b_1 : Int) (b_2 : Int) (b_3 : Int) (b_4_a : Option Addr) (b_4_l : Nat) (b_4_c : Nat) (w : World) (R : Value → World → Prop) : sxFn Try.prog TT h_ref18_Same Try.f24 #[(.agg #[.int .i64 a_0, .int .i64 a_1, .int .i64 a_2, .int .i64 a_3, .slice a_4_a a_4_l a_4_c]), (.agg #[.int .i64 b_0, .int .i64 b_1, .int .i64 b_2, .int .i64 b_3, .slice b_4_a b_4_l b_4_c])] w R = F_ref18_Same a_0 a_1 a_2 a_3 a_4_a a_4_l a_4_c b_0 b_1 b_2 b_3 b_4_a b_4_l b_4_c w R := by kernel_rfl
theorem F_ref18_Same_ok {R : Ending → World → Prop} (a_0 : Int) (a_1 : Int) (a_2 : Int) (a_3 : Int) (a_4_a : Option Addr) (a_4_l : Nat) (a_4_c : Nat) (b_0 : Int) (b_1 : Int) (b_2 : Int) (b_3 : Int) (b_4_a : Option Addr) (b_4_l : Nat) (b_4_c : Nat) (w : World) (h : F_ref18_Same a_0 a_1 a_2 a_3 a_4_a a_4_l a_4_c b_0 b_1 b_2 b_3 b_4_a b_4_l b_4_c w fun v w' => R (.returned v) w') : Calls Try.prog N_ref18_Same #[(.agg #[.int .i64 a_0, .int .i64 a_1, .int .i64 a_2, .int .i64 a_3, .slice a_4_a a_4_l a_4_c]), (.agg #[.int .i64 b_0, .int .i64 b_1, .int .i64 b_2, .int .i64 b_3, .slice b_4_a b_4_l b_4_c])] w R :=
  calls_of (f := 24) follows_ok Try.func24 (Eq.mpr (F_ref18_Same_eq a_0 a_1 a_2 a_3 a_4_a a_4_l a_4_c b_0 b_1 b_2 b_3 b_4_a b_4_l b_4_c w _) h)

def h_made_Dice_Spoil : H := (.seq .reg (.seq .reg (.seq .reg (.seq (.seq .reg (.cond (.seq .reg .leaf) .leaf)) (.seq .reg (.seq (.seq .reg (.block (.seq .reg (.cond .reg (.seq .reg (.cond (.draw .blk (.one 0 .stable (.one 1 .stable (.one 2 .stable (.one 3 .stable (.one 4 .pre (.one 5 .keep (.one 6 .stable (.one 7 .stable (.one 8 .stable (.one 9 .stable (.one 10 .last .nil)))))))))))) (.seq .reg (.cond (.draw .blk (.one 0 .pre (.one 1 .pre (.one 2 .pre (.one 3 .pre (.one 4 .pre (.one 5 .pre (.one 6 .pre (.one 7 .keep (.one 8 .stable .nil)))))))))) (.draw .blk (.one 0 .stable (.one 1 .stable (.one 2 .stable (.one 3 .pre (.one 5 .stable (.one 6 .stable (.one 7 .stable (.one 4 .keep (.one 8 .keep (.one 9 .keep (.one 10 .stable .nil)))))))))))))))))))) (.seq .reg .leaf)))))))
def F_made_Dice_Spoil (d_b : Nat) (d_o : Nat) (b_a : Option Addr) (b_l : Nat) (b_c : Nat) (w : World) (R : Value → World → Prop) : Prop :=
  (AppP Try.prog #[Ty_S_uint8, Ty_S_uint8] Ty_S_uint8 #[(.slice none 0 0), (.slice b_a b_l b_c)] w fun x_a x_l x_c w1 =>
  (Calls Try.prog N_made_Dice_Next #[(.pointer (some ⟨d_b, d_o, none⟩)), (.int .i64 (256 : Int))] w1 fun e_ w2 =>
  ∃ r : Int, e_ = .returned (.int .i64 r) ∧
  (kW .u8 (r) fun x =>
  (bsplit (decide ((x_l : Int) = (0 : Int)))
    ((kAlloc w2 #[(.int .u8 x)] Ty_uint8 fun b w3 =>
    R (.slice (some ⟨b, 0, none⟩) 1 1) w3))
    ((Calls Try.prog N_made_Dice_Next #[(.pointer (some ⟨d_b, d_o, none⟩)), (.int .i64 (x_l : Int))] w2 fun e_1 w4 =>
    ∃ r1 : Int, e_1 = .returned (.int .i64 r1) ∧
    (Calls Try.prog N_made_Dice_Next #[(.pointer (some ⟨d_b, d_o, none⟩)), (.int .i64 (4 : Int))] w4 fun e_2 w5 =>
    ∃ r2 : Int, e_2 = .returned (.int .i64 r2) ∧
    (kLet (decide (r2 = (0 : Int))) fun x1 =>
    (bsplit x1
      ((kIx x_a x_l r1 fun b1 =>
      (kSet w5 (b1.add (r1.toNat * 1)) (.int .u8 x) fun w6 =>
      R (.slice x_a x_l x_c) w6)))
      ((kLet (decide (r2 = (1 : Int))) fun x2 =>
      (bsplit x2
        ((kDrew w5 fun w7 =>
        (∃ S : Nat → Prop,
        (kIx x_a x_l r1 fun b2 =>
        (S (b2.add (r1.toNat * 1)).block ∧
        (kLd w7 (b2.add (r1.toNat * 1)) .u8 fun x3 =>
        (Calls Try.prog N_made_Dice_Next #[(.pointer (some ⟨d_b, d_o, none⟩)), (.int .i64 (8 : Int))] w7 fun e_3 w8 =>
        ∃ r3 : Int, e_3 = .returned (.int .i64 r3) ∧
        (KeepsB S w7 w8 ∧ (kW .u64 (r3) fun x4 =>
        (0 ≤ x4 ∧ (kW .u8 ((1 : Int) * 2 ^ (min x4.toNat (IntKind.bits .u8))) fun x5 =>
        (kLet (bXor .u8 x3 x5) fun x6 =>
        (kIx x_a x_l r1 fun b3 =>
        (kSet w8 (b3.add (r1.toNat * 1)) (.int .u8 x6) fun w9 =>
        R (.slice x_a x_l x_c) w9))))))))))))))
        ((kLet (decide (r2 = (2 : Int))) fun x7 =>
        (bsplit x7
          ((kDrew w5 fun w10 =>
          (∃ S1 : Nat → Prop,
          ((0 ≤ r1 ∧ r1 ≤ ((x_c : Nat) : Int)) ∧ (kW .i64 (r1 + (1 : Int)) fun x8 =>
          ((0 ≤ x8 ∧ x8 ≤ ((x_l : Nat) : Int)) ∧ (AppP Try.prog #[Ty_S_uint8, Ty_S_uint8] Ty_S_uint8 #[(.slice (slAddr x_c 0 1 x_a) (r1.toNat - 0) (x_c - 0)), (.slice (slAddr x_c (x8.toNat) 1 x_a) (x_l - x8.toNat) (x_c - x8.toNat))] w10 fun x_a1 x_l1 x_c1 w11 =>
          (KeepsB S1 w10 w11 ∧ R (.slice x_a1 x_l1 x_c1) w11))))))))
          ((kDrew w5 fun w12 =>
          (∃ S2 : Nat → Prop,
          ((0 ≤ r1 ∧ r1 ≤ ((x_c : Nat) : Int)) ∧ ((0 ≤ r1 ∧ r1 ≤ ((x_l : Nat) : Int)) ∧ (kAlloc w12 #[(.int .u8 x)] Ty_uint8 fun b4 w13 =>
          (KeepsB S2 w12 w13 ∧ (AppP Try.prog #[Ty_S_uint8, Ty_S_uint8] Ty_S_uint8 #[(.slice (some ⟨b4, 0, none⟩) 1 1), (.slice (slAddr x_c (r1.toNat) 1 x_a) (x_l - r1.toNat) (x_c - r1.toNat))] w13 fun x_a2 x_l2 x_c2 w14 =>
          (KeepsB S2 w12 w14 ∧ (AppP Try.prog #[Ty_S_uint8, Ty_S_uint8] Ty_S_uint8 #[(.slice (slAddr x_c 0 1 x_a) (r1.toNat - 0) (x_c - 0)), (.slice x_a2 x_l2 x_c2)] w14 fun x_a3 x_l3 x_c3 w15 =>
          (KeepsB S2 w12 w15 ∧ R (.slice x_a3 x_l3 x_c3) w15))))))))))))))))))))))))))
theorem F_made_Dice_Spoil_eq (d_b : Nat) (d_o : Nat) (b_a : Option Addr) (b_l : Nat) (b_c : Nat) (w : World) (R : Value → World → Prop) : sxFn Try.prog TT h_made_Dice_Spoil Try.f25 #[(.pointer (some ⟨d_b, d_o, none⟩)), (.slice b_a b_l b_c)] w R = F_made_Dice_Spoil d_b d_o b_a b_l b_c w R := by kernel_rfl
theorem F_made_Dice_Spoil_ok {R : Ending → World → Prop} (d_b : Nat) (d_o : Nat) (b_a : Option Addr) (b_l : Nat) (b_c : Nat) (w : World) (h : F_made_Dice_Spoil d_b d_o b_a b_l b_c w fun v w' => R (.returned v) w') : Calls Try.prog N_made_Dice_Spoil #[(.pointer (some ⟨d_b, d_o, none⟩)), (.slice b_a b_l b_c)] w R :=
  calls_of (f := 25) follows_ok Try.func25 (Eq.mpr (F_made_Dice_Spoil_eq d_b d_o b_a b_l b_c w _) h)

def h_made_Dice_Ranges : H := (.seq .reg (.seq .reg (.seq .reg (.seq (.seq .reg (.block (.loop [(7, .p .slice), (8, .p (.int .i64)), (9, .p (.int .i64))] [7, 8, 9, 10, 17, 18, 19, 20, 21, 22, 23, 24, 25, 26, 27, 28, 29, 30, 31, 32, 33, 34, 35, 36, 37] (.seq (.seq .reg (.cond .leaf .leaf)) (.seq (.block (.seq .reg (.seq .reg .reg))) .reg))))) (.seq .reg .leaf)))))
def F_made_Dice_Ranges (d_b : Nat) (d_o : Nat) (sn : Int) (most : Int) (w : World) (R : Value → World → Prop) : Prop :=
  (Calls Try.prog N_made_Dice_Next #[(.pointer (some ⟨d_b, d_o, none⟩)), (.int .i64 (3 : Int))] w fun e_ w1 =>
  ∃ r : Int, e_ = .returned (.int .i64 r) ∧
  (kW .i64 (most + (1 : Int)) fun x =>
  (Calls Try.prog N_made_Dice_Next #[(.pointer (some ⟨d_b, d_o, none⟩)), (.int .i64 x)] w1 fun e_1 w2 =>
  ∃ r1 : Int, e_1 = .returned (.int .i64 r1) ∧
  (∃ I : Option Addr → Nat → Nat → Int → Int → Nat × (World → Prop), (I none 0 0 r r1).2 w2 ∧
  (∀ (_junk : Env) (l_a : Option Addr) (l_l : Nat) (l_c : Nat) (at1 : Int) (n : Int) (w3 : World), (I l_a l_l l_c at1 n).2 w3 →
    (bsplit (decide (n > (0 : Int)))
      ((kW .i64 (at1 + (1 : Int)) fun x1 =>
      (Calls Try.prog N_made_Dice_Next #[(.pointer (some ⟨d_b, d_o, none⟩)), (.int .i64 (6 : Int))] w3 fun e_2 w4 =>
      ∃ r2 : Int, e_2 = .returned (.int .i64 r2) ∧
      (kW .i64 (x1 + r2) fun x2 =>
      (kAlloc w4 #[(.int .i64 sn), (.int .i64 at1), (.int .i64 x2)] Ty_api_Range fun b w5 =>
      (AppP Try.prog #[Ty_S_api_Range, Ty_S_api_Range] Ty_S_api_Range #[(.slice l_a l_l l_c), (.slice (some ⟨b, 0, none⟩) 1 1)] w5 fun x_a x_l x_c w6 =>
      (kW .i64 (x2 + (1 : Int)) fun x3 =>
      (Calls Try.prog N_made_Dice_Next #[(.pointer (some ⟨d_b, d_o, none⟩)), (.int .i64 (4 : Int))] w6 fun e_3 w7 =>
      ∃ r3 : Int, e_3 = .returned (.int .i64 r3) ∧
      (kW .i64 (x3 + r3) fun x4 =>
      (kW .i64 (n - (1 : Int)) fun x5 =>
      ((I x_a x_l x_c x4 x5).2 w7 ∧ (I x_a x_l x_c x4 x5).1 < (I l_a l_l l_c at1 n).1)))))))))))
      (R (.slice l_a l_l l_c) w3)))))))
theorem F_made_Dice_Ranges_eq (d_b : Nat) (d_o : Nat) (sn : Int) (most : Int) (w : World) (R : Value → World → Prop) : sxFn Try.prog TT h_made_Dice_Ranges Try.f26 #[(.pointer (some ⟨d_b, d_o, none⟩)), (.int .i64 sn), (.int .i64 most)] w R = F_made_Dice_Ranges d_b d_o sn most w R := by kernel_rfl
theorem F_made_Dice_Ranges_ok {R : Ending → World → Prop} (d_b : Nat) (d_o : Nat) (sn : Int) (most : Int) (w : World) (h : F_made_Dice_Ranges d_b d_o sn most w fun v w' => R (.returned v) w') : Calls Try.prog N_made_Dice_Ranges #[(.pointer (some ⟨d_b, d_o, none⟩)), (.int .i64 sn), (.int .i64 most)] w R :=
  calls_of (f := 26) follows_ok Try.func26 (Eq.mpr (F_made_Dice_Ranges_eq d_b d_o sn most w _) h)

def h_made_Dice_One : H := (.seq .reg (.seq .reg .leaf))
def F_made_Dice_One (d_b : Nat) (d_o : Nat) (n : Int) (w : World) (R : Value → World → Prop) : Prop :=
  (Calls Try.prog N_made_Dice_Next #[(.pointer (some ⟨d_b, d_o, none⟩)), (.int .i64 n)] w fun e_ w1 =>
  ∃ r : Int, e_ = .returned (.int .i64 r) ∧
  (kW .i64 (n - (1 : Int)) fun x =>
  (kLet (decide (r = x)) fun x1 =>
  R (.bool x1) w1)))
theorem F_made_Dice_One_eq (d_b : Nat) (d_o : Nat) (n : Int) (w : World) (R : Value → World → Prop) : sxFn Try.prog TT h_made_Dice_One Try.f27 #[(.pointer (some ⟨d_b, d_o, none⟩)), (.int .i64 n)] w R = F_made_Dice_One d_b d_o n w R := by kernel_rfl
theorem F_made_Dice_One_ok {R : Ending → World → Prop} (d_b : Nat) (d_o : Nat) (n : Int) (w : World) (h : F_made_Dice_One d_b d_o n w fun v w' => R (.returned v) w') : Calls Try.prog N_made_Dice_One #[(.pointer (some ⟨d_b, d_o, none⟩)), (.int .i64 n)] w R :=
  calls_of (f := 27) follows_ok Try.func27 (Eq.mpr (F_made_Dice_One_eq d_b d_o n w _) h)

def h_made_Dice_OddRange : H := (.seq .reg (.seq .reg (.seq (.seq .reg (.cond (.seq .reg .leaf) .leaf)) (.seq .reg (.seq (.seq .reg (.block (.seq .reg (.cond (.draw .blk (.one 0 .stable (.one 1 .stable (.one 2 .stable (.one 3 .stable (.one 4 .stable (.one 5 .pre (.one 6 .keep (.one 7 .stable (.one 8 .stable (.one 9 .stable (.one 10 .stable (.one 11 .last .nil))))))))))))) (.seq .reg (.cond (.draw .blk (.one 0 .stable (.one 1 .stable (.one 2 .stable (.one 3 .stable (.one 4 .stable (.one 5 .pre (.one 6 .keep (.one 7 .stable (.one 8 .stable (.one 9 .stable (.one 10 .stable (.one 11 .last .nil))))))))))))) (.seq .reg (.cond (.draw .blk (.one 0 .stable (.one 1 .stable (.one 2 .stable (.one 3 .stable (.one 4 .stable (.one 5 .stable (.one 6 .stable (.one 8 .stable (.alt 7 (.one 9 .keep (.one 10 .stable (.one 11 .keep (.one 12 .stable (.one 13 .stable (.one 14 .last .nil)))))) (.alt 9 (.one 7 .keep (.one 10 .stable (.one 11 .keep (.one 12 .stable (.one 13 .stable (.one 14 .last .nil)))))) .endAlt))))))))))) .reg)))))))) (.seq .reg .leaf))))))
def F_made_Dice_OddRange (d_b : Nat) (d_o : Nat) (l_a : Option Addr) (l_l : Nat) (l_c : Nat) (w : World) (R : Value → World → Prop) : Prop :=
  (AppP Try.prog #[Ty_S_api_Range, Ty_S_api_Range] Ty_S_api_Range #[(.slice none 0 0), (.slice l_a l_l l_c)] w fun x_a x_l x_c w1 =>
  (bsplit (decide ((x_l : Int) = (0 : Int)))
    ((Calls Try.prog N_made_Dice_Next #[(.pointer (some ⟨d_b, d_o, none⟩)), (.int .i64 (5 : Int))] w1 fun e_ w2 =>
    ∃ r : Int, e_ = .returned (.int .i64 r) ∧
    (kAlloc w2 #[(.int .i64 (0 : Int)), (.int .i64 (3 : Int)), (.int .i64 r)] Ty_api_Range fun b w3 =>
    R (.slice (some ⟨b, 0, none⟩) 1 1) w3)))
    ((Calls Try.prog N_made_Dice_Next #[(.pointer (some ⟨d_b, d_o, none⟩)), (.int .i64 (x_l : Int))] w1 fun e_1 w4 =>
    ∃ r1 : Int, e_1 = .returned (.int .i64 r1) ∧
    (Calls Try.prog N_made_Dice_Next #[(.pointer (some ⟨d_b, d_o, none⟩)), (.int .i64 (4 : Int))] w4 fun e_2 w5 =>
    ∃ r2 : Int, e_2 = .returned (.int .i64 r2) ∧
    (kLet (decide (r2 = (0 : Int))) fun x =>
    (bsplit x
      ((kDrew w5 fun w6 =>
      (∃ S : Nat → Prop,
      (kIx x_a x_l r1 fun b1 =>
      (S (b1.add (r1.toNat * 3)).block ∧
      (kLd w6 (b1.add (r1.toNat * 3)) .i64 fun x1 =>
      (Calls Try.prog N_made_Dice_Next #[(.pointer (some ⟨d_b, d_o, none⟩)), (.int .i64 (3 : Int))] w6 fun e_3 w7 =>
      ∃ r3 : Int, e_3 = .returned (.int .i64 r3) ∧
      (KeepsB S w6 w7 ∧ (kW .i64 (r3 - (1 : Int)) fun x2 =>
      (kW .i64 (x1 + x2) fun x3 =>
      (kIx x_a x_l r1 fun b2 =>
      (kSet w7 (b2.add (r1.toNat * 3)) (.int .i64 x3) fun w8 =>
      R (.slice x_a x_l x_c) w8))))))))))))
      ((kLet (decide (r2 = (1 : Int))) fun x4 =>
      (bsplit x4
        ((kDrew w5 fun w9 =>
        (∃ S1 : Nat → Prop,
        (kIx x_a x_l r1 fun b3 =>
        (S1 ((b3.add (r1.toNat * 3)).add 1).block ∧
        (kLd w9 ((b3.add (r1.toNat * 3)).add 1) .i64 fun x5 =>
        (Calls Try.prog N_made_Dice_Next #[(.pointer (some ⟨d_b, d_o, none⟩)), (.int .i64 (5 : Int))] w9 fun e_4 w10 =>
        ∃ r4 : Int, e_4 = .returned (.int .i64 r4) ∧
        (KeepsB S1 w9 w10 ∧ (kW .i64 (r4 - (2 : Int)) fun x6 =>
        (kW .i64 (x5 + x6) fun x7 =>
        (kIx x_a x_l r1 fun b4 =>
        (kSet w10 ((b4.add (r1.toNat * 3)).add 1) (.int .i64 x7) fun w11 =>
        R (.slice x_a x_l x_c) w11))))))))))))
        ((kLet (decide (r2 = (2 : Int))) fun x8 =>
        (bsplit x8
          ((kDrew w5 fun w12 =>
          (∃ S2 : Nat → Prop,
          (kIx x_a x_l r1 fun b5 =>
          (S2 ((b5.add (r1.toNat * 3)).add 1).block ∧
          (kLd w12 ((b5.add (r1.toNat * 3)).add 1) .i64 fun x9 =>
          ((kAlloc w12 #[(.int .i64 (0 : Int)), (.int .i64 (65535 : Int)), (.int .i64 (65536 : Int)), (.int .i64 x9)] Ty_int fun b9 w16 =>
          (KeepsB S2 w12 w16 ∧ (Calls Try.prog N_made_Dice_Next #[(.pointer (some ⟨d_b, d_o, none⟩)), (.int .i64 (4 : Int))] w16 fun e_6 w17 =>
          ∃ r6 : Int, e_6 = .returned (.int .i64 r6) ∧
          (KeepsB S2 w12 w17 ∧ (kIx (some ⟨b9, 0, none⟩) 4 r6 fun b10 =>
          (kLd w17 (b10.add (r6.toNat * 1)) .i64 fun x11 =>
          (KeepsB S2 w12 w17 ∧ (kIx x_a x_l r1 fun b11 =>
          (kSet w17 ((b11.add (r1.toNat * 3)).add 2) (.int .i64 x11) fun w18 =>
          R (.slice x_a x_l x_c) w18))))))))) ∧
          ((Calls Try.prog N_made_Dice_Next #[(.pointer (some ⟨d_b, d_o, none⟩)), (.int .i64 (4 : Int))] w12 fun e_5 w13 =>
          ∃ r5 : Int, e_5 = .returned (.int .i64 r5) ∧
          (KeepsB S2 w12 w13 ∧ (kAlloc w13 #[(.int .i64 (0 : Int)), (.int .i64 (65535 : Int)), (.int .i64 (65536 : Int)), (.int .i64 x9)] Ty_int fun b6 w14 =>
          (KeepsB S2 w12 w14 ∧ (kIx (some ⟨b6, 0, none⟩) 4 r5 fun b7 =>
          (kLd w14 (b7.add (r5.toNat * 1)) .i64 fun x10 =>
          (KeepsB S2 w12 w14 ∧ (kIx x_a x_l r1 fun b8 =>
          (kSet w14 ((b8.add (r1.toNat * 3)).add 2) (.int .i64 x10) fun w15 =>
          R (.slice x_a x_l x_c) w15))))))))) ∧
          True))))))))
          ((kIx x_a x_l r1 fun b12 =>
          (∃ x_0 : Int, ∃ x_1 : Int, ∃ x_2 : Int, cellsAt w5 (b12.add (r1.toNat * 3)) 0 [(.int .i64 x_0), (.int .i64 x_1), (.int .i64 x_2)] ∧
          (kAlloc w5 #[(.int .i64 x_0), (.int .i64 x_1), (.int .i64 x_2)] Ty_api_Range fun b13 w19 =>
          (AppP Try.prog #[Ty_S_api_Range, Ty_S_api_Range] Ty_S_api_Range #[(.slice x_a x_l x_c), (.slice (some ⟨b13, 0, none⟩) 1 1)] w19 fun x_a1 x_l1 x_c1 w20 =>
          R (.slice x_a1 x_l1 x_c1) w20))))))))))))))))))
theorem F_made_Dice_OddRange_eq (d_b : Nat) (d_o : Nat) (l_a : Option Addr) (l_l : Nat) (l_c : Nat) (w : World) (R : Value → World → Prop) : sxFn Try.prog TT h_made_Dice_OddRange Try.f28 #[(.pointer (some ⟨d_b, d_o, none⟩)), (.slice l_a l_l l_c)] w R = F_made_Dice_OddRange d_b d_o l_a l_l l_c w R := by kernel_rfl
theorem F_made_Dice_OddRange_ok {R : Ending → World → Prop} (d_b : Nat) (d_o : Nat) (l_a : Option Addr) (l_l : Nat) (l_c : Nat) (w : World) (h : F_made_Dice_OddRange d_b d_o l_a l_l l_c w fun v w' => R (.returned v) w') : Calls Try.prog N_made_Dice_OddRange #[(.pointer (some ⟨d_b, d_o, none⟩)), (.slice l_a l_l l_c)] w R :=
  calls_of (f := 28) follows_ok Try.func28 (Eq.mpr (F_made_Dice_OddRange_eq d_b d_o l_a l_l l_c w _) h)

def h_segment_Union : H := (.seq .reg (.cut [] [4, 5, 10, 11, 12, 13, 14, 15, 16, 17, 18] (.seq .reg (.cond (.seq .reg .leaf) .leaf)) (.seq .reg (.seq (.seq .reg (.block (.loop [(6, .p .slice), (7, .p .slice), (21, .p (.int .i64))] [6, 7, 9, 21, 22, 23, 24, 25, 26, 27, 28, 29, 30, 31, 32, 33, 34, 35, 36, 37, 38, 39, 40, 41, 42, 43, 44, 45, 46, 47, 48, 49, 50, 51, 52, 53, 54, 55, 56, 57, 58, 59, 60] (.seq .reg (.seq (.cond .leaf .leaf) (.seq (.block (.seq .reg (.seq .reg (.block (.seq .reg (.cond .reg (.seq .reg (.cond .reg (.draw .blk (.one 0 .pre (.one 1 .pre (.one 2 .pre (.one 3 .pre (.one 4 .pre (.one 5 .pre (.one 6 .pre (.one 7 .stable (.one 8 .stable (.one 9 .stable (.one 10 .pre (.one 11 .keep (.one 12 .stable (.one 13 .last .nil))))))))))))))))))))))) .reg)))))) (.seq .reg .leaf)))))
def F_segment_Union (l_a : Option Addr) (l_l : Nat) (l_c : Nat) (r_0 : Int) (r_1 : Int) (r_2 : Int) (w : World) (R : Value → World → Prop) : Prop :=
  (kAlloc w #[(.int .i64 r_0), (.int .i64 r_1), (.int .i64 r_2)] Ty_api_Range fun b w1 =>
  (∃ J : World → Prop,
  (∀ (_junk : Env)  (w5 : World), J w5 →
    (∃ I : Option Addr → Nat → Nat → Option Addr → Nat → Nat → Int → Nat × (World → Prop), (I none 0 0 none 0 0 (0 : Int)).2 w5 ∧
    (∀ (_junk : Env) (before_a : Option Addr) (before_l : Nat) (before_c : Nat) (behind_a : Option Addr) (behind_l : Nat) (behind_c : Nat) (x : Int) (w6 : World), (I before_a before_l before_c behind_a behind_l behind_c x).2 w6 →
      (bsplit (decide (x < (l_l : Int)))
        ((kIx l_a l_l x fun b2 =>
        (∃ x_01 : Int, ∃ x_11 : Int, ∃ x_21 : Int, cellsAt w6 (b2.add (x.toNat * 3)) 0 [(.int .i64 x_01), (.int .i64 x_11), (.int .i64 x_21)] ∧
        (kAlloc w6 #[.int .i64 (0 : Int), .int .i64 (0 : Int), .int .i64 (0 : Int)] Ty_api_Range fun b3 w7 =>
        (sxStore w7 ⟨b3, 0, none⟩ 0 [(.int .i64 x_01), (.int .i64 x_11), (.int .i64 x_21)] fun w8 =>
        (kLd w8 ⟨b, 0, none⟩ .i64 fun x1 =>
        (kSet w8 ⟨b3, 0, none⟩ (.int .i64 x1) fun w9 =>
        (kLd w9 ⟨b3, 2, none⟩ .i64 fun x2 =>
        (kLd w9 ⟨b, 1, none⟩ .i64 fun x3 =>
        (kLet (decide (x2 < x3)) fun x4 =>
        (bsplit x4
          ((∃ x_02 : Int, ∃ x_12 : Int, ∃ x_22 : Int, cellsAt w9 ⟨b3, 0, none⟩ 0 [(.int .i64 x_02), (.int .i64 x_12), (.int .i64 x_22)] ∧
          (kAlloc w9 #[(.int .i64 x_02), (.int .i64 x_12), (.int .i64 x_22)] Ty_api_Range fun b4 w10 =>
          (AppP Try.prog #[Ty_S_api_Range, Ty_S_api_Range] Ty_S_api_Range #[(.slice before_a before_l before_c), (.slice (some ⟨b4, 0, none⟩) 1 1)] w10 fun x_a x_l x_c w11 =>
          (kW .i64 (x + (1 : Int)) fun x5 =>
          ((I x_a x_l x_c behind_a behind_l behind_c x5).2 w11 ∧ (I x_a x_l x_c behind_a behind_l behind_c x5).1 < (I before_a before_l before_c behind_a behind_l behind_c x).1))))))
          ((kLd w9 ⟨b3, 1, none⟩ .i64 fun x6 =>
          (kLd w9 ⟨b, 2, none⟩ .i64 fun x7 =>
          (kLet (decide (x6 > x7)) fun x8 =>
          (bsplit x8
            ((∃ x_03 : Int, ∃ x_13 : Int, ∃ x_23 : Int, cellsAt w9 ⟨b3, 0, none⟩ 0 [(.int .i64 x_03), (.int .i64 x_13), (.int .i64 x_23)] ∧
            (kAlloc w9 #[(.int .i64 x_03), (.int .i64 x_13), (.int .i64 x_23)] Ty_api_Range fun b5 w12 =>
            (AppP Try.prog #[Ty_S_api_Range, Ty_S_api_Range] Ty_S_api_Range #[(.slice behind_a behind_l behind_c), (.slice (some ⟨b5, 0, none⟩) 1 1)] w12 fun x_a1 x_l1 x_c1 w13 =>
            (kW .i64 (x + (1 : Int)) fun x9 =>
            ((I before_a before_l before_c x_a1 x_l1 x_c1 x9).2 w13 ∧ (I before_a before_l before_c x_a1 x_l1 x_c1 x9).1 < (I before_a before_l before_c behind_a behind_l behind_c x).1))))))
            ((kDrew w9 fun w14 =>
            (∃ S : Nat → Prop,
            (kLd w14 ⟨b, 1, none⟩ .i64 fun x10 =>
            (kLd w14 ⟨b3, 1, none⟩ .i64 fun x11 =>
            (kLd w14 ⟨b, 2, none⟩ .i64 fun x12 =>
            (S b3 ∧
            (kLd w14 ⟨b3, 2, none⟩ .i64 fun x13 =>
            (kSet w14 ⟨b, 1, none⟩ (.int .i64 (if x11 < x10 then x11 else x10)) fun w15 =>
            (KeepsB S w14 w15 ∧ (kSet w15 ⟨b, 2, none⟩ (.int .i64 (if x13 > x12 then x13 else x12)) fun w16 =>
            (kW .i64 (x + (1 : Int)) fun x14 =>
            ((I before_a before_l before_c behind_a behind_l behind_c x14).2 w16 ∧ (I before_a before_l before_c behind_a behind_l behind_c x14).1 < (I before_a before_l before_c behind_a behind_l behind_c x).1)))))))))))))))))))))))))))))
        ((∃ x_04 : Int, ∃ x_14 : Int, ∃ x_24 : Int, cellsAt w6 ⟨b, 0, none⟩ 0 [(.int .i64 x_04), (.int .i64 x_14), (.int .i64 x_24)] ∧
        (kAlloc w6 #[(.int .i64 x_04), (.int .i64 x_14), (.int .i64 x_24)] Ty_api_Range fun b6 w17 =>
        (kAlloc w17 #[(.slice before_a before_l before_c), (.slice (some ⟨b6, 0, none⟩) 1 1), (.slice behind_a behind_l behind_c)] Ty_S_api_Range fun b7 w18 =>
        (Calls Try.prog N_slices_Concat_Sapi_Range_api_Range #[(.slice (some ⟨b7, 0, none⟩) 3 3)] w18 fun e_2 w19 =>
        ∃ r_a : Option Addr, ∃ r_l : Nat, ∃ r_c : Nat, e_2 = .returned (.slice r_a r_l r_c) ∧
        R (.tuple #[(.slice r_a r_l r_c), (.int .i64 (0 : Int))]) w19))))))))) ∧
  (Calls Try.prog N_segment_Normal #[(.slice l_a l_l l_c)] w1 fun e_ w2 =>
  ∃ r : Bool, e_ = .returned (.bool r) ∧
  (bsplit (!r)
    (R (.tuple #[(.slice none 0 0), (.int .i64 (4 : Int))]) w2)
    ((∃ x_0 : Int, ∃ x_1 : Int, ∃ x_2 : Int, cellsAt w2 ⟨b, 0, none⟩ 0 [(.int .i64 x_0), (.int .i64 x_1), (.int .i64 x_2)] ∧
    (kAlloc w2 #[(.int .i64 x_0), (.int .i64 x_1), (.int .i64 x_2)] Ty_api_Range fun b1 w3 =>
    (Calls Try.prog N_segment_Normal #[(.slice (some ⟨b1, 0, none⟩) 1 1)] w3 fun e_1 w4 =>
    ∃ r1 : Bool, e_1 = .returned (.bool r1) ∧
    (bsplit (!r1)
      (R (.tuple #[(.slice none 0 0), (.int .i64 (4 : Int))]) w4)
      (J w4))))))))))
theorem F_segment_Union_eq (l_a : Option Addr) (l_l : Nat) (l_c : Nat) (r_0 : Int) (r_1 : Int) (r_2 : Int) (w : World) (R : Value → World → Prop) : sxFn Try.prog TT h_segment_Union Try.f29 #[(.slice l_a l_l l_c), (.agg #[.int .i64 r_0, .int .i64 r_1, .int .i64 r_2])] w R = F_segment_Union l_a l_l l_c r_0 r_1 r_2 w R := by kernel_rfl
theorem F_segment_Union_ok {R : Ending → World → Prop} (l_a : Option Addr) (l_l : Nat) (l_c : Nat) (r_0 : Int) (r_1 : Int) (r_2 : Int) (w : World) (h : F_segment_Union l_a l_l l_c r_0 r_1 r_2 w fun v w' => R (.returned v) w') : Calls Try.prog N_segment_Union #[(.slice l_a l_l l_c), (.agg #[.int .i64 r_0, .int .i64 r_1, .int .i64 r_2])] w R :=
  calls_of (f := 29) follows_ok Try.func29 (Eq.mpr (F_segment_Union_eq l_a l_l l_c r_0 r_1 r_2 w _) h)

def h_ref18_Union : H := (.seq .reg (.cut [] [4, 5, 9, 10, 11, 12, 13, 14, 15, 16, 17] (.seq .reg (.cond (.seq .reg .leaf) .leaf)) (.seq .reg (.seq .reg (.cut [(6, .p .slice), (7, .p (.int .i64))] [6, 7, 18, 19, 20, 21, 22, 23, 24, 25, 26, 27, 28, 29, 30, 31, 32, 33, 34, 35, 36, 37, 38, 39, 40, 41, 42, 43, 44, 45, 46, 47, 48, 49] (.block (.loop [(6, .p .slice), (7, .p (.int .i64))] [6, 7, 18, 19, 20, 21, 22, 23, 24, 25, 26, 27, 28, 29, 30, 31, 32, 33, 34, 35, 36, 37, 38, 39, 40, 41, 42, 43, 44, 45, 46, 47, 48, 49] (.cut [] [18, 19, 20, 21, 22, 23, 24, 25, 26, 27, 28, 29, 30, 31] (.seq (.draw .no (.one 0 .stable (.one 1 .stable (.one 2 .stable (.one 3 .stable (.one 4 .stable (.one 5 .stable (.one 6 .stable (.one 7 .stable (.one 8 .stable (.one 9 .stable (.one 10 .stable (.one 11 .stable (.one 12 .stable (.one 13 .stable .nil))))))))))))))) (.cond .leaf .leaf)) (.block (.seq (.draw .blk (.one 0 .stable (.one 1 .pre (.one 2 .pre (.one 3 .pre (.one 4 .pre (.one 5 .pre (.one 6 .pre (.one 7 .pre (.one 8 .pre (.one 9 .pre (.one 10 .pre (.one 11 .pre (.one 12 .pre (.one 13 .keep (.one 14 .keep (.one 15 .keep (.one 16 .stable .nil)))))))))))))))))) .reg))))) (.seq .reg (.cut [(7, .p (.int .i64))] [7, 51, 52, 53, 54, 55, 56, 57, 58, 59, 60, 61, 62, 63, 64, 65, 66, 67, 68, 69, 70, 71, 72, 73, 74, 75, 76, 77, 78, 79, 80, 81, 82, 83, 84] (.block (.loop [(7, .p (.int .i64))] [7, 51, 52, 53, 54, 55, 56, 57, 58, 59, 60, 61, 62, 63, 64, 65, 66, 67, 68, 69, 70, 71, 72, 73, 74, 75, 76, 77, 78, 79, 80, 81, 82, 83, 84] (.cut [] [51, 52, 53, 54, 55, 56, 57, 58, 59, 60, 61, 62, 63, 64] (.seq (.draw .no (.one 0 .stable (.one 1 .stable (.one 2 .stable (.one 3 .stable (.one 4 .stable (.one 5 .stable (.one 6 .stable (.one 7 .stable (.one 8 .stable (.one 9 .stable (.one 10 .stable (.one 11 .stable (.one 12 .stable (.one 13 .stable .nil))))))))))))))) (.cond .leaf .leaf)) (.block (.seq (.draw .blk (.one 0 .pre (.one 1 .pre (.one 2 .pre (.one 3 .pre (.one 4 .pre (.one 5 .pre (.one 6 .pre (.one 7 .pre (.one 8 .pre (.one 9 .pre (.one 10 .stable (.one 11 .stable (.one 12 .stable (.one 13 .stable (.one 14 .stable (.one 15 .stable (.one 16 .pre (.one 17 .keep (.one 18 .stable (.one 19 .last .nil))))))))))))))))))))) .reg))))) (.seq .reg (.seq (.block (.loop [(6, .p .slice), (7, .p (.int .i64))] [6, 7, 89, 90, 91, 92, 93, 94, 95, 96, 97, 98, 99, 100, 101, 102, 103, 104, 105, 106, 107, 108, 109, 110] (.seq (.seq .reg (.cond .leaf .leaf)) (.block (.seq (.draw .blk (.one 0 .stable (.one 1 .pre (.one 2 .pre (.one 3 .pre (.one 4 .pre (.one 5 .pre (.one 6 .pre (.one 7 .pre (.one 8 .pre (.one 9 .pre (.one 10 .pre (.one 11 .pre (.one 12 .pre (.one 13 .keep (.one 14 .keep (.one 15 .keep (.one 16 .stable .nil)))))))))))))))))) .reg))))) (.seq .reg .leaf))))))))))
def F_ref18_Union (l_a : Option Addr) (l_l : Nat) (l_c : Nat) (r_0 : Int) (r_1 : Int) (r_2 : Int) (w : World) (R : Value → World → Prop) : Prop :=
  (kAlloc w #[(.int .i64 r_0), (.int .i64 r_1), (.int .i64 r_2)] Ty_api_Range fun b w1 =>
  (∃ J : World → Prop,
  (∀ (_junk : Env)  (w5 : World), J w5 →
    (∃ J1 : Option Addr → Nat → Nat → Int → World → Prop,
    (∀ (_junk : Env) (out_a1 : Option Addr) (out_l1 : Nat) (out_c1 : Nat) (i1 : Int) (w12 : World), J1 out_a1 out_l1 out_c1 i1 w12 →
      (∃ x_01 : Int, ∃ x_11 : Int, ∃ x_21 : Int, cellsAt w12 ⟨b, 0, none⟩ 0 [(.int .i64 x_01), (.int .i64 x_11), (.int .i64 x_21)] ∧
      (kAlloc w12 #[.int .i64 (0 : Int), .int .i64 (0 : Int), .int .i64 (0 : Int)] Ty_api_Range fun b6 w13 =>
      (sxStore w13 ⟨b6, 0, none⟩ 0 [(.int .i64 x_01), (.int .i64 x_11), (.int .i64 x_21)] fun w14 =>
      (∃ J3 : Int → World → Prop,
      (∀ (_junk : Env) (i3 : Int) (w21 : World), J3 i3 w21 →
        (∃ x_02 : Int, ∃ x_12 : Int, ∃ x_22 : Int, cellsAt w21 ⟨b6, 0, none⟩ 0 [(.int .i64 x_02), (.int .i64 x_12), (.int .i64 x_22)] ∧
        (kAlloc w21 #[(.int .i64 x_02), (.int .i64 x_12), (.int .i64 x_22)] Ty_api_Range fun b10 w22 =>
        (AppP Try.prog #[Ty_S_api_Range, Ty_S_api_Range] Ty_S_api_Range #[(.slice out_a1 out_l1 out_c1), (.slice (some ⟨b10, 0, none⟩) 1 1)] w22 fun x_a1 x_l1 x_c1 w23 =>
        (∃ I2 : Option Addr → Nat → Nat → Int → Nat × (World → Prop), (I2 x_a1 x_l1 x_c1 i3).2 w23 ∧
        (∀ (_junk : Env) (out_a2 : Option Addr) (out_l2 : Nat) (out_c2 : Nat) (i4 : Int) (w24 : World), (I2 out_a2 out_l2 out_c2 i4).2 w24 →
          (bsplit (decide (i4 < (l_l : Int)))
            ((kDrew w24 fun w25 =>
            (∃ S2 : Nat → Prop,
            (kLd w25 ⟨b, 0, none⟩ .i64 fun x13 =>
            (kIx l_a l_l i4 fun b11 =>
            (kLd w25 ((b11.add (i4.toNat * 3)).add 1) .i64 fun x14 =>
            (kIx l_a l_l i4 fun b12 =>
            (kLd w25 ((b12.add (i4.toNat * 3)).add 2) .i64 fun x15 =>
            (KeepsB S2 w25 w25 ∧ (kAlloc w25 #[(.int .i64 x13), (.int .i64 x14), (.int .i64 x15)] Ty_api_Range fun b13 w26 =>
            (KeepsB S2 w25 w26 ∧ (AppP Try.prog #[Ty_S_api_Range, Ty_S_api_Range] Ty_S_api_Range #[(.slice out_a2 out_l2 out_c2), (.slice (some ⟨b13, 0, none⟩) 1 1)] w26 fun x_a2 x_l2 x_c2 w27 =>
            (KeepsB S2 w25 w27 ∧ (kW .i64 (i4 + (1 : Int)) fun x16 =>
            ((I2 x_a2 x_l2 x_c2 x16).2 w27 ∧ (I2 x_a2 x_l2 x_c2 x16).1 < (I2 out_a2 out_l2 out_c2 i4).1)))))))))))))))
            (R (.tuple #[(.slice out_a2 out_l2 out_c2), (.int .i64 (0 : Int))]) w24)))))))) ∧
      (∃ I1 : Int → Nat × (World → Prop), (I1 i1).2 w14 ∧
      (∀ (_junk : Env) (i2 : Int) (w15 : World), (I1 i2).2 w15 →
        (∃ J4 : World → Prop,
        (∀ (_junk : Env)  (w17 : World), J4 w17 →
          (kDrew w17 fun w18 =>
          (∃ S1 : Nat → Prop,
          (kLd w18 ⟨b6, 1, none⟩ .i64 fun x8 =>
          (kIx l_a l_l i2 fun b8 =>
          (kLd w18 ((b8.add (i2.toNat * 3)).add 1) .i64 fun x9 =>
          (kLd w18 ⟨b6, 2, none⟩ .i64 fun x10 =>
          (kIx l_a l_l i2 fun b9 =>
          (S1 ((b9.add (i2.toNat * 3)).add 2).block ∧
          (kLd w18 ((b9.add (i2.toNat * 3)).add 2) .i64 fun x11 =>
          (kSet w18 ⟨b6, 1, none⟩ (.int .i64 (if x9 < x8 then x9 else x8)) fun w19 =>
          (KeepsB S1 w18 w19 ∧ (kSet w19 ⟨b6, 2, none⟩ (.int .i64 (if x11 > x10 then x11 else x10)) fun w20 =>
          (kW .i64 (i2 + (1 : Int)) fun x12 =>
          ((I1 x12).2 w20 ∧ (I1 x12).1 < (I1 i2).1))))))))))))))) ∧
        (kDrew w15 fun w16 =>
        (bsplit (decide (i2 < (l_l : Int)))
          ((kIx l_a l_l i2 fun b7 =>
          (kLd w16 ((b7.add (i2.toNat * 3)).add 1) .i64 fun x6 =>
          (kLd w16 ⟨b6, 2, none⟩ .i64 fun x7 =>
          (bsplit (decide (x6 ≤ x7))
            (J4 w16)
            (J3 i2 w16))))))
          (J3 i2 w16))))))))))) ∧
    (∃ I : Option Addr → Nat → Nat → Int → Nat × (World → Prop), (I none 0 0 (0 : Int)).2 w5 ∧
    (∀ (_junk : Env) (out_a : Option Addr) (out_l : Nat) (out_c : Nat) (i : Int) (w6 : World), (I out_a out_l out_c i).2 w6 →
      (∃ J2 : World → Prop,
      (∀ (_junk : Env)  (w8 : World), J2 w8 →
        (kDrew w8 fun w9 =>
        (∃ S : Nat → Prop,
        (kLd w9 ⟨b, 0, none⟩ .i64 fun x2 =>
        (kIx l_a l_l i fun b3 =>
        (kLd w9 ((b3.add (i.toNat * 3)).add 1) .i64 fun x3 =>
        (kIx l_a l_l i fun b4 =>
        (kLd w9 ((b4.add (i.toNat * 3)).add 2) .i64 fun x4 =>
        (KeepsB S w9 w9 ∧ (kAlloc w9 #[(.int .i64 x2), (.int .i64 x3), (.int .i64 x4)] Ty_api_Range fun b5 w10 =>
        (KeepsB S w9 w10 ∧ (AppP Try.prog #[Ty_S_api_Range, Ty_S_api_Range] Ty_S_api_Range #[(.slice out_a out_l out_c), (.slice (some ⟨b5, 0, none⟩) 1 1)] w10 fun x_a x_l x_c w11 =>
        (KeepsB S w9 w11 ∧ (kW .i64 (i + (1 : Int)) fun x5 =>
        ((I x_a x_l x_c x5).2 w11 ∧ (I x_a x_l x_c x5).1 < (I out_a out_l out_c i).1))))))))))))))) ∧
      (kDrew w6 fun w7 =>
      (bsplit (decide (i < (l_l : Int)))
        ((kIx l_a l_l i fun b2 =>
        (kLd w7 ((b2.add (i.toNat * 3)).add 2) .i64 fun x =>
        (kLd w7 ⟨b, 1, none⟩ .i64 fun x1 =>
        (bsplit (decide (x < x1))
          (J2 w7)
          (J1 out_a out_l out_c i w7))))))
        (J1 out_a out_l out_c i w7)))))))) ∧
  (Calls Try.prog N_ref18_Normal #[(.slice l_a l_l l_c)] w1 fun e_ w2 =>
  ∃ r : Bool, e_ = .returned (.bool r) ∧
  (bsplit (!r)
    (R (.tuple #[(.slice none 0 0), (.int .i64 (4 : Int))]) w2)
    ((∃ x_0 : Int, ∃ x_1 : Int, ∃ x_2 : Int, cellsAt w2 ⟨b, 0, none⟩ 0 [(.int .i64 x_0), (.int .i64 x_1), (.int .i64 x_2)] ∧
    (kAlloc w2 #[(.int .i64 x_0), (.int .i64 x_1), (.int .i64 x_2)] Ty_api_Range fun b1 w3 =>
    (Calls Try.prog N_ref18_Normal #[(.slice (some ⟨b1, 0, none⟩) 1 1)] w3 fun e_1 w4 =>
    ∃ r1 : Bool, e_1 = .returned (.bool r1) ∧
    (bsplit (!r1)
      (R (.tuple #[(.slice none 0 0), (.int .i64 (4 : Int))]) w4)
      (J w4))))))))))
theorem F_ref18_Union_eq (l_a : Option Addr) (l_l : Nat) (l_c : Nat) (r_0 : Int) (r_1 : Int) (r_2 : Int) (w : World) (R : Value → World → Prop) : sxFn Try.prog TT h_ref18_Union Try.f30 #[(.slice l_a l_l l_c), (.agg #[.int .i64 r_0, .int .i64 r_1, .int .i64 r_2])] w R = F_ref18_Union l_a l_l l_c r_0 r_1 r_2 w R := by kernel_rfl
theorem F_ref18_Union_ok {R : Ending → World → Prop} (l_a : Option Addr) (l_l : Nat) (l_c : Nat) (r_0 : Int) (r_1 : Int) (r_2 : Int) (w : World) (h : F_ref18_Union l_a l_l l_c r_0 r_1 r_2 w fun v w' => R (.returned v) w') : Calls Try.prog N_ref18_Union #[(.slice l_a l_l l_c), (.agg #[.int .i64 r_0, .int .i64 r_1, .int .i64 r_2])] w R :=
  calls_of (f := 30) follows_ok Try.func30 (Eq.mpr (F_ref18_Union_eq l_a l_l l_c r_0 r_1 r_2 w _) h)

def h_segment_Gaps : H := (.seq .reg (.seq (.seq .reg (.cond (.seq .reg .leaf) .leaf)) (.cut [] [6, 7, 8, 16, 17, 18, 19, 20, 21, 22, 23, 24, 25, 26, 27, 28, 29, 30, 31, 32, 33] (.seq .reg (.seq .reg (.cond (.seq .reg .leaf) .leaf))) (.seq .reg (.seq .reg (.seq (.seq .reg (.block (.loop [(9, .p .slice), (10, .p (.int .i64)), (42, .p (.int .i64))] [9, 10, 12, 42, 43, 44, 45, 46, 47, 48, 49, 50, 51, 52, 53, 54, 55, 56, 57, 58, 59, 60] (.seq .reg (.seq (.cond .leaf .leaf) (.seq (.block (.seq .reg (.seq (.seq .reg (.cond .reg .leaf)) .reg))) .reg)))))) (.seq .reg .leaf)))))))
def F_segment_Gaps (l_a : Option Addr) (l_l : Nat) (l_c : Nat) (sn : Int) (length : Int) (w : World) (R : Value → World → Prop) : Prop :=
  (Calls Try.prog N_segment_Normal #[(.slice l_a l_l l_c)] w fun e_ w1 =>
  ∃ r : Bool, e_ = .returned (.bool r) ∧
  (bsplit (!r)
    (R (.tuple #[(.slice none 0 0), (.int .i64 (4 : Int))]) w1)
    ((∃ J : World → Prop,
    (∀ (_junk : Env)  (w2 : World), J w2 →
      (Calls Try.prog N_slices_Clone_Sapi_Range_api_Range #[(.slice l_a l_l l_c)] w2 fun e_1 w3 =>
      ∃ r_a : Option Addr, ∃ r_l : Nat, ∃ r_c : Nat, e_1 = .returned (.slice r_a r_l r_c) ∧
      (kAlloc w3 #[(.int .i64 (0 : Int)), (.int .i64 length), (.int .i64 length)] Ty_api_Range fun b1 w4 =>
      (AppP Try.prog #[Ty_S_api_Range, Ty_S_api_Range] Ty_S_api_Range #[(.slice r_a r_l r_c), (.slice (some ⟨b1, 0, none⟩) 1 1)] w4 fun x_a x_l x_c w5 =>
      (∃ I : Option Addr → Nat → Nat → Int → Int → Nat × (World → Prop), (I none 0 0 (0 : Int) (0 : Int)).2 w5 ∧
      (∀ (_junk : Env) (out_a : Option Addr) (out_l : Nat) (out_c : Nat) (at1 : Int) (x2 : Int) (w6 : World), (I out_a out_l out_c at1 x2).2 w6 →
        (bsplit (decide (x2 < (x_l : Int)))
          ((kIx x_a x_l x2 fun b2 =>
          (∃ x_0 : Int, ∃ x_1 : Int, ∃ x_2 : Int, cellsAt w6 (b2.add (x2.toNat * 3)) 0 [(.int .i64 x_0), (.int .i64 x_1), (.int .i64 x_2)] ∧
          (kAlloc w6 #[.int .i64 (0 : Int), .int .i64 (0 : Int), .int .i64 (0 : Int)] Ty_api_Range fun b3 w7 =>
          (sxStore w7 ⟨b3, 0, none⟩ 0 [(.int .i64 x_0), (.int .i64 x_1), (.int .i64 x_2)] fun w8 =>
          (kLd w8 ⟨b3, 1, none⟩ .i64 fun x3 =>
          (bsplit (decide (x3 > at1))
            ((kLd w8 ⟨b3, 1, none⟩ .i64 fun x4 =>
            (kAlloc w8 #[(.int .i64 sn), (.int .i64 at1), (.int .i64 x4)] Ty_api_Range fun b4 w9 =>
            (AppP Try.prog #[Ty_S_api_Range, Ty_S_api_Range] Ty_S_api_Range #[(.slice out_a out_l out_c), (.slice (some ⟨b4, 0, none⟩) 1 1)] w9 fun x_a1 x_l1 x_c1 w10 =>
            (kLd w10 ⟨b3, 2, none⟩ .i64 fun x5 =>
            (kW .i64 (x2 + (1 : Int)) fun x6 =>
            ((I x_a1 x_l1 x_c1 x5 x6).2 w10 ∧ (I x_a1 x_l1 x_c1 x5 x6).1 < (I out_a out_l out_c at1 x2).1)))))))
            ((kLd w8 ⟨b3, 2, none⟩ .i64 fun x7 =>
            (kW .i64 (x2 + (1 : Int)) fun x8 =>
            ((I out_a out_l out_c x7 x8).2 w8 ∧ (I out_a out_l out_c x7 x8).1 < (I out_a out_l out_c at1 x2).1)))))))))))
          (R (.tuple #[(.slice out_a out_l out_c), (.int .i64 (0 : Int))]) w6)))))))) ∧
    (bsplit (decide (length < (0 : Int)))
      (R (.tuple #[(.slice none 0 0), (.int .i64 (3 : Int))]) w1)
      ((bsplit (decide ((l_l : Int) > (0 : Int)))
        ((kW .i64 ((l_l : Int) - (1 : Int)) fun x =>
        (kIx l_a l_l x fun b =>
        (kLd w1 ((b.add (x.toNat * 3)).add 2) .i64 fun x1 =>
        (bsplit (decide (length < x1))
          (R (.tuple #[(.slice none 0 0), (.int .i64 (3 : Int))]) w1)
          (J w1))))))
        (J w1))))))))
theorem F_segment_Gaps_eq (l_a : Option Addr) (l_l : Nat) (l_c : Nat) (sn : Int) (length : Int) (w : World) (R : Value → World → Prop) : sxFn Try.prog TT h_segment_Gaps Try.f31 #[(.slice l_a l_l l_c), (.int .i64 sn), (.int .i64 length)] w R = F_segment_Gaps l_a l_l l_c sn length w R := by kernel_rfl
theorem F_segment_Gaps_ok {R : Ending → World → Prop} (l_a : Option Addr) (l_l : Nat) (l_c : Nat) (sn : Int) (length : Int) (w : World) (h : F_segment_Gaps l_a l_l l_c sn length w fun v w' => R (.returned v) w') : Calls Try.prog N_segment_Gaps #[(.slice l_a l_l l_c), (.int .i64 sn), (.int .i64 length)] w R :=
  calls_of (f := 31) follows_ok Try.func31 (Eq.mpr (F_segment_Gaps_eq l_a l_l l_c sn length w _) h)

def h_ref18_Gaps : H := (.seq .reg (.seq (.seq .reg (.cond (.seq .reg .leaf) .leaf)) (.cut [] [6, 7, 14, 15, 16, 17, 18, 19, 20, 21, 22, 23, 24, 25, 26, 27, 28, 29, 30, 31] (.seq .reg (.cond (.seq .reg .leaf) .leaf)) (.seq .reg (.seq .reg (.seq (.seq .reg (.block (.loop [(8, .p .slice), (9, .p (.int .i64)), (10, .p (.int .i64))] [8, 9, 10, 32, 33, 34, 35, 36, 37, 38, 39, 40, 41, 42, 43, 44, 45, 46, 47, 48, 49, 50, 51, 52, 53, 54, 55, 56, 57, 58, 59, 60] (.seq (.seq .reg (.cond .leaf .leaf)) (.seq (.block (.seq (.seq .reg (.cond .reg .leaf)) .reg)) .reg))))) (.seq (.seq .reg (.cond .reg .leaf)) (.seq .reg .leaf))))))))
def F_ref18_Gaps (l_a : Option Addr) (l_l : Nat) (l_c : Nat) (sn : Int) (length : Int) (w : World) (R : Value → World → Prop) : Prop :=
  (Calls Try.prog N_ref18_Normal #[(.slice l_a l_l l_c)] w fun e_ w1 =>
  ∃ r : Bool, e_ = .returned (.bool r) ∧
  (bsplit (!r)
    (R (.tuple #[(.slice none 0 0), (.int .i64 (4 : Int))]) w1)
    ((∃ J : World → Prop,
    (∀ (_junk : Env)  (w2 : World), J w2 →
      (∃ I : Option Addr → Nat → Nat → Int → Int → Nat × (World → Prop), (I none 0 0 (0 : Int) (0 : Int)).2 w2 ∧
      (∀ (_junk : Env) (out_a : Option Addr) (out_l : Nat) (out_c : Nat) (at1 : Int) (i : Int) (w3 : World), (I out_a out_l out_c at1 i).2 w3 →
        (bsplit (decide (i < (l_l : Int)))
          ((kIx l_a l_l i fun b1 =>
          (kLd w3 ((b1.add (i.toNat * 3)).add 1) .i64 fun x2 =>
          (bsplit (decide (x2 > at1))
            ((kIx l_a l_l i fun b2 =>
            (kLd w3 ((b2.add (i.toNat * 3)).add 1) .i64 fun x3 =>
            (kAlloc w3 #[(.int .i64 sn), (.int .i64 at1), (.int .i64 x3)] Ty_api_Range fun b3 w4 =>
            (AppP Try.prog #[Ty_S_api_Range, Ty_S_api_Range] Ty_S_api_Range #[(.slice out_a out_l out_c), (.slice (some ⟨b3, 0, none⟩) 1 1)] w4 fun x_a x_l x_c w5 =>
            (kIx l_a l_l i fun b4 =>
            (kLd w5 ((b4.add (i.toNat * 3)).add 2) .i64 fun x4 =>
            (kW .i64 (i + (1 : Int)) fun x5 =>
            ((I x_a x_l x_c x4 x5).2 w5 ∧ (I x_a x_l x_c x4 x5).1 < (I out_a out_l out_c at1 i).1)))))))))
            ((kIx l_a l_l i fun b5 =>
            (kLd w3 ((b5.add (i.toNat * 3)).add 2) .i64 fun x6 =>
            (kW .i64 (i + (1 : Int)) fun x7 =>
            ((I out_a out_l out_c x6 x7).2 w3 ∧ (I out_a out_l out_c x6 x7).1 < (I out_a out_l out_c at1 i).1)))))))))
          ((bsplit (decide (at1 < length))
            ((kAlloc w3 #[(.int .i64 sn), (.int .i64 at1), (.int .i64 length)] Ty_api_Range fun b6 w6 =>
            (AppP Try.prog #[Ty_S_api_Range, Ty_S_api_Range] Ty_S_api_Range #[(.slice out_a out_l out_c), (.slice (some ⟨b6, 0, none⟩) 1 1)] w6 fun x_a1 x_l1 x_c1 w7 =>
            R (.tuple #[(.slice x_a1 x_l1 x_c1), (.int .i64 (0 : Int))]) w7)))
            (R (.tuple #[(.slice out_a out_l out_c), (.int .i64 (0 : Int))]) w3))))))) ∧
    (bsplit (decide (length < (0 : Int)))
      (R (.tuple #[(.slice none 0 0), (.int .i64 (3 : Int))]) w1)
      ((bsplit (decide ((l_l : Int) > (0 : Int)))
        ((kW .i64 ((l_l : Int) - (1 : Int)) fun x =>
        (kIx l_a l_l x fun b =>
        (kLd w1 ((b.add (x.toNat * 3)).add 2) .i64 fun x1 =>
        (bsplit (decide (length < x1))
          (R (.tuple #[(.slice none 0 0), (.int .i64 (3 : Int))]) w1)
          (J w1))))))
        (J w1))))))))
theorem F_ref18_Gaps_eq (l_a : Option Addr) (l_l : Nat) (l_c : Nat) (sn : Int) (length : Int) (w : World) (R : Value → World → Prop) : sxFn Try.prog TT h_ref18_Gaps Try.f32 #[(.slice l_a l_l l_c), (.int .i64 sn), (.int .i64 length)] w R = F_ref18_Gaps l_a l_l l_c sn length w R := by kernel_rfl
theorem F_ref18_Gaps_ok {R : Ending → World → Prop} (l_a : Option Addr) (l_l : Nat) (l_c : Nat) (sn : Int) (length : Int) (w : World) (h : F_ref18_Gaps l_a l_l l_c sn length w fun v w' => R (.returned v) w') : Calls Try.prog N_ref18_Gaps #[(.slice l_a l_l l_c), (.int .i64 sn), (.int .i64 length)] w R :=
  calls_of (f := 32) follows_ok Try.func32 (Eq.mpr (F_ref18_Gaps_eq l_a l_l l_c sn length w _) h)

def h_ref18_SameRanges : H := (.seq .reg (.seq (.seq .reg (.cond (.seq .reg .leaf) .leaf)) (.seq (.seq .reg (.block (.loop [(5, .p (.int .i64))] [4, 5, 11, 12, 13, 14, 15, 16, 17, 18, 19, 20, 21, 22, 23, 24, 25] (.seq (.seq .reg (.cond .leaf .leaf)) (.seq (.block (.seq (.draw .no (.one 0 .stable (.one 1 .stable (.one 2 .stable (.one 3 .stable (.one 4 .stable (.one 5 .stable (.one 6 .stable (.one 7 .stable (.one 8 .stable .nil)))))))))) (.cond (.seq .reg .leaf) .leaf))) .reg))))) (.seq .reg .leaf))))
def F_ref18_SameRanges (a_a : Option Addr) (a_l : Nat) (a_c : Nat) (b_a : Option Addr) (b_l : Nat) (b_c : Nat) (w : World) (R : Value → World → Prop) : Prop :=
  (bsplit (!decide ((a_l : Int) = (b_l : Int)))
    (R (.bool false) w)
    ((∃ I : Int → Nat × (World → Prop), (I (0 : Int)).2 w ∧
    (∀ (_junk : Env) (i : Int) (w1 : World), (I i).2 w1 →
      (bsplit (decide (i < (a_l : Int)))
        ((kDrew w1 fun w2 =>
        (kIx a_a a_l i fun b =>
        (∃ x_0 : Int, ∃ x_1 : Int, ∃ x_2 : Int, cellsAt w2 (b.add (i.toNat * 3)) 0 [(.int .i64 x_0), (.int .i64 x_1), (.int .i64 x_2)] ∧
        (kIx b_a b_l i fun b1 =>
        (∃ x_01 : Int, ∃ x_11 : Int, ∃ x_21 : Int, cellsAt w2 (b1.add (i.toNat * 3)) 0 [(.int .i64 x_01), (.int .i64 x_11), (.int .i64 x_21)] ∧
        (EqP Try.prog .neq Ty_api_Range (.tmp 20) (.tmp 24) (.agg #[.int .i64 x_0, .int .i64 x_1, .int .i64 x_2]) (.agg #[.int .i64 x_01, .int .i64 x_11, .int .i64 x_21]) fun r =>
        (bsplit r
          (R (.bool false) w2)
          ((kW .i64 (i + (1 : Int)) fun x =>
          ((I x).2 w2 ∧ (I x).1 < (I i).1)))))))))))
        (R (.bool true) w1))))))
theorem F_ref18_SameRanges_eq (a_a : Option Addr) (a_l : Nat) (a_c : Nat) (b_a : Option Addr) (b_l : Nat) (b_c : Nat) (w : World) (R : Value → World → Prop) : sxFn Try.prog TT h_ref18_SameRanges Try.f33 #[(.slice a_a a_l a_c), (.slice b_a b_l b_c)] w R = F_ref18_SameRanges a_a a_l a_c b_a b_l b_c w R := by kernel_rfl
theorem F_ref18_SameRanges_ok {R : Ending → World → Prop} (a_a : Option Addr) (a_l : Nat) (a_c : Nat) (b_a : Option Addr) (b_l : Nat) (b_c : Nat) (w : World) (h : F_ref18_SameRanges a_a a_l a_c b_a b_l b_c w fun v w' => R (.returned v) w') : Calls Try.prog N_ref18_SameRanges #[(.slice a_a a_l a_c), (.slice b_a b_l b_c)] w R :=
  calls_of (f := 33) follows_ok Try.func33 (Eq.mpr (F_ref18_SameRanges_eq a_a a_l a_c b_a b_l b_c w _) h)

def h_made_Mod : H := (.seq .reg (.seq (.seq .reg (.cond (.seq .reg .leaf) .leaf)) (.seq .reg (.seq (.seq .reg (.cond .reg .leaf)) (.seq .reg .leaf)))))
def F_made_Mod (n : Int) (m : Int) (w : World) (R : Value → World → Prop) : Prop :=
  (bsplit (decide (m < (1 : Int)))
    (R (.int .i64 (0 : Int)) w)
    ((m ≠ 0 ∧ (kLet (Int.tmod n m) fun x =>
    (bsplit (decide (x < (0 : Int)))
      ((kW .i64 (x + m) fun x1 =>
      R (.int .i64 x1) w))
      (R (.int .i64 x) w))))))
theorem F_made_Mod_eq (n : Int) (m : Int) (w : World) (R : Value → World → Prop) : sxFn Try.prog TT h_made_Mod Try.f34 #[(.int .i64 n), (.int .i64 m)] w R = F_made_Mod n m w R := by kernel_rfl
theorem F_made_Mod_ok {R : Ending → World → Prop} (n : Int) (m : Int) (w : World) (h : F_made_Mod n m w fun v w' => R (.returned v) w') : Calls Try.prog N_made_Mod #[(.int .i64 n), (.int .i64 m)] w R :=
  calls_of (f := 34) follows_ok Try.func34 (Eq.mpr (F_made_Mod_eq n m w _) h)

def h_law18_covers : H := (.seq .reg (.seq (.seq .reg (.block (.loop [(5, .p (.int .i64))] [4, 5, 6, 7, 8, 9, 10, 11, 12, 13, 14, 15, 16, 17, 18, 19, 20, 21, 22, 23, 24, 25, 26, 27] (.seq (.seq .reg (.cond .leaf .leaf)) (.seq (.block (.seq .reg (.cond (.seq .reg .leaf) .leaf))) .reg))))) (.seq .reg .leaf)))
def F_law18_covers (l_a : Option Addr) (l_l : Nat) (l_c : Nat) (k : Int) (w : World) (R : Value → World → Prop) : Prop :=
  (∃ I : Int → Nat × (World → Prop), (I (0 : Int)).2 w ∧
  (∀ (_junk : Env) (i : Int) (w1 : World), (I i).2 w1 →
    (bsplit (decide (i < (l_l : Int)))
      ((kIx l_a l_l i fun b =>
      (kLd w1 ((b.add (i.toNat * 3)).add 1) .i64 fun x =>
      (bsplit (decide (k ≥ x))
        ((kIx l_a l_l i fun b1 =>
        (kLd w1 ((b1.add (i.toNat * 3)).add 2) .i64 fun x1 =>
        (bsplit (decide (k < x1))
          (R (.bool true) w1)
          ((kW .i64 (i + (1 : Int)) fun x2 =>
          ((I x2).2 w1 ∧ (I x2).1 < (I i).1)))))))
        ((kW .i64 (i + (1 : Int)) fun x3 =>
          ((I x3).2 w1 ∧ (I x3).1 < (I i).1)))))))
      (R (.bool false) w1))))
theorem F_law18_covers_eq (l_a : Option Addr) (l_l : Nat) (l_c : Nat) (k : Int) (w : World) (R : Value → World → Prop) : sxFn Try.prog TT h_law18_covers Try.f35 #[(.slice l_a l_l l_c), (.int .i64 k)] w R = F_law18_covers l_a l_l l_c k w R := by kernel_rfl
theorem F_law18_covers_ok {R : Ending → World → Prop} (l_a : Option Addr) (l_l : Nat) (l_c : Nat) (k : Int) (w : World) (h : F_law18_covers l_a l_l l_c k w fun v w' => R (.returned v) w') : Calls Try.prog N_law18_covers #[(.slice l_a l_l l_c), (.int .i64 k)] w R :=
  calls_of (f := 35) follows_ok Try.func35 (Eq.mpr (F_law18_covers_eq l_a l_l l_c k w _) h)

def h_ref18_Normal : H := (.seq .reg (.seq (.seq .reg (.block (.loop [(3, .p (.int .i64))] [2, 3, 4, 5, 6, 7, 8, 9, 10, 11, 12, 13, 14, 15, 16, 17, 18, 19, 20, 21, 22, 23, 24, 25, 26, 27, 28, 29, 30, 31, 32, 33, 34, 35, 36, 37, 38, 39, 40, 41, 42, 43, 44, 45, 46] (.seq (.seq .reg (.cond .leaf .leaf)) (.seq (.block (.seq (.draw .no (.one 0 .stable (.one 1 .stable (.one 2 .stable (.one 3 .stable (.one 4 .stable (.one 5 .stable (.one 6 .stable (.one 7 .stable (.one 8 .stable (.one 9 .stable (.one 10 .stable (.one 11 .stable (.one 12 .stable (.one 13 .stable (.one 14 .stable (.one 15 .stable (.one 16 .stable (.one 17 .stable (.one 18 .stable (.one 19 .stable (.one 20 .stable (.one 21 .stable (.one 22 .stable (.one 23 .stable (.one 24 .stable (.one 25 .stable (.one 26 .stable (.one 27 .stable (.one 28 .stable (.one 29 .stable (.one 30 .stable (.one 31 .stable (.one 32 .stable (.one 33 .stable (.one 34 .stable (.one 35 .stable (.one 36 .stable .nil)))))))))))))))))))))))))))))))))))))) (.cond (.seq .reg .leaf) .leaf))) .reg))))) (.seq .reg .leaf)))
def F_ref18_Normal (l_a : Option Addr) (l_l : Nat) (l_c : Nat) (w : World) (R : Value → World → Prop) : Prop :=
  (∃ I : Int → Nat × (World → Prop), (I (0 : Int)).2 w ∧
  (∀ (_junk : Env) (i : Int) (w1 : World), (I i).2 w1 →
    (bsplit (decide (i < (l_l : Int)))
      ((kDrew w1 fun w2 =>
      (kIx l_a l_l i fun b =>
      (kLd w2 ((b.add (i.toNat * 3)).add 1) .i64 fun x =>
      (bsplit (decide (x < (0 : Int)))
        (R (.bool false) w2)
        ((kIx l_a l_l i fun b1 =>
        (kLd w2 ((b1.add (i.toNat * 3)).add 1) .i64 fun x2 =>
        (kIx l_a l_l i fun b2 =>
        (kLd w2 ((b2.add (i.toNat * 3)).add 2) .i64 fun x3 =>
        (bsplit (decide (x2 ≥ x3))
          (R (.bool false) w2)
          ((bsplit (decide (i > (0 : Int)))
            ((kIx l_a l_l i fun b3 =>
            (kLd w2 ((b3.add (i.toNat * 3)).add 1) .i64 fun x5 =>
            (kW .i64 (i - (1 : Int)) fun x6 =>
            (kIx l_a l_l x6 fun b4 =>
            (kLd w2 ((b4.add (x6.toNat * 3)).add 2) .i64 fun x7 =>
            (bsplit (decide (x5 ≤ x7))
              (R (.bool false) w2)
              ((kW .i64 (i + (1 : Int)) fun x8 =>
              ((I x8).2 w2 ∧ (I x8).1 < (I i).1))))))))))
            ((kW .i64 (i + (1 : Int)) fun x9 =>
              ((I x9).2 w2 ∧ (I x9).1 < (I i).1))))))))))))))))
      (R (.bool true) w1))))
theorem F_ref18_Normal_eq (l_a : Option Addr) (l_l : Nat) (l_c : Nat) (w : World) (R : Value → World → Prop) : sxFn Try.prog TT h_ref18_Normal Try.f36 #[(.slice l_a l_l l_c)] w R = F_ref18_Normal l_a l_l l_c w R := by kernel_rfl
theorem F_ref18_Normal_ok {R : Ending → World → Prop} (l_a : Option Addr) (l_l : Nat) (l_c : Nat) (w : World) (h : F_ref18_Normal l_a l_l l_c w fun v w' => R (.returned v) w') : Calls Try.prog N_ref18_Normal #[(.slice l_a l_l l_c)] w R :=
  calls_of (f := 36) follows_ok Try.func36 (Eq.mpr (F_ref18_Normal_eq l_a l_l l_c w _) h)

def h_made_Dice_Some : H := (.seq .reg (.seq .reg .leaf))
def F_made_Dice_Some (d_b : Nat) (d_o : Nat) (most : Int) (w : World) (R : Value → World → Prop) : Prop :=
  (Calls Try.prog N_made_Dice_Next #[(.pointer (some ⟨d_b, d_o, none⟩)), (.int .i64 (256 : Int))] w fun e_ w1 =>
  ∃ r : Int, e_ = .returned (.int .i64 r) ∧
  (kW .u8 (r) fun x =>
  (kAlloc w1 #[(.int .u8 x)] Ty_uint8 fun b w2 =>
  (kW .i64 (most - (1 : Int)) fun x1 =>
  (Calls Try.prog N_made_Dice_Bytes #[(.pointer (some ⟨d_b, d_o, none⟩)), (.int .i64 x1)] w2 fun e_1 w3 =>
  ∃ r_a : Option Addr, ∃ r_l : Nat, ∃ r_c : Nat, e_1 = .returned (.slice r_a r_l r_c) ∧
  (AppP Try.prog #[Ty_S_uint8, Ty_S_uint8] Ty_S_uint8 #[(.slice (some ⟨b, 0, none⟩) 1 1), (.slice r_a r_l r_c)] w3 fun x_a x_l x_c w4 =>
  R (.slice x_a x_l x_c) w4))))))
theorem F_made_Dice_Some_eq (d_b : Nat) (d_o : Nat) (most : Int) (w : World) (R : Value → World → Prop) : sxFn Try.prog TT h_made_Dice_Some Try.f37 #[(.pointer (some ⟨d_b, d_o, none⟩)), (.int .i64 most)] w R = F_made_Dice_Some d_b d_o most w R := by kernel_rfl
theorem F_made_Dice_Some_ok {R : Ending → World → Prop} (d_b : Nat) (d_o : Nat) (most : Int) (w : World) (h : F_made_Dice_Some d_b d_o most w fun v w' => R (.returned v) w') : Calls Try.prog N_made_Dice_Some #[(.pointer (some ⟨d_b, d_o, none⟩)), (.int .i64 most)] w R :=
  calls_of (f := 37) follows_ok Try.func37 (Eq.mpr (F_made_Dice_Some_eq d_b d_o most w _) h)

def h_segment_head : H := (.seq .reg (.seq (.seq .reg (.cond (.seq .reg .leaf) .leaf)) (.seq .reg .leaf)))
def F_segment_head (part : Int) (w : World) (R : Value → World → Prop) : Prop :=
  (Calls Try.prog N_segment_begins #[(.int .i64 part)] w fun e_ w1 =>
  ∃ r : Bool, e_ = .returned (.bool r) ∧
  (bsplit r
    (R (.int .i64 (2 : Int)) w1)
    (R (.int .i64 (4 : Int)) w1)))
theorem F_segment_head_eq (part : Int) (w : World) (R : Value → World → Prop) : sxFn Try.prog TT h_segment_head Try.f38 #[(.int .i64 part)] w R = F_segment_head part w R := by kernel_rfl
theorem F_segment_head_ok {R : Ending → World → Prop} (part : Int) (w : World) (h : F_segment_head part w fun v w' => R (.returned v) w') : Calls Try.prog N_segment_head #[(.int .i64 part)] w R :=
  calls_of (f := 38) follows_ok Try.func38 (Eq.mpr (F_segment_head_eq part w _) h)

def h_slices_Clone_Sbyte_byte : H := (.seq .reg (.seq (.seq .reg (.cond (.seq .reg .leaf) .leaf)) (.seq .reg .leaf)))
def F_slices_Clone_Sbyte_byte (s_a : Option Addr) (s_l : Nat) (s_c : Nat) (w : World) (R : Value → World → Prop) : Prop :=
  (bsplit s_a.isNone
    (R (.slice none 0 0) w)
    ((kAlloc w #[] Ty_uint8 fun b w1 =>
    (AppP Try.prog #[Ty_S_uint8, Ty_S_uint8] Ty_S_uint8 #[(.slice (some ⟨b, 0, none⟩) 0 0), (.slice s_a s_l s_c)] w1 fun x_a x_l x_c w2 =>
    R (.slice x_a x_l x_c) w2))))
theorem F_slices_Clone_Sbyte_byte_eq (s_a : Option Addr) (s_l : Nat) (s_c : Nat) (w : World) (R : Value → World → Prop) : sxFn Try.prog TT h_slices_Clone_Sbyte_byte Try.f39 #[(.slice s_a s_l s_c)] w R = F_slices_Clone_Sbyte_byte s_a s_l s_c w R := by kernel_rfl
theorem F_slices_Clone_Sbyte_byte_ok {R : Ending → World → Prop} (s_a : Option Addr) (s_l : Nat) (s_c : Nat) (w : World) (h : F_slices_Clone_Sbyte_byte s_a s_l s_c w fun v w' => R (.returned v) w') : Calls Try.prog N_slices_Clone_Sbyte_byte #[(.slice s_a s_l s_c)] w R :=
  calls_of (f := 39) follows_ok Try.func39 (Eq.mpr (F_slices_Clone_Sbyte_byte_eq s_a s_l s_c w _) h)

def h_segment_Part : H := (.seq .reg (.seq (.block (.cut [(5, .p .bool)] [5, 6, 7, 8, 9] .reg (.cond (.seq .reg .leaf) (.seq .reg (.cond (.seq .reg .leaf) (.seq .reg (.cond (.seq .reg .leaf) .leaf))))))) (.seq .reg .leaf)))
def F_segment_Part (first : Bool) (last : Bool) (w : World) (R : Value → World → Prop) : Prop :=
  (∃ J : Bool → World → Prop,
  (∀ (_junk : Env) (x : Bool) (w1 : World), J x w1 →
    (bsplit x
      (R (.int .i64 (0 : Int)) w1)
      ((bsplit first
        (R (.int .i64 (1 : Int)) w1)
        ((bsplit last
          (R (.int .i64 (2 : Int)) w1)
          (R (.int .i64 (3 : Int)) w1))))))) ∧
  (bsplit first
    (J last w)
    (J false w)))
theorem F_segment_Part_eq (first : Bool) (last : Bool) (w : World) (R : Value → World → Prop) : sxFn Try.prog TT h_segment_Part Try.f40 #[(.bool first), (.bool last)] w R = F_segment_Part first last w R := by kernel_rfl
theorem F_segment_Part_ok {R : Ending → World → Prop} (first : Bool) (last : Bool) (w : World) (h : F_segment_Part first last w fun v w' => R (.returned v) w') : Calls Try.prog N_segment_Part #[(.bool first), (.bool last)] w R :=
  calls_of (f := 40) follows_ok Try.func40 (Eq.mpr (F_segment_Part_eq first last w _) h)

def h_segment_begins : H := (.seq .reg (.seq .reg .leaf))
def F_segment_begins (part : Int) (w : World) (R : Value → World → Prop) : Prop :=
  (bsplit (decide (part = (0 : Int)))
    (R (.bool true) w)
    ((kLet (decide (part = (1 : Int))) fun x =>
    R (.bool x) w)))
theorem F_segment_begins_eq (part : Int) (w : World) (R : Value → World → Prop) : sxFn Try.prog TT h_segment_begins Try.f41 #[(.int .i64 part)] w R = F_segment_begins part w R := by kernel_rfl
theorem F_segment_begins_ok {R : Ending → World → Prop} (part : Int) (w : World) (h : F_segment_begins part w fun v w' => R (.returned v) w') : Calls Try.prog N_segment_begins #[(.int .i64 part)] w R :=
  calls_of (f := 41) follows_ok Try.func41 (Eq.mpr (F_segment_begins_eq part w _) h)

def h_segment_Ends : H := (.seq .reg (.seq .reg .leaf))
def F_segment_Ends (part : Int) (w : World) (R : Value → World → Prop) : Prop :=
  (bsplit (decide (part = (0 : Int)))
    (R (.bool true) w)
    ((kLet (decide (part = (2 : Int))) fun x =>
    R (.bool x) w)))
theorem F_segment_Ends_eq (part : Int) (w : World) (R : Value → World → Prop) : sxFn Try.prog TT h_segment_Ends Try.f42 #[(.int .i64 part)] w R = F_segment_Ends part w R := by kernel_rfl
theorem F_segment_Ends_ok {R : Ending → World → Prop} (part : Int) (w : World) (h : F_segment_Ends part w fun v w' => R (.returned v) w') : Calls Try.prog N_segment_Ends #[(.int .i64 part)] w R :=
  calls_of (f := 42) follows_ok Try.func42 (Eq.mpr (F_segment_Ends_eq part w _) h)

def h_ref01_Put : H := (.seq .reg (.seq (.seq .reg (.block (.loop [(0, .p .slice), (7, .p (.int .i64))] [0, 7, 10, 11, 12, 13, 14, 15, 16, 17, 18, 19, 20, 21, 22] (.seq (.seq .reg (.cond .leaf .leaf)) (.seq (.block .reg) .reg))))) (.seq .reg .leaf)))
def F_ref01_Put (b_a : Option Addr) (b_l : Nat) (b_c : Nat) (bytes : Int) (v : Int) (w : World) (R : Value → World → Prop) : Prop :=
  (kW .i64 (bytes - (1 : Int)) fun x =>
  (∃ I : Option Addr → Nat → Nat → Int → Nat × (World → Prop), (I b_a b_l b_c x).2 w ∧
  (∀ (_junk : Env) (b_a1 : Option Addr) (b_l1 : Nat) (b_c1 : Nat) (i : Int) (w1 : World), (I b_a1 b_l1 b_c1 i).2 w1 →
    (bsplit (decide (i ≥ (0 : Int)))
      ((kW .i64 ((8 : Int) * i) fun x1 =>
      (kW .u64 (x1) fun x2 =>
      (0 ≤ x2 ∧ (kLet (Int.fdiv v (2 ^ (min x2.toNat (IntKind.bits .i64)))) fun x3 =>
      (kW .u8 (x3) fun x4 =>
      (kAlloc w1 #[(.int .u8 x4)] Ty_uint8 fun b w2 =>
      (AppP Try.prog #[Ty_S_uint8, Ty_S_uint8] Ty_S_uint8 #[(.slice b_a1 b_l1 b_c1), (.slice (some ⟨b, 0, none⟩) 1 1)] w2 fun x_a x_l x_c w3 =>
      (kW .i64 (i - (1 : Int)) fun x5 =>
      ((I x_a x_l x_c x5).2 w3 ∧ (I x_a x_l x_c x5).1 < (I b_a1 b_l1 b_c1 i).1))))))))))
      (R (.slice b_a1 b_l1 b_c1) w1)))))
theorem F_ref01_Put_eq (b_a : Option Addr) (b_l : Nat) (b_c : Nat) (bytes : Int) (v : Int) (w : World) (R : Value → World → Prop) : sxFn Try.prog TT h_ref01_Put Try.f43 #[(.slice b_a b_l b_c), (.int .i64 bytes), (.int .i64 v)] w R = F_ref01_Put b_a b_l b_c bytes v w R := by kernel_rfl
theorem F_ref01_Put_ok {R : Ending → World → Prop} (b_a : Option Addr) (b_l : Nat) (b_c : Nat) (bytes : Int) (v : Int) (w : World) (h : F_ref01_Put b_a b_l b_c bytes v w fun v w' => R (.returned v) w') : Calls Try.prog N_ref01_Put #[(.slice b_a b_l b_c), (.int .i64 bytes), (.int .i64 v)] w R :=
  calls_of (f := 43) follows_ok Try.func43 (Eq.mpr (F_ref01_Put_eq b_a b_l b_c bytes v w _) h)

def h_ref18_Head : H := (.seq .reg (.seq (.seq .reg (.cond (.seq .reg .leaf) .leaf)) (.seq .reg .leaf)))
def F_ref18_Head (part : Int) (w : World) (R : Value → World → Prop) : Prop :=
  (bsplit (decide (part = (0 : Int)))
    (R (.int .i64 (2 : Int)) w)
    ((bsplit (decide (part = (1 : Int)))
      (R (.int .i64 (2 : Int)) w)
      (R (.int .i64 (4 : Int)) w))))
theorem F_ref18_Head_eq (part : Int) (w : World) (R : Value → World → Prop) : sxFn Try.prog TT h_ref18_Head Try.f44 #[(.int .i64 part)] w R = F_ref18_Head part w R := by kernel_rfl
theorem F_ref18_Head_ok {R : Ending → World → Prop} (part : Int) (w : World) (h : F_ref18_Head part w fun v w' => R (.returned v) w') : Calls Try.prog N_ref18_Head #[(.int .i64 part)] w R :=
  calls_of (f := 44) follows_ok Try.func44 (Eq.mpr (F_ref18_Head_eq part w _) h)

def h_counter_Bits : H := (.seq .reg (.seq .reg .leaf))
def F_counter_Bits (bits : Int) (w : World) (R : Value → World → Prop) : Prop :=
  (bsplit (decide (bits ≥ (5 : Int)))
    ((kLet (decide (bits ≤ (9 : Int))) fun x =>
    R (.bool x) w))
    (R (.bool false) w))
theorem F_counter_Bits_eq (bits : Int) (w : World) (R : Value → World → Prop) : sxFn Try.prog TT h_counter_Bits Try.f45 #[(.int .i64 bits)] w R = F_counter_Bits bits w R := by kernel_rfl
theorem F_counter_Bits_ok {R : Ending → World → Prop} (bits : Int) (w : World) (h : F_counter_Bits bits w fun v w' => R (.returned v) w') : Calls Try.prog N_counter_Bits #[(.int .i64 bits)] w R :=
  calls_of (f := 45) follows_ok Try.func45 (Eq.mpr (F_counter_Bits_eq bits w _) h)

def h_ref15_Bits : H := (.seq .reg (.seq .reg .leaf))
def F_ref15_Bits (n : Int) (w : World) (R : Value → World → Prop) : Prop :=
  (bsplit (decide (n ≥ (5 : Int)))
    ((kLet (decide (n ≤ (9 : Int))) fun x =>
    R (.bool x) w))
    (R (.bool false) w))
theorem F_ref15_Bits_eq (n : Int) (w : World) (R : Value → World → Prop) : sxFn Try.prog TT h_ref15_Bits Try.f46 #[(.int .i64 n)] w R = F_ref15_Bits n w R := by kernel_rfl
theorem F_ref15_Bits_ok {R : Ending → World → Prop} (n : Int) (w : World) (h : F_ref15_Bits n w fun v w' => R (.returned v) w') : Calls Try.prog N_ref15_Bits #[(.int .i64 n)] w R :=
  calls_of (f := 46) follows_ok Try.func46 (Eq.mpr (F_ref15_Bits_eq n w _) h)

def h_ref01_Get : H := (.seq .reg (.seq .reg (.seq (.seq .reg (.block (.loop [(7, .p (.int .i64)), (8, .p (.int .i64))] [7, 8, 9, 10, 11, 12, 13, 14, 15, 16, 17, 18, 19, 20, 21, 22, 23] (.seq (.seq .reg (.cond .leaf .leaf)) (.seq (.block .reg) .reg))))) (.seq .reg .leaf))))
def F_ref01_Get (b_a : Option Addr) (b_l : Nat) (b_c : Nat) (at1 : Int) (bytes : Int) (w : World) (R : Value → World → Prop) : Prop :=
  (∃ I : Int → Int → Nat × (World → Prop), (I (0 : Int) (0 : Int)).2 w ∧
  (∀ (_junk : Env) (v : Int) (i : Int) (w1 : World), (I v i).2 w1 →
    (bsplit (decide (i < bytes))
      ((kW .i64 ((256 : Int) * v) fun x =>
      (kW .i64 (at1 + i) fun x1 =>
      (kIx b_a b_l x1 fun b =>
      (kLd w1 (b.add (x1.toNat * 1)) .u8 fun x2 =>
      (kW .i64 (x2) fun x3 =>
      (kW .i64 (x + x3) fun x4 =>
      (kW .i64 (i + (1 : Int)) fun x5 =>
      ((I x4 x5).2 w1 ∧ (I x4 x5).1 < (I v i).1)))))))))
      (R (.int .i64 v) w1))))
theorem F_ref01_Get_eq (b_a : Option Addr) (b_l : Nat) (b_c : Nat) (at1 : Int) (bytes : Int) (w : World) (R : Value → World → Prop) : sxFn Try.prog TT h_ref01_Get Try.f47 #[(.slice b_a b_l b_c), (.int .i64 at1), (.int .i64 bytes)] w R = F_ref01_Get b_a b_l b_c at1 bytes w R := by kernel_rfl
theorem F_ref01_Get_ok {R : Ending → World → Prop} (b_a : Option Addr) (b_l : Nat) (b_c : Nat) (at1 : Int) (bytes : Int) (w : World) (h : F_ref01_Get b_a b_l b_c at1 bytes w fun v w' => R (.returned v) w') : Calls Try.prog N_ref01_Get #[(.slice b_a b_l b_c), (.int .i64 at1), (.int .i64 bytes)] w R :=
  calls_of (f := 47) follows_ok Try.func47 (Eq.mpr (F_ref01_Get_eq b_a b_l b_c at1 bytes w _) h)

def h_segment_Normal : H := (.seq .reg (.seq (.seq .reg (.block (.loop [(7, .p (.int .i64))] [2, 3, 4, 7, 8, 9, 10, 11, 12, 13, 14, 15, 16, 17, 18, 19, 20, 21, 22, 23, 24, 25, 26, 27, 28, 29, 30, 31, 32, 33, 34, 35, 36, 37] (.seq .reg (.seq (.cond .leaf .leaf) (.seq (.block (.seq .reg (.seq (.draw .no (.one 0 .stable (.one 1 .stable (.one 2 .stable (.one 3 .stable (.one 4 .stable (.one 5 .stable (.one 6 .stable (.one 7 .stable (.one 8 .stable (.one 9 .stable (.one 10 .stable (.one 11 .stable (.one 12 .stable (.one 13 .stable (.one 14 .stable (.one 15 .stable (.one 16 .stable (.one 17 .stable (.one 18 .stable (.one 19 .stable (.one 20 .stable (.one 21 .stable (.one 22 .stable (.one 23 .stable (.one 24 .stable .nil)))))))))))))))))))))))))) (.cond (.seq .reg .leaf) .leaf)))) .reg)))))) (.seq .reg .leaf)))
def F_segment_Normal (l_a : Option Addr) (l_l : Nat) (l_c : Nat) (w : World) (R : Value → World → Prop) : Prop :=
  (∃ I : Int → Nat × (World → Prop), (I (0 : Int)).2 w ∧
  (∀ (_junk : Env) (x : Int) (w1 : World), (I x).2 w1 →
    (bsplit (decide (x < (l_l : Int)))
      ((kIx l_a l_l x fun b =>
      (∃ x_0 : Int, ∃ x_1 : Int, ∃ x_2 : Int, cellsAt w1 (b.add (x.toNat * 3)) 0 [(.int .i64 x_0), (.int .i64 x_1), (.int .i64 x_2)] ∧
      (kAlloc w1 #[.int .i64 (0 : Int), .int .i64 (0 : Int), .int .i64 (0 : Int)] Ty_api_Range fun b1 w2 =>
      (sxStore w2 ⟨b1, 0, none⟩ 0 [(.int .i64 x_0), (.int .i64 x_1), (.int .i64 x_2)] fun w3 =>
      (kDrew w3 fun w4 =>
      (kLd w4 ⟨b1, 1, none⟩ .i64 fun x1 =>
      (bsplit (decide (x1 < (0 : Int)))
        (R (.bool false) w4)
        ((kLd w4 ⟨b1, 1, none⟩ .i64 fun x3 =>
        (kLd w4 ⟨b1, 2, none⟩ .i64 fun x4 =>
        (bsplit (decide (x3 ≥ x4))
          (R (.bool false) w4)
          ((bsplit (decide (x > (0 : Int)))
            ((kLd w4 ⟨b1, 1, none⟩ .i64 fun x6 =>
            (kW .i64 (x - (1 : Int)) fun x7 =>
            (kIx l_a l_l x7 fun b2 =>
            (kLd w4 ((b2.add (x7.toNat * 3)).add 2) .i64 fun x8 =>
            (bsplit (decide (x6 ≤ x8))
              (R (.bool false) w4)
              ((kW .i64 (x + (1 : Int)) fun x9 =>
              ((I x9).2 w4 ∧ (I x9).1 < (I x).1)))))))))
            ((kW .i64 (x + (1 : Int)) fun x10 =>
              ((I x10).2 w4 ∧ (I x10).1 < (I x).1)))))))))))))))))
      (R (.bool true) w1))))
theorem F_segment_Normal_eq (l_a : Option Addr) (l_l : Nat) (l_c : Nat) (w : World) (R : Value → World → Prop) : sxFn Try.prog TT h_segment_Normal Try.f48 #[(.slice l_a l_l l_c)] w R = F_segment_Normal l_a l_l l_c w R := by kernel_rfl
theorem F_segment_Normal_ok {R : Ending → World → Prop} (l_a : Option Addr) (l_l : Nat) (l_c : Nat) (w : World) (h : F_segment_Normal l_a l_l l_c w fun v w' => R (.returned v) w') : Calls Try.prog N_segment_Normal #[(.slice l_a l_l l_c)] w R :=
  calls_of (f := 48) follows_ok Try.func48 (Eq.mpr (F_segment_Normal_eq l_a l_l l_c w _) h)

def h_slices_Concat_Sapi_Range_api_Range : H := (.seq .reg (.seq .reg (.seq (.seq .reg (.block (.loop [(3, .p (.int .i64)), (11, .p (.int .i64))] [3, 5, 11, 12, 13, 14, 15, 16, 17, 18, 19, 20, 21, 22] (.seq .reg (.seq (.cond .leaf .leaf) (.seq (.block (.seq .reg (.seq .reg (.seq .reg (.cond .reg .leaf))))) .reg)))))) (.seq .reg (.seq (.seq .reg (.block (.loop [(6, .p .slice), (27, .p (.int .i64))] [6, 8, 27, 28, 29, 30, 31, 32, 33, 34] (.seq .reg (.seq (.cond .leaf .leaf) (.seq (.block (.seq .reg .reg)) .reg)))))) (.seq .reg .leaf))))))
def F_slices_Concat_Sapi_Range_api_Range (slices_a : Option Addr) (slices_l : Nat) (slices_c : Nat) (w : World) (R : Value → World → Prop) : Prop :=
  (∃ I : Int → Int → Nat × (World → Prop), (I (0 : Int) (0 : Int)).2 w ∧
  (∀ (_junk : Env) (size : Int) (x : Int) (w1 : World), (I size x).2 w1 →
    (bsplit (decide (x < (slices_l : Int)))
      ((kIx slices_a slices_l x fun b =>
      (kLdS w1 (b.add (x.toNat * 1)) fun x_a x_l x_c =>
      (kW .i64 (size + (x_l : Int)) fun x1 =>
      (bsplit (decide (x1 < (0 : Int)))
        (False)
        ((kW .i64 (x + (1 : Int)) fun x2 =>
        ((I x1 x2).2 w1 ∧ (I x1 x2).1 < (I size x).1))))))))
      ((Calls Try.prog N_slices_Grow_Sapi_Range_api_Range #[(.slice none 0 0), (.int .i64 size)] w1 fun e_ w2 =>
      ∃ r_a : Option Addr, ∃ r_l : Nat, ∃ r_c : Nat, e_ = .returned (.slice r_a r_l r_c) ∧
      (∃ I1 : Option Addr → Nat → Nat → Int → Nat × (World → Prop), (I1 r_a r_l r_c (0 : Int)).2 w2 ∧
      (∀ (_junk : Env) (newslice_a : Option Addr) (newslice_l : Nat) (newslice_c : Nat) (x3 : Int) (w3 : World), (I1 newslice_a newslice_l newslice_c x3).2 w3 →
        (bsplit (decide (x3 < (slices_l : Int)))
          ((kIx slices_a slices_l x3 fun b1 =>
          (kLdS w3 (b1.add (x3.toNat * 1)) fun x_a1 x_l1 x_c1 =>
          (AppP Try.prog #[Ty_S_api_Range, Ty_S_api_Range] Ty_S_api_Range #[(.slice newslice_a newslice_l newslice_c), (.slice x_a1 x_l1 x_c1)] w3 fun x_a2 x_l2 x_c2 w4 =>
          (kW .i64 (x3 + (1 : Int)) fun x4 =>
          ((I1 x_a2 x_l2 x_c2 x4).2 w4 ∧ (I1 x_a2 x_l2 x_c2 x4).1 < (I1 newslice_a newslice_l newslice_c x3).1))))))
          (R (.slice newslice_a newslice_l newslice_c) w3)))))))))
theorem F_slices_Concat_Sapi_Range_api_Range_eq (slices_a : Option Addr) (slices_l : Nat) (slices_c : Nat) (w : World) (R : Value → World → Prop) : sxFn Try.prog TT h_slices_Concat_Sapi_Range_api_Range Try.f49 #[(.slice slices_a slices_l slices_c)] w R = F_slices_Concat_Sapi_Range_api_Range slices_a slices_l slices_c w R := by kernel_rfl
theorem F_slices_Concat_Sapi_Range_api_Range_ok {R : Ending → World → Prop} (slices_a : Option Addr) (slices_l : Nat) (slices_c : Nat) (w : World) (h : F_slices_Concat_Sapi_Range_api_Range slices_a slices_l slices_c w fun v w' => R (.returned v) w') : Calls Try.prog N_slices_Concat_Sapi_Range_api_Range #[(.slice slices_a slices_l slices_c)] w R :=
  calls_of (f := 49) follows_ok Try.func49 (Eq.mpr (F_slices_Concat_Sapi_Range_api_Range_eq slices_a slices_l slices_c w _) h)

def h_slices_Clone_Sapi_Range_api_Range : H := (.seq .reg (.seq (.seq .reg (.cond (.seq .reg .leaf) .leaf)) (.seq .reg .leaf)))
def F_slices_Clone_Sapi_Range_api_Range (s_a : Option Addr) (s_l : Nat) (s_c : Nat) (w : World) (R : Value → World → Prop) : Prop :=
  (bsplit s_a.isNone
    (R (.slice none 0 0) w)
    ((kAlloc w #[] Ty_api_Range fun b w1 =>
    (AppP Try.prog #[Ty_S_api_Range, Ty_S_api_Range] Ty_S_api_Range #[(.slice (some ⟨b, 0, none⟩) 0 0), (.slice s_a s_l s_c)] w1 fun x_a x_l x_c w2 =>
    R (.slice x_a x_l x_c) w2))))
theorem F_slices_Clone_Sapi_Range_api_Range_eq (s_a : Option Addr) (s_l : Nat) (s_c : Nat) (w : World) (R : Value → World → Prop) : sxFn Try.prog TT h_slices_Clone_Sapi_Range_api_Range Try.f50 #[(.slice s_a s_l s_c)] w R = F_slices_Clone_Sapi_Range_api_Range s_a s_l s_c w R := by kernel_rfl
theorem F_slices_Clone_Sapi_Range_api_Range_ok {R : Ending → World → Prop} (s_a : Option Addr) (s_l : Nat) (s_c : Nat) (w : World) (h : F_slices_Clone_Sapi_Range_api_Range s_a s_l s_c w fun v w' => R (.returned v) w') : Calls Try.prog N_slices_Clone_Sapi_Range_api_Range #[(.slice s_a s_l s_c)] w R :=
  calls_of (f := 50) follows_ok Try.func50 (Eq.mpr (F_slices_Clone_Sapi_Range_api_Range_eq s_a s_l s_c w _) h)

def h_made_Dice_Bytes : H := (.seq .reg (.seq .reg (.seq (.seq .reg (.block (.loop [(5, .p .slice), (6, .p (.int .i64))] [5, 6, 11, 12, 13, 14, 15, 16, 17, 18, 19, 20] (.seq (.seq .reg (.cond .leaf .leaf)) (.seq (.block .reg) .reg))))) (.seq .reg .leaf))))
def F_made_Dice_Bytes (d_b : Nat) (d_o : Nat) (most : Int) (w : World) (R : Value → World → Prop) : Prop :=
  (kW .i64 (most + (1 : Int)) fun x =>
  (Calls Try.prog N_made_Dice_Next #[(.pointer (some ⟨d_b, d_o, none⟩)), (.int .i64 x)] w fun e_ w1 =>
  ∃ r : Int, e_ = .returned (.int .i64 r) ∧
  (∃ I : Option Addr → Nat → Nat → Int → Nat × (World → Prop), (I none 0 0 r).2 w1 ∧
  (∀ (_junk : Env) (b_a : Option Addr) (b_l : Nat) (b_c : Nat) (n : Int) (w2 : World), (I b_a b_l b_c n).2 w2 →
    (bsplit (decide (n > (0 : Int)))
      ((Calls Try.prog N_made_Dice_Next #[(.pointer (some ⟨d_b, d_o, none⟩)), (.int .i64 (256 : Int))] w2 fun e_1 w3 =>
      ∃ r1 : Int, e_1 = .returned (.int .i64 r1) ∧
      (kW .u8 (r1) fun x1 =>
      (kAlloc w3 #[(.int .u8 x1)] Ty_uint8 fun b w4 =>
      (AppP Try.prog #[Ty_S_uint8, Ty_S_uint8] Ty_S_uint8 #[(.slice b_a b_l b_c), (.slice (some ⟨b, 0, none⟩) 1 1)] w4 fun x_a x_l x_c w5 =>
      (kW .i64 (n - (1 : Int)) fun x2 =>
      ((I x_a x_l x_c x2).2 w5 ∧ (I x_a x_l x_c x2).1 < (I b_a b_l b_c n).1)))))))
      (R (.slice b_a b_l b_c) w2))))))
theorem F_made_Dice_Bytes_eq (d_b : Nat) (d_o : Nat) (most : Int) (w : World) (R : Value → World → Prop) : sxFn Try.prog TT h_made_Dice_Bytes Try.f51 #[(.pointer (some ⟨d_b, d_o, none⟩)), (.int .i64 most)] w R = F_made_Dice_Bytes d_b d_o most w R := by kernel_rfl
theorem F_made_Dice_Bytes_ok {R : Ending → World → Prop} (d_b : Nat) (d_o : Nat) (most : Int) (w : World) (h : F_made_Dice_Bytes d_b d_o most w fun v w' => R (.returned v) w') : Calls Try.prog N_made_Dice_Bytes #[(.pointer (some ⟨d_b, d_o, none⟩)), (.int .i64 most)] w R :=
  calls_of (f := 51) follows_ok Try.func51 (Eq.mpr (F_made_Dice_Bytes_eq d_b d_o most w _) h)

def h_slices_Grow_Sapi_Range_api_Range : H := (.seq .reg (.cut [] [5, 6, 7] (.seq .reg (.cond .reg .leaf)) (.seq (.seq .reg (.seq .reg (.cond .reg .leaf))) (.seq .reg .leaf))))
def F_slices_Grow_Sapi_Range_api_Range (s_a : Option Addr) (s_l : Nat) (s_c : Nat) (n : Int) (w : World) (R : Value → World → Prop) : Prop :=
  (∃ J : World → Prop,
  (∀ (_junk : Env)  (w1 : World), J w1 →
    (kW .i64 ((s_c : Int) - (s_l : Int)) fun x =>
    (kW .i64 (n - x) fun x1 =>
    (bsplit (decide (x1 > (0 : Int)))
      (((0 ≤ (s_c : Int) ∧ (s_c : Int) ≤ ((s_c : Nat) : Int)) ∧ (AppP Try.prog #[Ty_S_api_Range, Ty_int] Ty_S_api_Range #[(.slice (slAddr s_c 0 3 s_a) ((s_c : Int).toNat - 0) (s_c - 0)), (.int .i64 x1)] w1 fun x_a x_l x_c w2 =>
      ((0 ≤ (s_l : Int) ∧ (s_l : Int) ≤ ((x_c : Nat) : Int)) ∧ R (.slice (slAddr x_c 0 3 x_a) ((s_l : Int).toNat - 0) (x_c - 0)) w2))))
      (R (.slice s_a s_l s_c) w1))))) ∧
  (bsplit (decide (n < (0 : Int)))
    (False)
    (J w)))
theorem F_slices_Grow_Sapi_Range_api_Range_eq (s_a : Option Addr) (s_l : Nat) (s_c : Nat) (n : Int) (w : World) (R : Value → World → Prop) : sxFn Try.prog TT h_slices_Grow_Sapi_Range_api_Range Try.f52 #[(.slice s_a s_l s_c), (.int .i64 n)] w R = F_slices_Grow_Sapi_Range_api_Range s_a s_l s_c n w R := by kernel_rfl
theorem F_slices_Grow_Sapi_Range_api_Range_ok {R : Ending → World → Prop} (s_a : Option Addr) (s_l : Nat) (s_c : Nat) (n : Int) (w : World) (h : F_slices_Grow_Sapi_Range_api_Range s_a s_l s_c n w fun v w' => R (.returned v) w') : Calls Try.prog N_slices_Grow_Sapi_Range_api_Range #[(.slice s_a s_l s_c), (.int .i64 n)] w R :=
  calls_of (f := 52) follows_ok Try.func52 (Eq.mpr (F_slices_Grow_Sapi_Range_api_Range_eq s_a s_l s_c n w _) h)

end Go.Proofs.Ytelkdacpehdllaa
