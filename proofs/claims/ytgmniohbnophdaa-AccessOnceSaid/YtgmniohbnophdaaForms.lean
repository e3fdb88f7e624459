import Derived.Test.YtgmniohbnophdaaBase
import Derived.KernelRfl
namespace Go.Proofs.Ytgmniohbnophdaa
open Go.Sx Go.RowKit
set_option maxRecDepth 100000

def h_access_Begin : H := (.seq .reg (.seq (.seq .reg (.seq .reg (.cond (.seq .reg .leaf) .leaf))) (.seq (.block (.cut [(16, .p .bool)] [16, 17, 18, 19, 20, 21, 22, 23, 24, 25, 26, 27] .reg (.cond (.seq .reg .leaf) (.seq .reg (.cond (.seq .reg .leaf) (.seq .reg (.cond (.seq .reg .leaf) .leaf))))))) (.seq (.draw .blk (.one 0 .stable (.one 1 .stable (.one 2 .pre (.one 3 .pre (.one 4 .pre (.one 6 .stable (.one 5 .keep (.one 7 .keep (.one 8 .keep (.one 9 .keep (.one 10 .stable .nil)))))))))))) .leaf))))
def F_access_Begin (a_0 : Int) (a_1 : Int) (a_2 : Int) (a_3_a : Option Addr) (a_3_l : Nat) (a_3_c : Nat) (identity : Int) (tick : Int) (w : World) (R : Value → World → Prop) : Prop :=
  (kAlloc w #[(.int .i64 a_0), (.int .i64 a_1), (.int .i64 a_2), (.slice a_3_a a_3_l a_3_c)] Ty_api_Access fun b w1 =>
  (kAlloc w1 #[.int .i64 (0 : Int), .int .i64 (0 : Int), .int .i64 (0 : Int), .slice none 0 0] Ty_api_Access fun b1 w2 =>
  (∃ x_0 x_1 x_2 : Int, ∃ x_3_a : Option Addr, ∃ x_3_l x_3_c : Nat, cellsAt w2 ⟨b, 0, none⟩ 0 [(.int .i64 x_0), (.int .i64 x_1), (.int .i64 x_2), (.slice x_3_a x_3_l x_3_c)] ∧
  (Calls Try.prog N_access_Check #[(.agg #[.int .i64 x_0, .int .i64 x_1, .int .i64 x_2, .slice x_3_a x_3_l x_3_c])] w2 fun e_ w3 =>
  ∃ r : Int, e_ = .returned (.int .i64 r) ∧
  (bsplit (!decide (r = (0 : Int)))
    ((∃ x_01 x_11 x_21 : Int, ∃ x_3_a1 : Option Addr, ∃ x_3_l1 x_3_c1 : Nat, cellsAt w3 ⟨b, 0, none⟩ 0 [(.int .i64 x_01), (.int .i64 x_11), (.int .i64 x_21), (.slice x_3_a1 x_3_l1 x_3_c1)] ∧
    (Calls Try.prog N_access_clone #[(.agg #[.int .i64 x_01, .int .i64 x_11, .int .i64 x_21, .slice x_3_a1 x_3_l1 x_3_c1])] w3 fun e_1 w4 =>
    ∃ r_0 r_1 r_2 : Int, ∃ r_3_a : Option Addr, ∃ r_3_l r_3_c : Nat, e_1 = .returned (.agg #[.int .i64 r_0, .int .i64 r_1, .int .i64 r_2, .slice r_3_a r_3_l r_3_c]) ∧
    (sxStore w4 ⟨b1, 0, none⟩ 0 [(.int .i64 r_0), (.int .i64 r_1), (.int .i64 r_2), (.slice r_3_a r_3_l r_3_c)] fun w5 =>
    (∃ r_01 r_11 r_21 : Int, ∃ r_3_a1 : Option Addr, ∃ r_3_l1 r_3_c1 : Nat, cellsAt w5 ⟨b1, 0, none⟩ 0 [(.int .i64 r_01), (.int .i64 r_11), (.int .i64 r_21), (.slice r_3_a1 r_3_l1 r_3_c1)] ∧
    R (.tuple #[(.agg #[.int .i64 r_01, .int .i64 r_11, .int .i64 r_21, .slice r_3_a1 r_3_l1 r_3_c1]), (.int .i64 r)]) w5)))))
    ((∃ J : Bool → World → Prop,
    (∀ (_junk : Env) (x1 : Bool) (w7 : World), J x1 w7 →
      (bsplit x1
        ((∃ x_02 x_12 x_22 : Int, ∃ x_3_a2 : Option Addr, ∃ x_3_l2 x_3_c2 : Nat, cellsAt w7 ⟨b, 0, none⟩ 0 [(.int .i64 x_02), (.int .i64 x_12), (.int .i64 x_22), (.slice x_3_a2 x_3_l2 x_3_c2)] ∧
        (Calls Try.prog N_access_clone #[(.agg #[.int .i64 x_02, .int .i64 x_12, .int .i64 x_22, .slice x_3_a2 x_3_l2 x_3_c2])] w7 fun e_3 w8 =>
        ∃ r_02 r_12 r_22 : Int, ∃ r_3_a2 : Option Addr, ∃ r_3_l2 r_3_c2 : Nat, e_3 = .returned (.agg #[.int .i64 r_02, .int .i64 r_12, .int .i64 r_22, .slice r_3_a2 r_3_l2 r_3_c2]) ∧
        (sxStore w8 ⟨b1, 0, none⟩ 0 [(.int .i64 r_02), (.int .i64 r_12), (.int .i64 r_22), (.slice r_3_a2 r_3_l2 r_3_c2)] fun w9 =>
        (∃ r_03 r_13 r_23 : Int, ∃ r_3_a3 : Option Addr, ∃ r_3_l3 r_3_c3 : Nat, cellsAt w9 ⟨b1, 0, none⟩ 0 [(.int .i64 r_03), (.int .i64 r_13), (.int .i64 r_23), (.slice r_3_a3 r_3_l3 r_3_c3)] ∧
        R (.tuple #[(.agg #[.int .i64 r_03, .int .i64 r_13, .int .i64 r_23, .slice r_3_a3 r_3_l3 r_3_c3]), (.int .i64 (3 : Int))]) w9)))))
        ((kLdS w7 ⟨b, 3, none⟩ fun x_a x_l x_c =>
        (Calls Try.prog N_access_find #[(.slice x_a x_l x_c), (.int .i64 identity)] w7 fun e_4 w10 =>
        ∃ r2 : Int, e_4 = .returned (.int .i64 r2) ∧
        (kLet (decide (r2 ≥ (0 : Int))) fun x2 =>
        (bsplit x2
          ((∃ x_03 x_13 x_23 : Int, ∃ x_3_a3 : Option Addr, ∃ x_3_l3 x_3_c3 : Nat, cellsAt w10 ⟨b, 0, none⟩ 0 [(.int .i64 x_03), (.int .i64 x_13), (.int .i64 x_23), (.slice x_3_a3 x_3_l3 x_3_c3)] ∧
          (Calls Try.prog N_access_clone #[(.agg #[.int .i64 x_03, .int .i64 x_13, .int .i64 x_23, .slice x_3_a3 x_3_l3 x_3_c3])] w10 fun e_5 w11 =>
          ∃ r_04 r_14 r_24 : Int, ∃ r_3_a4 : Option Addr, ∃ r_3_l4 r_3_c4 : Nat, e_5 = .returned (.agg #[.int .i64 r_04, .int .i64 r_14, .int .i64 r_24, .slice r_3_a4 r_3_l4 r_3_c4]) ∧
          (sxStore w11 ⟨b1, 0, none⟩ 0 [(.int .i64 r_04), (.int .i64 r_14), (.int .i64 r_24), (.slice r_3_a4 r_3_l4 r_3_c4)] fun w12 =>
          (∃ r_05 r_15 r_25 : Int, ∃ r_3_a5 : Option Addr, ∃ r_3_l5 r_3_c5 : Nat, cellsAt w12 ⟨b1, 0, none⟩ 0 [(.int .i64 r_05), (.int .i64 r_15), (.int .i64 r_25), (.slice r_3_a5 r_3_l5 r_3_c5)] ∧
          R (.tuple #[(.agg #[.int .i64 r_05, .int .i64 r_15, .int .i64 r_25, .slice r_3_a5 r_3_l5 r_3_c5]), (.int .i64 (12 : Int))]) w12)))))
          ((kLdS w10 ⟨b, 3, none⟩ fun _ x_l1 _ =>
          (kLet (decide ((x_l1 : Int) = (16 : Int))) fun x3 =>
          (bsplit x3
            ((∃ x_04 x_14 x_24 : Int, ∃ x_3_a4 : Option Addr, ∃ x_3_l4 x_3_c4 : Nat, cellsAt w10 ⟨b, 0, none⟩ 0 [(.int .i64 x_04), (.int .i64 x_14), (.int .i64 x_24), (.slice x_3_a4 x_3_l4 x_3_c4)] ∧
            (Calls Try.prog N_access_clone #[(.agg #[.int .i64 x_04, .int .i64 x_14, .int .i64 x_24, .slice x_3_a4 x_3_l4 x_3_c4])] w10 fun e_6 w13 =>
            ∃ r_06 r_16 r_26 : Int, ∃ r_3_a6 : Option Addr, ∃ r_3_l6 r_3_c6 : Nat, e_6 = .returned (.agg #[.int .i64 r_06, .int .i64 r_16, .int .i64 r_26, .slice r_3_a6 r_3_l6 r_3_c6]) ∧
            (sxStore w13 ⟨b1, 0, none⟩ 0 [(.int .i64 r_06), (.int .i64 r_16), (.int .i64 r_26), (.slice r_3_a6 r_3_l6 r_3_c6)] fun w14 =>
            (∃ r_07 r_17 r_27 : Int, ∃ r_3_a7 : Option Addr, ∃ r_3_l7 r_3_c7 : Nat, cellsAt w14 ⟨b1, 0, none⟩ 0 [(.int .i64 r_07), (.int .i64 r_17), (.int .i64 r_27), (.slice r_3_a7 r_3_l7 r_3_c7)] ∧
            R (.tuple #[(.agg #[.int .i64 r_07, .int .i64 r_17, .int .i64 r_27, .slice r_3_a7 r_3_l7 r_3_c7]), (.int .i64 (13 : Int))]) w14)))))
            ((kDrew w10 fun w15 =>
            (∃ S : Nat → Prop,
            (S b ∧
            (∃ x_05 x_15 x_25 : Int, ∃ x_3_a5 : Option Addr, ∃ x_3_l5 x_3_c5 : Nat, cellsAt w15 ⟨b, 0, none⟩ 0 [(.int .i64 x_05), (.int .i64 x_15), (.int .i64 x_25), (.slice x_3_a5 x_3_l5 x_3_c5)] ∧
            (kLd w15 ⟨b, 0, none⟩ .i64 fun x4 =>
            (Calls Try.prog N_access_Preamble #[(.int .i64 identity), (.int .i64 (0 : Int)), (.int .i64 x4)] w15 fun e_7 w16 =>
            ∃ r3 : Int, e_7 = .returned (.int .i64 r3) ∧
            (KeepsB S w15 w16 ∧ (KeepsB S w15 w16 ∧ (Calls Try.prog N_access_with #[(.agg #[.int .i64 x_05, .int .i64 x_15, .int .i64 x_25, .slice x_3_a5 x_3_l5 x_3_c5]), (.agg #[.int .i64 identity, .int .i64 r3, .int .i64 tick, .int .i64 (0 : Int)])] w16 fun e_8 w17 =>
            ∃ r_08 r_18 r_28 : Int, ∃ r_3_a8 : Option Addr, ∃ r_3_l8 r_3_c8 : Nat, e_8 = .returned (.agg #[.int .i64 r_08, .int .i64 r_18, .int .i64 r_28, .slice r_3_a8 r_3_l8 r_3_c8]) ∧
            (KeepsB S w15 w17 ∧ (sxStore w17 ⟨b1, 0, none⟩ 0 [(.int .i64 r_08), (.int .i64 r_18), (.int .i64 r_28), (.slice r_3_a8 r_3_l8 r_3_c8)] fun w18 =>
            (KeepsB S w15 w18 ∧ (∃ r_09 r_19 r_29 : Int, ∃ r_3_a9 : Option Addr, ∃ r_3_l9 r_3_c9 : Nat, cellsAt w18 ⟨b1, 0, none⟩ 0 [(.int .i64 r_09), (.int .i64 r_19), (.int .i64 r_29), (.slice r_3_a9 r_3_l9 r_3_c9)] ∧
            R (.tuple #[(.agg #[.int .i64 r_09, .int .i64 r_19, .int .i64 r_29, .slice r_3_a9 r_3_l9 r_3_c9]), (.int .i64 (0 : Int))]) w18))))))))))))))))))))))))) ∧
    (Calls Try.prog N_access_known #[(.int .i64 identity)] w3 fun e_2 w6 =>
    ∃ r1 : Bool, e_2 = .returned (.bool r1) ∧
    (bsplit (!r1)
      (J true w6)
      ((bsplit (decide (tick < (0 : Int)))
        (J true w6)
        ((kLet (decide (tick > (1048576 : Int))) fun x =>
        J x w6)))))))))))))
theorem F_access_Begin_eq (a_0 : Int) (a_1 : Int) (a_2 : Int) (a_3_a : Option Addr) (a_3_l : Nat) (a_3_c : Nat) (identity : Int) (tick : Int) (w : World) (R : Value → World → Prop) : sxFn Try.prog TT h_access_Begin Try.f8 #[(.agg #[.int .i64 a_0, .int .i64 a_1, .int .i64 a_2, .slice a_3_a a_3_l a_3_c]), (.int .i64 identity), (.int .i64 tick)] w R = F_access_Begin a_0 a_1 a_2 a_3_a a_3_l a_3_c identity tick w R := by kernel_rfl
theorem F_access_Begin_ok {R : Ending → World → Prop} (a_0 : Int) (a_1 : Int) (a_2 : Int) (a_3_a : Option Addr) (a_3_l : Nat) (a_3_c : Nat) (identity : Int) (tick : Int) (w : World) (h : F_access_Begin a_0 a_1 a_2 a_3_a a_3_l a_3_c identity tick w fun v w' => R (.returned v) w') : Calls Try.prog N_access_Begin #[(.agg #[.int .i64 a_0, .int .i64 a_1, .int .i64 a_2, .slice a_3_a a_3_l a_3_c]), (.int .i64 identity), (.int .i64 tick)] w R :=
  calls_of (f := 8) follows_ok Try.func8 (Eq.mpr (F_access_Begin_eq a_0 a_1 a_2 a_3_a a_3_l a_3_c identity tick w _) h)

def h_access_Tick : H := (.seq .reg (.seq .reg (.seq (.seq .reg (.seq .reg (.cond (.seq .reg .leaf) .leaf))) (.cut [] [5, 6, 7, 27, 28, 29, 30, 31, 32, 33] (.seq .reg (.cond (.seq .reg .leaf) .leaf)) (.seq .reg (.cut [(10, .p (.int .i64))] [10, 34, 35, 36, 37, 38, 39, 40, 41, 42, 43, 44, 45, 46, 47, 48, 49, 50] (.block (.loop [(10, .p (.int .i64))] [10, 34, 35, 36, 37, 38, 39, 40, 41, 42, 43, 44, 45, 46, 47, 48, 49, 50] (.seq (.seq .reg (.cond .leaf .leaf)) (.block .reg)))) (.seq .reg (.seq .reg (.seq (.seq .reg (.block (.loop [(58, .p (.int .i64))] [14, 58, 59, 60, 61, 62, 63, 64, 65, 66, 67] (.seq .reg (.seq (.cond .leaf .leaf) (.seq (.block (.seq .reg .reg)) .reg)))))) (.seq .reg (.seq .reg (.seq (.seq .reg (.block (.loop [(15, .p .slice), (16, .p .slice), (76, .p (.int .i64))] [15, 16, 18, 76, 77, 78, 79, 80, 81, 82, 83, 84, 85, 86, 87, 88, 89, 90, 91, 92, 93, 94, 95, 96, 97, 98, 99, 100, 101, 102, 103, 104, 105, 106, 107, 108, 109, 110, 111, 112, 113, 114, 115, 116, 117, 118, 119, 120, 121, 122, 123, 124, 125, 126, 127, 128, 129, 130] (.seq .reg (.seq (.cond .leaf .leaf) (.seq (.block (.seq .reg (.seq (.seq .reg (.cond (.seq .reg .leaf) .leaf)) (.seq .reg (.seq (.seq .reg (.cond (.seq .reg .leaf) .leaf)) (.seq .reg (.seq .reg .reg))))))) .reg)))))) (.seq .reg .leaf)))))))))))))
def F_access_Tick (a_0 : Int) (a_1 : Int) (a_2 : Int) (a_3_a : Option Addr) (a_3_l : Nat) (a_3_c : Nat) (tick : Int) (w : World) (R : Value → World → Prop) : Prop :=
  (kAlloc w #[(.int .i64 a_0), (.int .i64 a_1), (.int .i64 a_2), (.slice a_3_a a_3_l a_3_c)] Ty_api_Access fun b w1 =>
  (kAlloc w1 #[.int .i64 (0 : Int), .int .i64 (0 : Int), .int .i64 (0 : Int), .slice none 0 0] Ty_api_Access fun b1 w2 =>
  (∃ x_0 x_1 x_2 : Int, ∃ x_3_a : Option Addr, ∃ x_3_l x_3_c : Nat, cellsAt w2 ⟨b, 0, none⟩ 0 [(.int .i64 x_0), (.int .i64 x_1), (.int .i64 x_2), (.slice x_3_a x_3_l x_3_c)] ∧
  (Calls Try.prog N_access_clone #[(.agg #[.int .i64 x_0, .int .i64 x_1, .int .i64 x_2, .slice x_3_a x_3_l x_3_c])] w2 fun e_ w3 =>
  ∃ r_0 r_1 r_2 : Int, ∃ r_3_a : Option Addr, ∃ r_3_l r_3_c : Nat, e_ = .returned (.agg #[.int .i64 r_0, .int .i64 r_1, .int .i64 r_2, .slice r_3_a r_3_l r_3_c]) ∧
  (kAlloc w3 #[.int .i64 (0 : Int), .int .i64 (0 : Int), .int .i64 (0 : Int), .slice none 0 0] Ty_api_Access fun b2 w4 =>
  (sxStore w4 ⟨b2, 0, none⟩ 0 [(.int .i64 r_0), (.int .i64 r_1), (.int .i64 r_2), (.slice r_3_a r_3_l r_3_c)] fun w5 =>
  (∃ x_01 x_11 x_21 : Int, ∃ x_3_a1 : Option Addr, ∃ x_3_l1 x_3_c1 : Nat, cellsAt w5 ⟨b, 0, none⟩ 0 [(.int .i64 x_01), (.int .i64 x_11), (.int .i64 x_21), (.slice x_3_a1 x_3_l1 x_3_c1)] ∧
  (Calls Try.prog N_access_Check #[(.agg #[.int .i64 x_01, .int .i64 x_11, .int .i64 x_21, .slice x_3_a1 x_3_l1 x_3_c1])] w5 fun e_1 w6 =>
  ∃ r : Int, e_1 = .returned (.int .i64 r) ∧
  (bsplit (!decide (r = (0 : Int)))
    ((∃ x_02 x_12 x_22 : Int, ∃ x_3_a2 : Option Addr, ∃ x_3_l2 x_3_c2 : Nat, cellsAt w6 ⟨b2, 0, none⟩ 0 [(.int .i64 x_02), (.int .i64 x_12), (.int .i64 x_22), (.slice x_3_a2 x_3_l2 x_3_c2)] ∧
    (sxStore w6 ⟨b1, 0, none⟩ 0 [(.int .i64 x_02), (.int .i64 x_12), (.int .i64 x_22), (.slice x_3_a2 x_3_l2 x_3_c2)] fun w7 =>
    (∃ r_01 r_11 r_21 : Int, ∃ r_3_a1 : Option Addr, ∃ r_3_l1 r_3_c1 : Nat, cellsAt w7 ⟨b1, 0, none⟩ 0 [(.int .i64 r_01), (.int .i64 r_11), (.int .i64 r_21), (.slice r_3_a1 r_3_l1 r_3_c1)] ∧
    R (.tuple #[(.agg #[.int .i64 r_01, .int .i64 r_11, .int .i64 r_21, .slice r_3_a1 r_3_l1 r_3_c1]), (.slice none 0 0), (.slice none 0 0), (.int .i64 r)]) w7))))
    ((∃ J : World → Prop,
    (∀ (_junk : Env)  (w10 : World), J w10 →
      (∃ J1 : Int → World → Prop,
      (∀ (_junk : Env) (n1 : Int) (w12 : World), J1 n1 w12 →
        (kLdS w12 ⟨b, 3, none⟩ fun x_a2 _ x_c2 =>
        ((0 ≤ n1 ∧ n1 ≤ ((x_c2 : Nat) : Int)) ∧ (kMkMap w12 fun m w13 =>
        (∃ I1 : Int → Nat × (World → Prop), (I1 (0 : Int)).2 w13 ∧
        (∀ (_junk : Env) (x3 : Int) (w14 : World), (I1 x3).2 w14 →
          (bsplit (decide (x3 < ((n1.toNat - 0) : Int)))
            ((kIx (slAddr x_c2 0 4 x_a2) (n1.toNat - 0) x3 fun b4 =>
            (∃ x_05 x_15 x_25 x_3 : Int, cellsAt w14 (b4.add (x3.toNat * 4)) 0 [(.int .i64 x_05), (.int .i64 x_15), (.int .i64 x_25), (.int .i64 x_3)] ∧
            (kAlloc w14 #[.int .i64 (0 : Int), .int .i64 (0 : Int), .int .i64 (0 : Int), .int .i64 (0 : Int)] Ty_api_Attempt fun b5 w15 =>
            (sxStore w15 ⟨b5, 0, none⟩ 0 [(.int .i64 x_05), (.int .i64 x_15), (.int .i64 x_25), (.int .i64 x_3)] fun w16 =>
            (kLd w16 ⟨b5, 1, none⟩ .i64 fun x4 =>
            (kLook w16 m x4 fun x5 _ =>
            (kW .i64 (x5 + (1 : Int)) fun x6 =>
            (kMapSet w16 m x4 x6 fun w17 =>
            (kW .i64 (x3 + (1 : Int)) fun x7 =>
            ((I1 x7).2 w17 ∧ (I1 x7).1 < (I1 x3).1)))))))))))
            ((kLdS w14 ⟨b, 3, none⟩ fun x_a3 x_l3 x_c3 =>
            ((0 ≤ n1 ∧ n1 ≤ ((x_l3 : Nat) : Int)) ∧ (Calls Try.prog N_slices_Clone_Sapi_Attempt_api_Attempt #[(.slice (slAddr x_c3 (n1.toNat) 4 x_a3) (x_l3 - n1.toNat) (x_c3 - n1.toNat))] w14 fun e_2 w18 =>
            ∃ r_a : Option Addr, ∃ r_l r_c : Nat, e_2 = .returned (.slice r_a r_l r_c) ∧
            (kSet w18 ⟨b2, 3, none⟩ (.slice r_a r_l r_c) fun w19 =>
            (∃ I2 : Option Addr → Nat → Nat → Option Addr → Nat → Nat → Int → Nat × (World → Prop), (I2 none 0 0 none 0 0 (0 : Int)).2 w19 ∧
            (∀ (_junk : Env) (right_a : Option Addr) (right_l : Nat) (right_c : Nat) (given_a : Option Addr) (given_l : Nat) (given_c : Nat) (x8 : Int) (w20 : World), (I2 right_a right_l right_c given_a given_l given_c x8).2 w20 →
              (bsplit (decide (x8 < ((n1.toNat - 0) : Int)))
                ((kIx (slAddr x_c2 0 4 x_a2) (n1.toNat - 0) x8 fun b6 =>
                (∃ x_06 x_16 x_26 x_31 : Int, cellsAt w20 (b6.add (x8.toNat * 4)) 0 [(.int .i64 x_06), (.int .i64 x_16), (.int .i64 x_26), (.int .i64 x_31)] ∧
                (kAlloc w20 #[.int .i64 (0 : Int), .int .i64 (0 : Int), .int .i64 (0 : Int), .int .i64 (0 : Int)] Ty_api_Attempt fun b7 w21 =>
                (sxStore w21 ⟨b7, 0, none⟩ 0 [(.int .i64 x_06), (.int .i64 x_16), (.int .i64 x_26), (.int .i64 x_31)] fun w22 =>
                (kLd w22 ⟨b7, 1, none⟩ .i64 fun x9 =>
                (kLook w22 m x9 fun x10 _ =>
                (bsplit (decide (x10 = (1 : Int)))
                  ((kLd w22 ⟨b7, 0, none⟩ .i64 fun x11 =>
                  (kAlloc w22 #[(.int .i64 x11)] Ty_int fun b8 w23 =>
                  (AppP Try.prog #[Ty_S_int, Ty_S_int] Ty_S_int #[(.slice right_a right_l right_c), (.slice (some ⟨b8, 0, none⟩) 1 1)] w23 fun x_a4 x_l4 x_c4 w24 =>
                  (kW .i64 (x8 + (1 : Int)) fun x12 =>
                  ((I2 x_a4 x_l4 x_c4 given_a given_l given_c x12).2 w24 ∧ (I2 x_a4 x_l4 x_c4 given_a given_l given_c x12).1 < (I2 right_a right_l right_c given_a given_l given_c x8).1))))))
                  ((kLd w22 ⟨b7, 3, none⟩ .i64 fun x13 =>
                  (kW .i64 (x13 + (1 : Int)) fun x14 =>
                  (kSet w22 ⟨b7, 3, none⟩ (.int .i64 x14) fun w25 =>
                  (kLd w25 ⟨b7, 3, none⟩ .i64 fun x15 =>
                  (kLd w25 ⟨b, 1, none⟩ .i64 fun x16 =>
                  (bsplit (decide (x15 = x16))
                    ((kLd w25 ⟨b7, 0, none⟩ .i64 fun x17 =>
                    (kAlloc w25 #[(.int .i64 x17)] Ty_int fun b9 w26 =>
                    (AppP Try.prog #[Ty_S_int, Ty_S_int] Ty_S_int #[(.slice given_a given_l given_c), (.slice (some ⟨b9, 0, none⟩) 1 1)] w26 fun x_a5 x_l5 x_c5 w27 =>
                    (kW .i64 (x8 + (1 : Int)) fun x18 =>
                    ((I2 right_a right_l right_c x_a5 x_l5 x_c5 x18).2 w27 ∧ (I2 right_a right_l right_c x_a5 x_l5 x_c5 x18).1 < (I2 right_a right_l right_c given_a given_l given_c x8).1))))))
                    ((kLd w25 ⟨b7, 0, none⟩ .i64 fun x19 =>
                    (kLd w25 ⟨b7, 3, none⟩ .i64 fun x20 =>
                    (kLd w25 ⟨b, 0, none⟩ .i64 fun x21 =>
                    (Calls Try.prog N_access_Preamble #[(.int .i64 x19), (.int .i64 x20), (.int .i64 x21)] w25 fun e_3 w28 =>
                    ∃ r1 : Int, e_3 = .returned (.int .i64 r1) ∧
                    (kSet w28 ⟨b7, 1, none⟩ (.int .i64 r1) fun w29 =>
                    (kW .i64 (tick + (1 : Int)) fun x22 =>
                    (kLd w29 ⟨b7, 0, none⟩ .i64 fun x23 =>
                    (kW .i64 ((17 : Int) * x23) fun x24 =>
                    (kLd w29 ⟨b7, 3, none⟩ .i64 fun x25 =>
                    (kW .i64 ((5 : Int) * x25) fun x26 =>
                    (kW .i64 (x24 + x26) fun x27 =>
                    (kLd w29 ⟨b, 2, none⟩ .i64 fun x28 =>
                    (kW .i64 (x28 + (1 : Int)) fun x29 =>
                    (x29 ≠ 0 ∧ (kLet (Int.tmod x27 x29) fun x30 =>
                    (kW .i64 (x22 + x30) fun x31 =>
                    (kSet w29 ⟨b7, 2, none⟩ (.int .i64 x31) fun w30 =>
                    (∃ x_07 x_17 x_27 : Int, ∃ x_3_a5 : Option Addr, ∃ x_3_l5 x_3_c5 : Nat, cellsAt w30 ⟨b2, 0, none⟩ 0 [(.int .i64 x_07), (.int .i64 x_17), (.int .i64 x_27), (.slice x_3_a5 x_3_l5 x_3_c5)] ∧
                    (∃ x_08 x_18 x_28 x_32 : Int, cellsAt w30 ⟨b7, 0, none⟩ 0 [(.int .i64 x_08), (.int .i64 x_18), (.int .i64 x_28), (.int .i64 x_32)] ∧
                    (Calls Try.prog N_access_with #[(.agg #[.int .i64 x_07, .int .i64 x_17, .int .i64 x_27, .slice x_3_a5 x_3_l5 x_3_c5]), (.agg #[.int .i64 x_08, .int .i64 x_18, .int .i64 x_28, .int .i64 x_32])] w30 fun e_4 w31 =>
                    ∃ r_04 r_14 r_24 : Int, ∃ r_3_a4 : Option Addr, ∃ r_3_l4 r_3_c4 : Nat, e_4 = .returned (.agg #[.int .i64 r_04, .int .i64 r_14, .int .i64 r_24, .slice r_3_a4 r_3_l4 r_3_c4]) ∧
                    (sxStore w31 ⟨b2, 0, none⟩ 0 [(.int .i64 r_04), (.int .i64 r_14), (.int .i64 r_24), (.slice r_3_a4 r_3_l4 r_3_c4)] fun w32 =>
                    (kW .i64 (x8 + (1 : Int)) fun x32 =>
                    ((I2 right_a right_l right_c given_a given_l given_c x32).2 w32 ∧ (I2 right_a right_l right_c given_a given_l given_c x32).1 < (I2 right_a right_l right_c given_a given_l given_c x8).1)))))))))))))))))))))))))))))))))))))))
                ((∃ x_09 x_19 x_29 : Int, ∃ x_3_a6 : Option Addr, ∃ x_3_l6 x_3_c6 : Nat, cellsAt w20 ⟨b2, 0, none⟩ 0 [(.int .i64 x_09), (.int .i64 x_19), (.int .i64 x_29), (.slice x_3_a6 x_3_l6 x_3_c6)] ∧
                (sxStore w20 ⟨b1, 0, none⟩ 0 [(.int .i64 x_09), (.int .i64 x_19), (.int .i64 x_29), (.slice x_3_a6 x_3_l6 x_3_c6)] fun w33 =>
                (∃ r_05 r_15 r_25 : Int, ∃ r_3_a5 : Option Addr, ∃ r_3_l5 r_3_c5 : Nat, cellsAt w33 ⟨b1, 0, none⟩ 0 [(.int .i64 r_05), (.int .i64 r_15), (.int .i64 r_25), (.slice r_3_a5 r_3_l5 r_3_c5)] ∧
                R (.tuple #[(.agg #[.int .i64 r_05, .int .i64 r_15, .int .i64 r_25, .slice r_3_a5 r_3_l5 r_3_c5]), (.slice right_a right_l right_c), (.slice given_a given_l given_c), (.int .i64 (0 : Int))]) w33))))))))))))))))))) ∧
      (∃ I : Int → Nat × (World → Prop), (I (0 : Int)).2 w10 ∧
      (∀ (_junk : Env) (n : Int) (w11 : World), (I n).2 w11 →
        (kLdS w11 ⟨b, 3, none⟩ fun _ x_l _ =>
        (bsplit (decide (n < (x_l : Int)))
          ((kLdS w11 ⟨b, 3, none⟩ fun x_a1 x_l1 _ =>
          (kIx x_a1 x_l1 n fun b3 =>
          (kLd w11 ((b3.add (n.toNat * 4)).add 2) .i64 fun x =>
          (bsplit (decide (x ≤ tick))
            ((kW .i64 (n + (1 : Int)) fun x1 =>
            ((I x1).2 w11 ∧ (I x1).1 < (I n).1)))
            (J1 n w11))))))
          (J1 n w11))))))) ∧
    (bsplit (decide (tick < (0 : Int)))
      ((∃ x_03 x_13 x_23 : Int, ∃ x_3_a3 : Option Addr, ∃ x_3_l3 x_3_c3 : Nat, cellsAt w6 ⟨b2, 0, none⟩ 0 [(.int .i64 x_03), (.int .i64 x_13), (.int .i64 x_23), (.slice x_3_a3 x_3_l3 x_3_c3)] ∧
        (sxStore w6 ⟨b1, 0, none⟩ 0 [(.int .i64 x_03), (.int .i64 x_13), (.int .i64 x_23), (.slice x_3_a3 x_3_l3 x_3_c3)] fun w8 =>
        (∃ r_02 r_12 r_22 : Int, ∃ r_3_a2 : Option Addr, ∃ r_3_l2 r_3_c2 : Nat, cellsAt w8 ⟨b1, 0, none⟩ 0 [(.int .i64 r_02), (.int .i64 r_12), (.int .i64 r_22), (.slice r_3_a2 r_3_l2 r_3_c2)] ∧
        R (.tuple #[(.agg #[.int .i64 r_02, .int .i64 r_12, .int .i64 r_22, .slice r_3_a2 r_3_l2 r_3_c2]), (.slice none 0 0), (.slice none 0 0), (.int .i64 (3 : Int))]) w8))))
      ((bsplit (decide (tick > (1048576 : Int)))
        ((∃ x_04 x_14 x_24 : Int, ∃ x_3_a4 : Option Addr, ∃ x_3_l4 x_3_c4 : Nat, cellsAt w6 ⟨b2, 0, none⟩ 0 [(.int .i64 x_04), (.int .i64 x_14), (.int .i64 x_24), (.slice x_3_a4 x_3_l4 x_3_c4)] ∧
        (sxStore w6 ⟨b1, 0, none⟩ 0 [(.int .i64 x_04), (.int .i64 x_14), (.int .i64 x_24), (.slice x_3_a4 x_3_l4 x_3_c4)] fun w9 =>
        (∃ r_03 r_13 r_23 : Int, ∃ r_3_a3 : Option Addr, ∃ r_3_l3 r_3_c3 : Nat, cellsAt w9 ⟨b1, 0, none⟩ 0 [(.int .i64 r_03), (.int .i64 r_13), (.int .i64 r_23), (.slice r_3_a3 r_3_l3 r_3_c3)] ∧
        R (.tuple #[(.agg #[.int .i64 r_03, .int .i64 r_13, .int .i64 r_23, .slice r_3_a3 r_3_l3 r_3_c3]), (.slice none 0 0), (.slice none 0 0), (.int .i64 (3 : Int))]) w9))))
        (J w6)))))))))))))))
theorem F_access_Tick_eq (a_0 : Int) (a_1 : Int) (a_2 : Int) (a_3_a : Option Addr) (a_3_l : Nat) (a_3_c : Nat) (tick : Int) (w : World) (R : Value → World → Prop) : sxFn Try.prog TT h_access_Tick Try.f9 #[(.agg #[.int .i64 a_0, .int .i64 a_1, .int .i64 a_2, .slice a_3_a a_3_l a_3_c]), (.int .i64 tick)] w R = F_access_Tick a_0 a_1 a_2 a_3_a a_3_l a_3_c tick w R := by kernel_rfl
theorem F_access_Tick_ok {R : Ending → World → Prop} (a_0 : Int) (a_1 : Int) (a_2 : Int) (a_3_a : Option Addr) (a_3_l : Nat) (a_3_c : Nat) (tick : Int) (w : World) (h : F_access_Tick a_0 a_1 a_2 a_3_a a_3_l a_3_c tick w fun v w' => R (.returned v) w') : Calls Try.prog N_access_Tick #[(.agg #[.int .i64 a_0, .int .i64 a_1, .int .i64 a_2, .slice a_3_a a_3_l a_3_c]), (.int .i64 tick)] w R :=
  calls_of (f := 9) follows_ok Try.func9 (Eq.mpr (F_access_Tick_eq a_0 a_1 a_2 a_3_a a_3_l a_3_c tick w _) h)

def h_law38_awake : H := (.seq .reg (.seq .reg (.seq .reg (.seq .reg (.seq .reg (.seq .reg .leaf))))))
def F_law38_awake  (w : World) (R : Value → World → Prop) : Prop :=
  (kAlloc w #[.int .i64 (0 : Int), .int .i64 (0 : Int), .int .i64 (0 : Int), .slice none 0 0] Ty_api_Access fun b w1 =>
  (sxStore w1 ⟨b, 0, none⟩ 0 [(.int .i64 (64 : Int)), (.int .i64 (3 : Int)), (.int .i64 (5 : Int)), (.slice none 0 0)] fun w2 =>
  (∃ x_0 x_1 x_2 : Int, ∃ x_3_a : Option Addr, ∃ x_3_l x_3_c : Nat, cellsAt w2 ⟨b, 0, none⟩ 0 [(.int .i64 x_0), (.int .i64 x_1), (.int .i64 x_2), (.slice x_3_a x_3_l x_3_c)] ∧
  (Calls Try.prog N_access_Begin #[(.agg #[.int .i64 x_0, .int .i64 x_1, .int .i64 x_2, .slice x_3_a x_3_l x_3_c]), (.int .i64 (3 : Int)), (.int .i64 (0 : Int))] w2 fun e_ w3 =>
  ∃ r_0 r_1 r_2 : Int, ∃ r_3_a : Option Addr, ∃ r_3_l r_3_c : Nat, ∃ r : Int, e_ = .returned (.tuple #[(.agg #[.int .i64 r_0, .int .i64 r_1, .int .i64 r_2, .slice r_3_a r_3_l r_3_c]), (.int .i64 r)]) ∧
  (sxStore w3 ⟨b, 0, none⟩ 0 [(.int .i64 r_0), (.int .i64 r_1), (.int .i64 r_2), (.slice r_3_a r_3_l r_3_c)] fun w4 =>
  (∃ x_01 x_11 x_21 : Int, ∃ x_3_a1 : Option Addr, ∃ x_3_l1 x_3_c1 : Nat, cellsAt w4 ⟨b, 0, none⟩ 0 [(.int .i64 x_01), (.int .i64 x_11), (.int .i64 x_21), (.slice x_3_a1 x_3_l1 x_3_c1)] ∧
  (Calls Try.prog N_access_Begin #[(.agg #[.int .i64 x_01, .int .i64 x_11, .int .i64 x_21, .slice x_3_a1 x_3_l1 x_3_c1]), (.int .i64 (67 : Int)), (.int .i64 (0 : Int))] w4 fun e_1 w5 =>
  ∃ r_01 r_11 r_21 : Int, ∃ r_3_a1 : Option Addr, ∃ r_3_l1 r_3_c1 : Nat, ∃ r1 : Int, e_1 = .returned (.tuple #[(.agg #[.int .i64 r_01, .int .i64 r_11, .int .i64 r_21, .slice r_3_a1 r_3_l1 r_3_c1]), (.int .i64 r1)]) ∧
  (sxStore w5 ⟨b, 0, none⟩ 0 [(.int .i64 r_01), (.int .i64 r_11), (.int .i64 r_21), (.slice r_3_a1 r_3_l1 r_3_c1)] fun w6 =>
  (∃ x_02 x_12 x_22 : Int, ∃ x_3_a2 : Option Addr, ∃ x_3_l2 x_3_c2 : Nat, cellsAt w6 ⟨b, 0, none⟩ 0 [(.int .i64 x_02), (.int .i64 x_12), (.int .i64 x_22), (.slice x_3_a2 x_3_l2 x_3_c2)] ∧
  (Calls Try.prog N_access_Tick #[(.agg #[.int .i64 x_02, .int .i64 x_12, .int .i64 x_22, .slice x_3_a2 x_3_l2 x_3_c2]), (.int .i64 (0 : Int))] w6 fun e_2 w7 =>
  ∃ r_02 r_12 r_22 : Int, ∃ r_3_a2 : Option Addr, ∃ r_3_l2 r_3_c2 : Nat, ∃ r_a : Option Addr, ∃ r_l r_c : Nat, ∃ r_a1 : Option Addr, ∃ r_l1 r_c1 : Nat, ∃ r2 : Int, e_2 = .returned (.tuple #[(.agg #[.int .i64 r_02, .int .i64 r_12, .int .i64 r_22, .slice r_3_a2 r_3_l2 r_3_c2]), (.slice r_a r_l r_c), (.slice r_a1 r_l1 r_c1), (.int .i64 r2)]) ∧
  (kAlloc w7 #[.int .i64 (0 : Int), .int .i64 (0 : Int), .int .i64 (0 : Int), .slice none 0 0] Ty_api_Access fun b1 w8 =>
  (sxStore w8 ⟨b1, 0, none⟩ 0 [(.int .i64 r_02), (.int .i64 r_12), (.int .i64 r_22), (.slice r_3_a2 r_3_l2 r_3_c2)] fun w9 =>
  (bsplit (decide (r = (0 : Int)))
    ((bsplit (decide (r1 = (0 : Int)))
      ((bsplit (decide (r2 = (0 : Int)))
        ((bsplit (decide ((r_l : Int) = (0 : Int)))
          ((bsplit (decide ((r_l1 : Int) = (0 : Int)))
            ((kLdS w9 ⟨b1, 3, none⟩ fun _ x_l _ =>
            (bsplit (decide ((x_l : Int) = (2 : Int)))
              ((Calls Try.prog N_access_Preamble #[(.int .i64 (3 : Int)), (.int .i64 (1 : Int)), (.int .i64 (64 : Int))] w9 fun e_3 w10 =>
              ∃ r3 : Int, e_3 = .returned (.int .i64 r3) ∧
              (bsplit (decide (r3 = (34 : Int)))
                ((Calls Try.prog N_access_Preamble #[(.int .i64 (67 : Int)), (.int .i64 (1 : Int)), (.int .i64 (64 : Int))] w10 fun e_4 w11 =>
                ∃ r4 : Int, e_4 = .returned (.int .i64 r4) ∧
                (kLet (decide (r4 = (35 : Int))) fun x =>
                R (.bool x) w11)))
                (R (.bool false) w10))))
              (R (.bool false) w9))))
            (R (.bool false) w9)))
          (R (.bool false) w9)))
        (R (.bool false) w9)))
      (R (.bool false) w9)))
    (R (.bool false) w9))))))))))))))
theorem F_law38_awake_eq  (w : World) (R : Value → World → Prop) : sxFn Try.prog TT h_law38_awake Try.f10 #[] w R = F_law38_awake  w R := by kernel_rfl
theorem F_law38_awake_ok {R : Ending → World → Prop}  (w : World) (h : F_law38_awake  w fun v w' => R (.returned v) w') : Calls Try.prog N_law38_awake #[] w R :=
  calls_of (f := 10) follows_ok Try.func10 (Eq.mpr (F_law38_awake_eq  w _) h)

def h_access_Preamble : H := (.seq .reg (.seq (.cut [(25, .p .bool)] [7, 8, 9, 10, 11, 12, 13, 14, 15, 16, 17, 18, 19, 20, 21, 22, 23, 24, 25] .reg (.cond (.seq .reg .leaf) .leaf)) (.seq .reg .leaf)))
def F_access_Preamble (identity : Int) (tries : Int) (preambles : Int) (w : World) (R : Value → World → Prop) : Prop :=
  (∃ J : Bool → World → Prop,
  (∀ (_junk : Env) (x : Bool) (w2 : World), J x w2 →
    (bsplit x
      (R (.int .i64 (0 : Int)) w2)
      ((kW .i64 ((31 : Int) * tries) fun x1 =>
      (kW .i64 (identity + x1) fun x2 =>
      (preambles ≠ 0 ∧ (kW .i64 (Int.tdiv identity preambles) fun x3 =>
      (kW .i64 (tries * x3) fun x4 =>
      (kW .i64 (x2 + x4) fun x5 =>
      (preambles ≠ 0 ∧ (kLet (Int.tmod x5 preambles) fun x6 =>
      R (.int .i64 x6) w2))))))))))) ∧
  (bsplit (decide (preambles < (1 : Int)))
    (J true w)
    ((bsplit (decide (preambles > (64 : Int)))
      (J true w)
      ((Calls Try.prog N_access_known #[(.int .i64 identity)] w fun e_ w1 =>
      ∃ r : Bool, e_ = .returned (.bool r) ∧
      (bsplit (!r)
        (J true w1)
        ((bsplit (decide (tries < (0 : Int)))
          (J true w1)
          (J (decide (tries > (32 : Int))) w1))))))))))
theorem F_access_Preamble_eq (identity : Int) (tries : Int) (preambles : Int) (w : World) (R : Value → World → Prop) : sxFn Try.prog TT h_access_Preamble Try.f11 #[(.int .i64 identity), (.int .i64 tries), (.int .i64 preambles)] w R = F_access_Preamble identity tries preambles w R := by kernel_rfl
theorem F_access_Preamble_ok {R : Ending → World → Prop} (identity : Int) (tries : Int) (preambles : Int) (w : World) (h : F_access_Preamble identity tries preambles w fun v w' => R (.returned v) w') : Calls Try.prog N_access_Preamble #[(.int .i64 identity), (.int .i64 tries), (.int .i64 preambles)] w R :=
  calls_of (f := 11) follows_ok Try.func11 (Eq.mpr (F_access_Preamble_eq identity tries preambles w _) h)

def h_law38_agree : H := (.seq .reg (.seq .reg (.seq .reg (.cut [] [6, 31, 32, 33, 34, 35, 36, 37, 38, 39, 40, 41, 42, 43, 44, 45, 46] (.seq (.draw .blk (.one 0 .pur (.one 1 .pur (.one 2 .pur (.one 3 .pur (.one 4 .pre (.one 5 .pre (.one 6 .keep (.one 7 .pur (.one 8 .pur (.one 9 .pur (.one 10 .stable (.one 12 .stable (.one 11 .keep (.one 13 .last (.one 14 .pur (.one 15 .pur .nil))))))))))))))))) (.cond (.seq .reg .leaf) .leaf)) (.seq .reg (.seq .reg (.cut [] [6, 63, 64, 65, 66, 67, 68, 69, 70, 71, 72, 73, 74, 75, 76, 77, 78, 79, 80, 81, 82, 83] (.seq .reg (.cond (.seq .reg .leaf) .leaf)) (.seq .reg (.seq .reg (.seq .reg .leaf))))))))))
def F_law38_agree (a_0 : Int) (a_1 : Int) (a_2 : Int) (a_3_a : Option Addr) (a_3_l : Nat) (a_3_c : Nat) (identity : Int) (tick : Int) (w : World) (R : Value → World → Prop) : Prop :=
  (kAlloc w #[(.int .i64 a_0), (.int .i64 a_1), (.int .i64 a_2), (.slice a_3_a a_3_l a_3_c)] Ty_api_Access fun b w1 =>
  (∃ x_0 x_1 x_2 : Int, ∃ x_3_a : Option Addr, ∃ x_3_l x_3_c : Nat, cellsAt w1 ⟨b, 0, none⟩ 0 [(.int .i64 x_0), (.int .i64 x_1), (.int .i64 x_2), (.slice x_3_a x_3_l x_3_c)] ∧
  (Calls Try.prog N_access_Begin #[(.agg #[.int .i64 x_0, .int .i64 x_1, .int .i64 x_2, .slice x_3_a x_3_l x_3_c]), (.int .i64 identity), (.int .i64 tick)] w1 fun e_ w2 =>
  ∃ r_0 r_1 r_2 : Int, ∃ r_3_a : Option Addr, ∃ r_3_l r_3_c : Nat, ∃ r : Int, e_ = .returned (.tuple #[(.agg #[.int .i64 r_0, .int .i64 r_1, .int .i64 r_2, .slice r_3_a r_3_l r_3_c]), (.int .i64 r)]) ∧
  (kAlloc w2 #[.int .i64 (0 : Int), .int .i64 (0 : Int), .int .i64 (0 : Int), .slice none 0 0] Ty_api_Access fun b1 w3 =>
  (sxStore w3 ⟨b1, 0, none⟩ 0 [(.int .i64 r_0), (.int .i64 r_1), (.int .i64 r_2), (.slice r_3_a r_3_l r_3_c)] fun w4 =>
  (∃ x_01 x_11 x_21 : Int, ∃ x_3_a1 : Option Addr, ∃ x_3_l1 x_3_c1 : Nat, cellsAt w4 ⟨b, 0, none⟩ 0 [(.int .i64 x_01), (.int .i64 x_11), (.int .i64 x_21), (.slice x_3_a1 x_3_l1 x_3_c1)] ∧
  (Calls Try.prog N_ref38_Begin #[(.agg #[.int .i64 x_01, .int .i64 x_11, .int .i64 x_21, .slice x_3_a1 x_3_l1 x_3_c1]), (.int .i64 identity), (.int .i64 tick)] w4 fun e_1 w5 =>
  ∃ r_01 r_11 r_21 : Int, ∃ r_3_a1 : Option Addr, ∃ r_3_l1 r_3_c1 : Nat, ∃ r1 : Int, e_1 = .returned (.tuple #[(.agg #[.int .i64 r_01, .int .i64 r_11, .int .i64 r_21, .slice r_3_a1 r_3_l1 r_3_c1]), (.int .i64 r1)]) ∧
  (kAlloc w5 #[.int .i64 (0 : Int), .int .i64 (0 : Int), .int .i64 (0 : Int), .slice none 0 0] Ty_api_Access fun b2 w6 =>
  (sxStore w6 ⟨b2, 0, none⟩ 0 [(.int .i64 r_01), (.int .i64 r_11), (.int .i64 r_21), (.slice r_3_a1 r_3_l1 r_3_c1)] fun w7 =>
  (∃ J : World → Prop,
  (∀ (_junk : Env)  (w12 : World), J w12 →
    (∃ x_06 x_16 x_26 : Int, ∃ x_3_a6 : Option Addr, ∃ x_3_l6 x_3_c6 : Nat, cellsAt w12 ⟨b, 0, none⟩ 0 [(.int .i64 x_06), (.int .i64 x_16), (.int .i64 x_26), (.slice x_3_a6 x_3_l6 x_3_c6)] ∧
    (Calls Try.prog N_access_Tick #[(.agg #[.int .i64 x_06, .int .i64 x_16, .int .i64 x_26, .slice x_3_a6 x_3_l6 x_3_c6]), (.int .i64 tick)] w12 fun e_5 w13 =>
    ∃ r_02 r_12 r_22 : Int, ∃ r_3_a2 : Option Addr, ∃ r_3_l2 r_3_c2 : Nat, ∃ r_a : Option Addr, ∃ r_l r_c : Nat, ∃ r_a1 : Option Addr, ∃ r_l1 r_c1 : Nat, ∃ r5 : Int, e_5 = .returned (.tuple #[(.agg #[.int .i64 r_02, .int .i64 r_12, .int .i64 r_22, .slice r_3_a2 r_3_l2 r_3_c2]), (.slice r_a r_l r_c), (.slice r_a1 r_l1 r_c1), (.int .i64 r5)]) ∧
    (sxStore w13 ⟨b1, 0, none⟩ 0 [(.int .i64 r_02), (.int .i64 r_12), (.int .i64 r_22), (.slice r_3_a2 r_3_l2 r_3_c2)] fun w14 =>
    (∃ x_07 x_17 x_27 : Int, ∃ x_3_a7 : Option Addr, ∃ x_3_l7 x_3_c7 : Nat, cellsAt w14 ⟨b, 0, none⟩ 0 [(.int .i64 x_07), (.int .i64 x_17), (.int .i64 x_27), (.slice x_3_a7 x_3_l7 x_3_c7)] ∧
    (Calls Try.prog N_ref38_Tick #[(.agg #[.int .i64 x_07, .int .i64 x_17, .int .i64 x_27, .slice x_3_a7 x_3_l7 x_3_c7]), (.int .i64 tick)] w14 fun e_6 w15 =>
    ∃ r_03 r_13 r_23 : Int, ∃ r_3_a3 : Option Addr, ∃ r_3_l3 r_3_c3 : Nat, ∃ r_a2 : Option Addr, ∃ r_l2 r_c2 : Nat, ∃ r_a3 : Option Addr, ∃ r_l3 r_c3 : Nat, ∃ r6 : Int, e_6 = .returned (.tuple #[(.agg #[.int .i64 r_03, .int .i64 r_13, .int .i64 r_23, .slice r_3_a3 r_3_l3 r_3_c3]), (.slice r_a2 r_l2 r_c2), (.slice r_a3 r_l3 r_c3), (.int .i64 r6)]) ∧
    (sxStore w15 ⟨b2, 0, none⟩ 0 [(.int .i64 r_03), (.int .i64 r_13), (.int .i64 r_23), (.slice r_3_a3 r_3_l3 r_3_c3)] fun w16 =>
    (∃ J1 : World → Prop,
    (∀ (_junk : Env)  (w20 : World), J1 w20 →
      (∃ x_010 x_110 x_210 : Int, ∃ x_3_a10 : Option Addr, ∃ x_3_l10 x_3_c10 : Nat, cellsAt w20 ⟨b, 0, none⟩ 0 [(.int .i64 x_010), (.int .i64 x_110), (.int .i64 x_210), (.slice x_3_a10 x_3_l10 x_3_c10)] ∧
      (Calls Try.prog N_access_Stop #[(.agg #[.int .i64 x_010, .int .i64 x_110, .int .i64 x_210, .slice x_3_a10 x_3_l10 x_3_c10]), (.int .i64 identity)] w20 fun e_10 w21 =>
      ∃ r_04 r_14 r_24 : Int, ∃ r_3_a4 : Option Addr, ∃ r_3_l4 r_3_c4 : Nat, ∃ r10 : Bool, e_10 = .returned (.tuple #[(.agg #[.int .i64 r_04, .int .i64 r_14, .int .i64 r_24, .slice r_3_a4 r_3_l4 r_3_c4]), (.bool r10)]) ∧
      (sxStore w21 ⟨b1, 0, none⟩ 0 [(.int .i64 r_04), (.int .i64 r_14), (.int .i64 r_24), (.slice r_3_a4 r_3_l4 r_3_c4)] fun w22 =>
      (∃ x_011 x_111 x_211 : Int, ∃ x_3_a11 : Option Addr, ∃ x_3_l11 x_3_c11 : Nat, cellsAt w22 ⟨b, 0, none⟩ 0 [(.int .i64 x_011), (.int .i64 x_111), (.int .i64 x_211), (.slice x_3_a11 x_3_l11 x_3_c11)] ∧
      (Calls Try.prog N_ref38_Stop #[(.agg #[.int .i64 x_011, .int .i64 x_111, .int .i64 x_211, .slice x_3_a11 x_3_l11 x_3_c11]), (.int .i64 identity)] w22 fun e_11 w23 =>
      ∃ r_05 r_15 r_25 : Int, ∃ r_3_a5 : Option Addr, ∃ r_3_l5 r_3_c5 : Nat, ∃ r11 : Bool, e_11 = .returned (.tuple #[(.agg #[.int .i64 r_05, .int .i64 r_15, .int .i64 r_25, .slice r_3_a5 r_3_l5 r_3_c5]), (.bool r11)]) ∧
      (sxStore w23 ⟨b2, 0, none⟩ 0 [(.int .i64 r_05), (.int .i64 r_15), (.int .i64 r_25), (.slice r_3_a5 r_3_l5 r_3_c5)] fun w24 =>
      (bsplit (r10 == r11)
        ((∃ x_012 x_112 x_212 : Int, ∃ x_3_a12 : Option Addr, ∃ x_3_l12 x_3_c12 : Nat, cellsAt w24 ⟨b1, 0, none⟩ 0 [(.int .i64 x_012), (.int .i64 x_112), (.int .i64 x_212), (.slice x_3_a12 x_3_l12 x_3_c12)] ∧
        (∃ x_013 x_113 x_213 : Int, ∃ x_3_a13 : Option Addr, ∃ x_3_l13 x_3_c13 : Nat, cellsAt w24 ⟨b2, 0, none⟩ 0 [(.int .i64 x_013), (.int .i64 x_113), (.int .i64 x_213), (.slice x_3_a13 x_3_l13 x_3_c13)] ∧
        (Calls Try.prog N_ref38_Same #[(.agg #[.int .i64 x_012, .int .i64 x_112, .int .i64 x_212, .slice x_3_a12 x_3_l12 x_3_c12]), (.agg #[.int .i64 x_013, .int .i64 x_113, .int .i64 x_213, .slice x_3_a13 x_3_l13 x_3_c13])] w24 fun e_12 w25 =>
        ∃ r12 : Bool, e_12 = .returned (.bool r12) ∧
        R (.bool r12) w25))))
        (R (.bool false) w24))))))))) ∧
    (bsplit (!decide (r5 = r6))
      (R (.bool false) w16)
      ((∃ x_08 x_18 x_28 : Int, ∃ x_3_a8 : Option Addr, ∃ x_3_l8 x_3_c8 : Nat, cellsAt w16 ⟨b1, 0, none⟩ 0 [(.int .i64 x_08), (.int .i64 x_18), (.int .i64 x_28), (.slice x_3_a8 x_3_l8 x_3_c8)] ∧
      (∃ x_09 x_19 x_29 : Int, ∃ x_3_a9 : Option Addr, ∃ x_3_l9 x_3_c9 : Nat, cellsAt w16 ⟨b2, 0, none⟩ 0 [(.int .i64 x_09), (.int .i64 x_19), (.int .i64 x_29), (.slice x_3_a9 x_3_l9 x_3_c9)] ∧
      (Calls Try.prog N_ref38_Same #[(.agg #[.int .i64 x_08, .int .i64 x_18, .int .i64 x_28, .slice x_3_a8 x_3_l8 x_3_c8]), (.agg #[.int .i64 x_09, .int .i64 x_19, .int .i64 x_29, .slice x_3_a9 x_3_l9 x_3_c9])] w16 fun e_7 w17 =>
      ∃ r7 : Bool, e_7 = .returned (.bool r7) ∧
      (bsplit (!r7)
        (R (.bool false) w17)
        ((Calls Try.prog N_roll_SameInts #[(.slice r_a r_l r_c), (.slice r_a2 r_l2 r_c2)] w17 fun e_8 w18 =>
        ∃ r8 : Bool, e_8 = .returned (.bool r8) ∧
        (bsplit (!r8)
          (R (.bool false) w18)
          ((Calls Try.prog N_roll_SameInts #[(.slice r_a1 r_l1 r_c1), (.slice r_a3 r_l3 r_c3)] w18 fun e_9 w19 =>
          ∃ r9 : Bool, e_9 = .returned (.bool r9) ∧
          (bsplit (!r9)
            (R (.bool false) w19)
            (J1 w19))))))))))))))))))))) ∧
  (kDrew w7 fun w8 =>
  (∃ S : Nat → Prop,
  (bsplit (!decide (r = r1))
    (R (.bool false) w8)
    ((∃ x_02 x_12 x_22 : Int, ∃ x_3_a2 : Option Addr, ∃ x_3_l2 x_3_c2 : Nat, cellsAt w8 ⟨b1, 0, none⟩ 0 [(.int .i64 x_02), (.int .i64 x_12), (.int .i64 x_22), (.slice x_3_a2 x_3_l2 x_3_c2)] ∧
    (∃ x_03 x_13 x_23 : Int, ∃ x_3_a3 : Option Addr, ∃ x_3_l3 x_3_c3 : Nat, cellsAt w8 ⟨b2, 0, none⟩ 0 [(.int .i64 x_03), (.int .i64 x_13), (.int .i64 x_23), (.slice x_3_a3 x_3_l3 x_3_c3)] ∧
    (Calls Try.prog N_ref38_Same #[(.agg #[.int .i64 x_02, .int .i64 x_12, .int .i64 x_22, .slice x_3_a2 x_3_l2 x_3_c2]), (.agg #[.int .i64 x_03, .int .i64 x_13, .int .i64 x_23, .slice x_3_a3 x_3_l3 x_3_c3])] w8 fun e_2 w9 =>
    ∃ r2 : Bool, e_2 = .returned (.bool r2) ∧
    (KeepsB S w8 w9 ∧ (bsplit (!r2)
      (R (.bool false) w9)
      ((S b ∧
      (∃ x_04 x_14 x_24 : Int, ∃ x_3_a4 : Option Addr, ∃ x_3_l4 x_3_c4 : Nat, cellsAt w8 ⟨b, 0, none⟩ 0 [(.int .i64 x_04), (.int .i64 x_14), (.int .i64 x_24), (.slice x_3_a4 x_3_l4 x_3_c4)] ∧
      (S b ∧
      (∃ x_05 x_15 x_25 : Int, ∃ x_3_a5 : Option Addr, ∃ x_3_l5 x_3_c5 : Nat, cellsAt w8 ⟨b, 0, none⟩ 0 [(.int .i64 x_05), (.int .i64 x_15), (.int .i64 x_25), (.slice x_3_a5 x_3_l5 x_3_c5)] ∧
      (Calls Try.prog N_access_Check #[(.agg #[.int .i64 x_04, .int .i64 x_14, .int .i64 x_24, .slice x_3_a4 x_3_l4 x_3_c4])] w9 fun e_3 w10 =>
      ∃ r3 : Int, e_3 = .returned (.int .i64 r3) ∧
      (KeepsB S w8 w10 ∧ (Calls Try.prog N_ref38_Check #[(.agg #[.int .i64 x_05, .int .i64 x_15, .int .i64 x_25, .slice x_3_a5 x_3_l5 x_3_c5])] w10 fun e_4 w11 =>
      ∃ r4 : Int, e_4 = .returned (.int .i64 r4) ∧
      (bsplit (!decide (r3 = r4))
        (R (.bool false) w11)
        (J w11)))))))))))))))))))))))))))))
theorem F_law38_agree_eq (a_0 : Int) (a_1 : Int) (a_2 : Int) (a_3_a : Option Addr) (a_3_l : Nat) (a_3_c : Nat) (identity : Int) (tick : Int) (w : World) (R : Value → World → Prop) : sxFn Try.prog TT h_law38_agree Try.f12 #[(.agg #[.int .i64 a_0, .int .i64 a_1, .int .i64 a_2, .slice a_3_a a_3_l a_3_c]), (.int .i64 identity), (.int .i64 tick)] w R = F_law38_agree a_0 a_1 a_2 a_3_a a_3_l a_3_c identity tick w R := by kernel_rfl
theorem F_law38_agree_ok {R : Ending → World → Prop} (a_0 : Int) (a_1 : Int) (a_2 : Int) (a_3_a : Option Addr) (a_3_l : Nat) (a_3_c : Nat) (identity : Int) (tick : Int) (w : World) (h : F_law38_agree a_0 a_1 a_2 a_3_a a_3_l a_3_c identity tick w fun v w' => R (.returned v) w') : Calls Try.prog N_law38_agree #[(.agg #[.int .i64 a_0, .int .i64 a_1, .int .i64 a_2, .slice a_3_a a_3_l a_3_c]), (.int .i64 identity), (.int .i64 tick)] w R :=
  calls_of (f := 12) follows_ok Try.func12 (Eq.mpr (F_law38_agree_eq a_0 a_1 a_2 a_3_a a_3_l a_3_c identity tick w _) h)

def h_ref38_Preamble : H := (.seq .reg (.seq (.cut [(28, .p .bool)] [7, 8, 9, 10, 11, 12, 13, 14, 15, 16, 17, 18, 19, 20, 21, 22, 23, 24, 25, 26, 27, 28] .reg (.cond (.seq .reg .leaf) .leaf)) (.seq .reg .leaf)))
def F_ref38_Preamble (identity : Int) (tries : Int) (preambles : Int) (w : World) (R : Value → World → Prop) : Prop :=
  (∃ J : Bool → World → Prop,
  (∀ (_junk : Env) (x : Bool) (w1 : World), J x w1 →
    (bsplit x
      (R (.int .i64 (0 : Int)) w1)
      ((kW .i64 ((31 : Int) * tries) fun x1 =>
      (kW .i64 (identity + x1) fun x2 =>
      (preambles ≠ 0 ∧ (kW .i64 (Int.tdiv identity preambles) fun x3 =>
      (kW .i64 (tries * x3) fun x4 =>
      (kW .i64 (x2 + x4) fun x5 =>
      (preambles ≠ 0 ∧ (kLet (Int.tmod x5 preambles) fun x6 =>
      R (.int .i64 x6) w1))))))))))) ∧
  (bsplit (decide (preambles < (1 : Int)))
    (J true w)
    ((bsplit (decide (preambles > (64 : Int)))
      (J true w)
      ((bsplit (decide (identity < (0 : Int)))
        (J true w)
        ((bsplit (decide (identity ≥ (65536 : Int)))
          (J true w)
          ((bsplit (decide (tries < (0 : Int)))
            (J true w)
            (J (decide (tries > (32 : Int))) w)))))))))))
theorem F_ref38_Preamble_eq (identity : Int) (tries : Int) (preambles : Int) (w : World) (R : Value → World → Prop) : sxFn Try.prog TT h_ref38_Preamble Try.f13 #[(.int .i64 identity), (.int .i64 tries), (.int .i64 preambles)] w R = F_ref38_Preamble identity tries preambles w R := by kernel_rfl
theorem F_ref38_Preamble_ok {R : Ending → World → Prop} (identity : Int) (tries : Int) (preambles : Int) (w : World) (h : F_ref38_Preamble identity tries preambles w fun v w' => R (.returned v) w') : Calls Try.prog N_ref38_Preamble #[(.int .i64 identity), (.int .i64 tries), (.int .i64 preambles)] w R :=
  calls_of (f := 13) follows_ok Try.func13 (Eq.mpr (F_ref38_Preamble_eq identity tries preambles w _) h)

def h_roll_Light : H := (.seq .reg (.seq .reg .leaf))
def F_roll_Light (_ : Option Addr) (l_l : Nat) (_ : Nat) (w : World) (R : Value → World → Prop) : Prop :=
  (kLet (decide ((l_l : Int) ≤ (300 : Int))) fun x =>
  R (.bool x) w)
theorem F_roll_Light_eq (l_a : Option Addr) (l_l : Nat) (l_c : Nat) (w : World) (R : Value → World → Prop) : sxFn Try.prog TT h_roll_Light Try.f14 #[(.slice l_a l_l l_c)] w R = F_roll_Light l_a l_l l_c w R := by kernel_rfl
theorem F_roll_Light_ok {R : Ending → World → Prop} (l_a : Option Addr) (l_l : Nat) (l_c : Nat) (w : World) (h : F_roll_Light l_a l_l l_c w fun v w' => R (.returned v) w') : Calls Try.prog N_roll_Light #[(.slice l_a l_l l_c)] w R :=
  calls_of (f := 14) follows_ok Try.func14 (Eq.mpr (F_roll_Light_eq l_a l_l l_c w _) h)

def h_roll_Roll : H := (.seq .reg (.seq .reg .leaf))
def F_roll_Roll (l_a : Option Addr) (l_l : Nat) (l_c : Nat) (w : World) (R : Value → World → Prop) : Prop :=
  (kAlloc w #[] Ty_int fun b w1 =>
  (AppP Try.prog #[Ty_S_int, Ty_S_int] Ty_S_int #[(.slice (some ⟨b, 0, none⟩) 0 0), (.slice l_a l_l l_c)] w1 fun x_a x_l x_c w2 =>
  (kAlloc w2 #[(.slice x_a x_l x_c), (.int .i64 (0 : Int))] Ty_radiolinkroll_Dice fun b1 w3 =>
  R (.pointer (some ⟨b1, 0, none⟩)) w3)))
theorem F_roll_Roll_eq (l_a : Option Addr) (l_l : Nat) (l_c : Nat) (w : World) (R : Value → World → Prop) : sxFn Try.prog TT h_roll_Roll Try.f15 #[(.slice l_a l_l l_c)] w R = F_roll_Roll l_a l_l l_c w R := by kernel_rfl
theorem F_roll_Roll_ok {R : Ending → World → Prop} (l_a : Option Addr) (l_l : Nat) (l_c : Nat) (w : World) (h : F_roll_Roll l_a l_l l_c w fun v w' => R (.returned v) w') : Calls Try.prog N_roll_Roll #[(.slice l_a l_l l_c)] w R :=
  calls_of (f := 15) follows_ok Try.func15 (Eq.mpr (F_roll_Roll_eq l_a l_l l_c w _) h)

def h_roll_Dice_Next : H := (.seq .reg (.seq (.seq (.draw .no (.one 0 .stable (.one 1 .stable (.one 2 .stable (.one 3 .stable (.one 4 .stable (.one 5 .stable (.one 6 .stable (.one 7 .stable (.one 8 .stable (.one 9 .stable .nil))))))))))) (.cond (.seq .reg .leaf) .leaf)) (.seq .reg (.seq (.draw .blk (.one 0 .pre (.one 1 .pre (.one 2 .pre (.one 3 .pre (.one 4 .pre (.one 5 .pre (.one 6 .pre (.one 7 .pre (.one 8 .pre (.one 9 .pre (.one 10 .pre (.one 11 .pre (.one 12 .keep (.one 13 .stable .nil))))))))))))))) .leaf))))
def F_roll_Dice_Next (d_b : Nat) (d_o : Nat) (n : Int) (w : World) (R : Value → World → Prop) : Prop :=
  (kDrew w fun w1 =>
  (kLd w1 ⟨d_b, d_o + 1, none⟩ .i64 fun x =>
  (kLdS w1 ⟨d_b, d_o, none⟩ fun _ x_l _ =>
  (bsplit (decide (x ≥ (x_l : Int)))
    (R (.int .i64 (0 : Int)) w1)
    ((kLd w1 ⟨d_b, d_o + 1, none⟩ .i64 fun x1 =>
    (kW .i64 (x1 + (1 : Int)) fun x2 =>
    (kSet w1 ⟨d_b, d_o + 1, none⟩ (.int .i64 x2) fun w2 =>
    (kDrew w2 fun w3 =>
    (∃ S : Nat → Prop,
    (kLdS w3 ⟨d_b, d_o, none⟩ fun x_a1 x_l1 _ =>
    (kLd w3 ⟨d_b, d_o + 1, none⟩ .i64 fun x3 =>
    (kW .i64 (x3 - (1 : Int)) fun x4 =>
    (kIx x_a1 x_l1 x4 fun b =>
    (kLd w3 (b.add (x4.toNat * 1)) .i64 fun x5 =>
    (Calls Try.prog N_roll_Mod #[(.int .i64 x5), (.int .i64 n)] w3 fun e_ w4 =>
    ∃ r : Int, e_ = .returned (.int .i64 r) ∧
    (KeepsB S w3 w4 ∧ R (.int .i64 r) w4)))))))))))))))))
theorem F_roll_Dice_Next_eq (d_b : Nat) (d_o : Nat) (n : Int) (w : World) (R : Value → World → Prop) : sxFn Try.prog TT h_roll_Dice_Next Try.f16 #[(.pointer (some ⟨d_b, d_o, none⟩)), (.int .i64 n)] w R = F_roll_Dice_Next d_b d_o n w R := by kernel_rfl
theorem F_roll_Dice_Next_ok {R : Ending → World → Prop} (d_b : Nat) (d_o : Nat) (n : Int) (w : World) (h : F_roll_Dice_Next d_b d_o n w fun v w' => R (.returned v) w') : Calls Try.prog N_roll_Dice_Next #[(.pointer (some ⟨d_b, d_o, none⟩)), (.int .i64 n)] w R :=
  calls_of (f := 16) follows_ok Try.func16 (Eq.mpr (F_roll_Dice_Next_eq d_b d_o n w _) h)

def h_roll_Dice_Rest : H := (.seq .reg (.seq (.draw .no (.one 0 .stable (.one 1 .stable (.one 2 .stable (.one 3 .stable (.one 4 .stable (.one 5 .stable (.one 6 .stable (.one 7 .stable (.one 8 .stable (.one 9 .stable (.one 10 .stable (.one 11 .stable .nil))))))))))))) .leaf))
def F_roll_Dice_Rest (d_b : Nat) (d_o : Nat) (w : World) (R : Value → World → Prop) : Prop :=
  (kDrew w fun w1 =>
  (kLdS w1 ⟨d_b, d_o, none⟩ fun _ x_l _ =>
  (kLd w1 ⟨d_b, d_o + 1, none⟩ .i64 fun x =>
  (kW .i64 ((x_l : Int) - x) fun x1 =>
  (kLet (if x1 > (0 : Int) then x1 else (0 : Int)) fun x2 =>
  R (.int .i64 x2) w1)))))
theorem F_roll_Dice_Rest_eq (d_b : Nat) (d_o : Nat) (w : World) (R : Value → World → Prop) : sxFn Try.prog TT h_roll_Dice_Rest Try.f17 #[(.pointer (some ⟨d_b, d_o, none⟩))] w R = F_roll_Dice_Rest d_b d_o w R := by kernel_rfl
theorem F_roll_Dice_Rest_ok {R : Ending → World → Prop} (d_b : Nat) (d_o : Nat) (w : World) (h : F_roll_Dice_Rest d_b d_o w fun v w' => R (.returned v) w') : Calls Try.prog N_roll_Dice_Rest #[(.pointer (some ⟨d_b, d_o, none⟩))] w R :=
  calls_of (f := 17) follows_ok Try.func17 (Eq.mpr (F_roll_Dice_Rest_eq d_b d_o w _) h)

def h_ref38_Stop : H := (.seq .reg (.cut [] [5, 8, 9, 10, 11, 12, 13, 14, 15, 16, 17, 18] (.seq .reg (.cond (.seq .reg .leaf) .leaf)) (.seq .reg (.seq (.seq .reg (.block (.loop [(6, .p .slice), (7, .p (.int .i64))] [6, 7, 19, 20, 21, 22, 23, 24, 25, 26, 27, 28, 29, 30, 31, 32, 33, 34, 35, 36, 37, 38, 39, 40, 41] (.seq (.seq .reg (.cond .leaf .leaf)) (.seq (.block (.seq .reg (.cond .reg .leaf))) .reg))))) (.seq .reg (.seq .reg .leaf))))))
def F_ref38_Stop (a_0 : Int) (a_1 : Int) (a_2 : Int) (a_3_a : Option Addr) (a_3_l : Nat) (a_3_c : Nat) (identity : Int) (w : World) (R : Value → World → Prop) : Prop :=
  (kAlloc w #[(.int .i64 a_0), (.int .i64 a_1), (.int .i64 a_2), (.slice a_3_a a_3_l a_3_c)] Ty_api_Access fun b w1 =>
  (kAlloc w1 #[.int .i64 (0 : Int), .int .i64 (0 : Int), .int .i64 (0 : Int), .slice none 0 0] Ty_api_Access fun b1 w2 =>
  (∃ J : World → Prop,
  (∀ (_junk : Env)  (w7 : World), J w7 →
    (∃ I : Option Addr → Nat → Nat → Int → Nat × (World → Prop), (I none 0 0 (0 : Int)).2 w7 ∧
    (∀ (_junk : Env) (stay_a : Option Addr) (stay_l : Nat) (stay_c : Nat) (i : Int) (w8 : World), (I stay_a stay_l stay_c i).2 w8 →
      (kLdS w8 ⟨b, 3, none⟩ fun _ x_l1 _ =>
      (bsplit (decide (i < (x_l1 : Int)))
        ((kLdS w8 ⟨b, 3, none⟩ fun x_a2 x_l2 _ =>
        (kIx x_a2 x_l2 i fun b2 =>
        (kLd w8 (b2.add (i.toNat * 4)) .i64 fun x =>
        (bsplit (!decide (x = identity))
          ((kLdS w8 ⟨b, 3, none⟩ fun x_a3 x_l3 _ =>
          (kIx x_a3 x_l3 i fun b3 =>
          (∃ x_03 x_13 x_23 x_3 : Int, cellsAt w8 (b3.add (i.toNat * 4)) 0 [(.int .i64 x_03), (.int .i64 x_13), (.int .i64 x_23), (.int .i64 x_3)] ∧
          (kAlloc w8 #[(.int .i64 x_03), (.int .i64 x_13), (.int .i64 x_23), (.int .i64 x_3)] Ty_api_Attempt fun b4 w9 =>
          (AppP Try.prog #[Ty_S_api_Attempt, Ty_S_api_Attempt] Ty_S_api_Attempt #[(.slice stay_a stay_l stay_c), (.slice (some ⟨b4, 0, none⟩) 1 1)] w9 fun x_a4 x_l4 x_c4 w10 =>
          (kW .i64 (i + (1 : Int)) fun x1 =>
          ((I x_a4 x_l4 x_c4 x1).2 w10 ∧ (I x_a4 x_l4 x_c4 x1).1 < (I stay_a stay_l stay_c i).1))))))))
          ((kW .i64 (i + (1 : Int)) fun x2 =>
          ((I stay_a stay_l stay_c x2).2 w8 ∧ (I stay_a stay_l stay_c x2).1 < (I stay_a stay_l stay_c i).1))))))))
        ((kSet w8 ⟨b, 3, none⟩ (.slice stay_a stay_l stay_c) fun w11 =>
        (∃ x_04 x_14 x_24 : Int, ∃ x_3_a3 : Option Addr, ∃ x_3_l3 x_3_c3 : Nat, cellsAt w11 ⟨b, 0, none⟩ 0 [(.int .i64 x_04), (.int .i64 x_14), (.int .i64 x_24), (.slice x_3_a3 x_3_l3 x_3_c3)] ∧
        (sxStore w11 ⟨b1, 0, none⟩ 0 [(.int .i64 x_04), (.int .i64 x_14), (.int .i64 x_24), (.slice x_3_a3 x_3_l3 x_3_c3)] fun w12 =>
        (∃ r_02 r_12 r_22 : Int, ∃ r_3_a2 : Option Addr, ∃ r_3_l2 r_3_c2 : Nat, cellsAt w12 ⟨b1, 0, none⟩ 0 [(.int .i64 r_02), (.int .i64 r_12), (.int .i64 r_22), (.slice r_3_a2 r_3_l2 r_3_c2)] ∧
        R (.tuple #[(.agg #[.int .i64 r_02, .int .i64 r_12, .int .i64 r_22, .slice r_3_a2 r_3_l2 r_3_c2]), (.bool true)]) w12)))))))))) ∧
  (∃ x_0 x_1 x_2 : Int, ∃ x_3_a : Option Addr, ∃ x_3_l x_3_c : Nat, cellsAt w2 ⟨b, 0, none⟩ 0 [(.int .i64 x_0), (.int .i64 x_1), (.int .i64 x_2), (.slice x_3_a x_3_l x_3_c)] ∧
  (Calls Try.prog N_ref38_Check #[(.agg #[.int .i64 x_0, .int .i64 x_1, .int .i64 x_2, .slice x_3_a x_3_l x_3_c])] w2 fun e_ w3 =>
  ∃ r : Int, e_ = .returned (.int .i64 r) ∧
  (bsplit (!decide (r = (0 : Int)))
    ((∃ x_01 x_11 x_21 : Int, ∃ x_3_a1 : Option Addr, ∃ x_3_l1 x_3_c1 : Nat, cellsAt w3 ⟨b, 0, none⟩ 0 [(.int .i64 x_01), (.int .i64 x_11), (.int .i64 x_21), (.slice x_3_a1 x_3_l1 x_3_c1)] ∧
      (sxStore w3 ⟨b1, 0, none⟩ 0 [(.int .i64 x_01), (.int .i64 x_11), (.int .i64 x_21), (.slice x_3_a1 x_3_l1 x_3_c1)] fun w4 =>
      (∃ r_0 r_1 r_2 : Int, ∃ r_3_a : Option Addr, ∃ r_3_l r_3_c : Nat, cellsAt w4 ⟨b1, 0, none⟩ 0 [(.int .i64 r_0), (.int .i64 r_1), (.int .i64 r_2), (.slice r_3_a r_3_l r_3_c)] ∧
      R (.tuple #[(.agg #[.int .i64 r_0, .int .i64 r_1, .int .i64 r_2, .slice r_3_a r_3_l r_3_c]), (.bool false)]) w4))))
    ((kLdS w3 ⟨b, 3, none⟩ fun x_a x_l x_c =>
    (Calls Try.prog N_ref38_has #[(.slice x_a x_l x_c), (.int .i64 identity)] w3 fun e_1 w5 =>
    ∃ r1 : Bool, e_1 = .returned (.bool r1) ∧
    (bsplit (!r1)
      ((∃ x_02 x_12 x_22 : Int, ∃ x_3_a2 : Option Addr, ∃ x_3_l2 x_3_c2 : Nat, cellsAt w5 ⟨b, 0, none⟩ 0 [(.int .i64 x_02), (.int .i64 x_12), (.int .i64 x_22), (.slice x_3_a2 x_3_l2 x_3_c2)] ∧
      (sxStore w5 ⟨b1, 0, none⟩ 0 [(.int .i64 x_02), (.int .i64 x_12), (.int .i64 x_22), (.slice x_3_a2 x_3_l2 x_3_c2)] fun w6 =>
      (∃ r_01 r_11 r_21 : Int, ∃ r_3_a1 : Option Addr, ∃ r_3_l1 r_3_c1 : Nat, cellsAt w6 ⟨b1, 0, none⟩ 0 [(.int .i64 r_01), (.int .i64 r_11), (.int .i64 r_21), (.slice r_3_a1 r_3_l1 r_3_c1)] ∧
      R (.tuple #[(.agg #[.int .i64 r_01, .int .i64 r_11, .int .i64 r_21, .slice r_3_a1 r_3_l1 r_3_c1]), (.bool false)]) w6))))
      (J w5)))))))))))
theorem F_ref38_Stop_eq (a_0 : Int) (a_1 : Int) (a_2 : Int) (a_3_a : Option Addr) (a_3_l : Nat) (a_3_c : Nat) (identity : Int) (w : World) (R : Value → World → Prop) : sxFn Try.prog TT h_ref38_Stop Try.f18 #[(.agg #[.int .i64 a_0, .int .i64 a_1, .int .i64 a_2, .slice a_3_a a_3_l a_3_c]), (.int .i64 identity)] w R = F_ref38_Stop a_0 a_1 a_2 a_3_a a_3_l a_3_c identity w R := by kernel_rfl
theorem F_ref38_Stop_ok {R : Ending → World → Prop} (a_0 : Int) (a_1 : Int) (a_2 : Int) (a_3_a : Option Addr) (a_3_l : Nat) (a_3_c : Nat) (identity : Int) (w : World) (h : F_ref38_Stop a_0 a_1 a_2 a_3_a a_3_l a_3_c identity w fun v w' => R (.returned v) w') : Calls Try.prog N_ref38_Stop #[(.agg #[.int .i64 a_0, .int .i64 a_1, .int .i64 a_2, .slice a_3_a a_3_l a_3_c]), (.int .i64 identity)] w R :=
  calls_of (f := 18) follows_ok Try.func18 (Eq.mpr (F_ref38_Stop_eq a_0 a_1 a_2 a_3_a a_3_l a_3_c identity w _) h)

def h_ref38_Begin : H := (.seq .reg (.seq (.seq .reg (.seq .reg (.cond (.seq .reg .leaf) .leaf))) (.seq (.block (.cut [(15, .p .bool)] [15, 16, 17, 18, 19, 20, 21, 22, 23, 24, 25, 26, 27, 28, 29] .reg (.cond (.seq .reg .leaf) (.seq .reg (.cond (.seq .reg .leaf) (.seq .reg (.cond (.seq .reg .leaf) .leaf))))))) (.seq (.draw .blk (.one 0 .stable (.one 1 .stable (.one 2 .stable (.one 3 .pre (.one 4 .pre (.one 5 .pre (.one 7 .stable (.one 6 .keep (.one 8 .keep (.one 9 .keep (.one 10 .stable (.one 11 .last .nil))))))))))))) (.seq .reg .leaf)))))
def F_ref38_Begin (a_0 : Int) (a_1 : Int) (a_2 : Int) (a_3_a : Option Addr) (a_3_l : Nat) (a_3_c : Nat) (identity : Int) (tick : Int) (w : World) (R : Value → World → Prop) : Prop :=
  (kAlloc w #[(.int .i64 a_0), (.int .i64 a_1), (.int .i64 a_2), (.slice a_3_a a_3_l a_3_c)] Ty_api_Access fun b w1 =>
  (kAlloc w1 #[.int .i64 (0 : Int), .int .i64 (0 : Int), .int .i64 (0 : Int), .slice none 0 0] Ty_api_Access fun b1 w2 =>
  (∃ x_0 x_1 x_2 : Int, ∃ x_3_a : Option Addr, ∃ x_3_l x_3_c : Nat, cellsAt w2 ⟨b, 0, none⟩ 0 [(.int .i64 x_0), (.int .i64 x_1), (.int .i64 x_2), (.slice x_3_a x_3_l x_3_c)] ∧
  (Calls Try.prog N_ref38_Check #[(.agg #[.int .i64 x_0, .int .i64 x_1, .int .i64 x_2, .slice x_3_a x_3_l x_3_c])] w2 fun e_ w3 =>
  ∃ r : Int, e_ = .returned (.int .i64 r) ∧
  (bsplit (!decide (r = (0 : Int)))
    ((∃ x_01 x_11 x_21 : Int, ∃ x_3_a1 : Option Addr, ∃ x_3_l1 x_3_c1 : Nat, cellsAt w3 ⟨b, 0, none⟩ 0 [(.int .i64 x_01), (.int .i64 x_11), (.int .i64 x_21), (.slice x_3_a1 x_3_l1 x_3_c1)] ∧
    (sxStore w3 ⟨b1, 0, none⟩ 0 [(.int .i64 x_01), (.int .i64 x_11), (.int .i64 x_21), (.slice x_3_a1 x_3_l1 x_3_c1)] fun w4 =>
    (∃ r_0 r_1 r_2 : Int, ∃ r_3_a : Option Addr, ∃ r_3_l r_3_c : Nat, cellsAt w4 ⟨b1, 0, none⟩ 0 [(.int .i64 r_0), (.int .i64 r_1), (.int .i64 r_2), (.slice r_3_a r_3_l r_3_c)] ∧
    R (.tuple #[(.agg #[.int .i64 r_0, .int .i64 r_1, .int .i64 r_2, .slice r_3_a r_3_l r_3_c]), (.int .i64 r)]) w4))))
    ((∃ J : Bool → World → Prop,
    (∀ (_junk : Env) (x1 : Bool) (w5 : World), J x1 w5 →
      (bsplit x1
        ((∃ x_02 x_12 x_22 : Int, ∃ x_3_a2 : Option Addr, ∃ x_3_l2 x_3_c2 : Nat, cellsAt w5 ⟨b, 0, none⟩ 0 [(.int .i64 x_02), (.int .i64 x_12), (.int .i64 x_22), (.slice x_3_a2 x_3_l2 x_3_c2)] ∧
        (sxStore w5 ⟨b1, 0, none⟩ 0 [(.int .i64 x_02), (.int .i64 x_12), (.int .i64 x_22), (.slice x_3_a2 x_3_l2 x_3_c2)] fun w6 =>
        (∃ r_01 r_11 r_21 : Int, ∃ r_3_a1 : Option Addr, ∃ r_3_l1 r_3_c1 : Nat, cellsAt w6 ⟨b1, 0, none⟩ 0 [(.int .i64 r_01), (.int .i64 r_11), (.int .i64 r_21), (.slice r_3_a1 r_3_l1 r_3_c1)] ∧
        R (.tuple #[(.agg #[.int .i64 r_01, .int .i64 r_11, .int .i64 r_21, .slice r_3_a1 r_3_l1 r_3_c1]), (.int .i64 (3 : Int))]) w6))))
        ((kLdS w5 ⟨b, 3, none⟩ fun x_a x_l x_c =>
        (Calls Try.prog N_ref38_has #[(.slice x_a x_l x_c), (.int .i64 identity)] w5 fun e_1 w7 =>
        ∃ r1 : Bool, e_1 = .returned (.bool r1) ∧
        (bsplit r1
          ((∃ x_03 x_13 x_23 : Int, ∃ x_3_a3 : Option Addr, ∃ x_3_l3 x_3_c3 : Nat, cellsAt w7 ⟨b, 0, none⟩ 0 [(.int .i64 x_03), (.int .i64 x_13), (.int .i64 x_23), (.slice x_3_a3 x_3_l3 x_3_c3)] ∧
          (sxStore w7 ⟨b1, 0, none⟩ 0 [(.int .i64 x_03), (.int .i64 x_13), (.int .i64 x_23), (.slice x_3_a3 x_3_l3 x_3_c3)] fun w8 =>
          (∃ r_02 r_12 r_22 : Int, ∃ r_3_a2 : Option Addr, ∃ r_3_l2 r_3_c2 : Nat, cellsAt w8 ⟨b1, 0, none⟩ 0 [(.int .i64 r_02), (.int .i64 r_12), (.int .i64 r_22), (.slice r_3_a2 r_3_l2 r_3_c2)] ∧
          R (.tuple #[(.agg #[.int .i64 r_02, .int .i64 r_12, .int .i64 r_22, .slice r_3_a2 r_3_l2 r_3_c2]), (.int .i64 (12 : Int))]) w8))))
          ((kLdS w7 ⟨b, 3, none⟩ fun _ x_l1 _ =>
          (kLet (decide ((x_l1 : Int) = (16 : Int))) fun x2 =>
          (bsplit x2
            ((∃ x_04 x_14 x_24 : Int, ∃ x_3_a4 : Option Addr, ∃ x_3_l4 x_3_c4 : Nat, cellsAt w7 ⟨b, 0, none⟩ 0 [(.int .i64 x_04), (.int .i64 x_14), (.int .i64 x_24), (.slice x_3_a4 x_3_l4 x_3_c4)] ∧
            (sxStore w7 ⟨b1, 0, none⟩ 0 [(.int .i64 x_04), (.int .i64 x_14), (.int .i64 x_24), (.slice x_3_a4 x_3_l4 x_3_c4)] fun w9 =>
            (∃ r_03 r_13 r_23 : Int, ∃ r_3_a3 : Option Addr, ∃ r_3_l3 r_3_c3 : Nat, cellsAt w9 ⟨b1, 0, none⟩ 0 [(.int .i64 r_03), (.int .i64 r_13), (.int .i64 r_23), (.slice r_3_a3 r_3_l3 r_3_c3)] ∧
            R (.tuple #[(.agg #[.int .i64 r_03, .int .i64 r_13, .int .i64 r_23, .slice r_3_a3 r_3_l3 r_3_c3]), (.int .i64 (13 : Int))]) w9))))
            ((kDrew w7 fun w10 =>
            (∃ S : Nat → Prop,
            (S b ∧
            (kLdS w10 ⟨b, 3, none⟩ fun x_a2 x_l2 x_c2 =>
            (kLd w10 ⟨b, 0, none⟩ .i64 fun x3 =>
            (Calls Try.prog N_ref38_Preamble #[(.int .i64 identity), (.int .i64 (0 : Int)), (.int .i64 x3)] w10 fun e_2 w11 =>
            ∃ r2 : Int, e_2 = .returned (.int .i64 r2) ∧
            (KeepsB S w10 w11 ∧ (KeepsB S w10 w11 ∧ (Calls Try.prog N_ref38_put #[(.slice x_a2 x_l2 x_c2), (.agg #[.int .i64 identity, .int .i64 r2, .int .i64 tick, .int .i64 (0 : Int)])] w11 fun e_3 w12 =>
            ∃ r_a : Option Addr, ∃ r_l r_c : Nat, e_3 = .returned (.slice r_a r_l r_c) ∧
            (KeepsB S w10 w12 ∧ (kSet w12 ⟨b, 3, none⟩ (.slice r_a r_l r_c) fun w13 =>
            (∃ x_05 x_15 x_25 : Int, ∃ x_3_a5 : Option Addr, ∃ x_3_l5 x_3_c5 : Nat, cellsAt w13 ⟨b, 0, none⟩ 0 [(.int .i64 x_05), (.int .i64 x_15), (.int .i64 x_25), (.slice x_3_a5 x_3_l5 x_3_c5)] ∧
            (sxStore w13 ⟨b1, 0, none⟩ 0 [(.int .i64 x_05), (.int .i64 x_15), (.int .i64 x_25), (.slice x_3_a5 x_3_l5 x_3_c5)] fun w14 =>
            (∃ r_04 r_14 r_24 : Int, ∃ r_3_a4 : Option Addr, ∃ r_3_l4 r_3_c4 : Nat, cellsAt w14 ⟨b1, 0, none⟩ 0 [(.int .i64 r_04), (.int .i64 r_14), (.int .i64 r_24), (.slice r_3_a4 r_3_l4 r_3_c4)] ∧
            R (.tuple #[(.agg #[.int .i64 r_04, .int .i64 r_14, .int .i64 r_24, .slice r_3_a4 r_3_l4 r_3_c4]), (.int .i64 (0 : Int))]) w14))))))))))))))))))))))))) ∧
    (bsplit (decide (identity < (0 : Int)))
      (J true w3)
      ((bsplit (decide (identity ≥ (65536 : Int)))
        (J true w3)
        ((bsplit (decide (tick < (0 : Int)))
          (J true w3)
          ((kLet (decide (tick > (1048576 : Int))) fun x =>
          J x w3))))))))))))))
theorem F_ref38_Begin_eq (a_0 : Int) (a_1 : Int) (a_2 : Int) (a_3_a : Option Addr) (a_3_l : Nat) (a_3_c : Nat) (identity : Int) (tick : Int) (w : World) (R : Value → World → Prop) : sxFn Try.prog TT h_ref38_Begin Try.f19 #[(.agg #[.int .i64 a_0, .int .i64 a_1, .int .i64 a_2, .slice a_3_a a_3_l a_3_c]), (.int .i64 identity), (.int .i64 tick)] w R = F_ref38_Begin a_0 a_1 a_2 a_3_a a_3_l a_3_c identity tick w R := by kernel_rfl
theorem F_ref38_Begin_ok {R : Ending → World → Prop} (a_0 : Int) (a_1 : Int) (a_2 : Int) (a_3_a : Option Addr) (a_3_l : Nat) (a_3_c : Nat) (identity : Int) (tick : Int) (w : World) (h : F_ref38_Begin a_0 a_1 a_2 a_3_a a_3_l a_3_c identity tick w fun v w' => R (.returned v) w') : Calls Try.prog N_ref38_Begin #[(.agg #[.int .i64 a_0, .int .i64 a_1, .int .i64 a_2, .slice a_3_a a_3_l a_3_c]), (.int .i64 identity), (.int .i64 tick)] w R :=
  calls_of (f := 19) follows_ok Try.func19 (Eq.mpr (F_ref38_Begin_eq a_0 a_1 a_2 a_3_a a_3_l a_3_c identity tick w _) h)

def h_ref38_Tick : H := (.seq .reg (.seq (.seq .reg (.seq .reg (.cond (.seq .reg .leaf) .leaf))) (.cut [] [5, 6, 7, 24, 25, 26, 27, 28, 29, 30] (.seq .reg (.cond (.seq .reg .leaf) .leaf)) (.seq .reg (.cut [(9, .p (.int .i64))] [9, 31, 32, 33, 34, 35, 36, 37, 38, 39, 40, 41, 42, 43, 44, 45, 46, 47] (.block (.loop [(9, .p (.int .i64))] [9, 31, 32, 33, 34, 35, 36, 37, 38, 39, 40, 41, 42, 43, 44, 45, 46, 47] (.seq (.seq .reg (.cond .leaf .leaf)) (.block .reg)))) (.seq .reg (.seq .reg (.seq .reg (.seq (.seq .reg (.block (.loop [(11, .p .slice), (12, .p .slice), (13, .p .slice), (14, .p (.int .i64))] [11, 12, 13, 14, 15, 16, 17, 58, 59, 60, 61, 62, 63, 64, 65, 66, 67, 68, 69, 70, 71, 72, 73, 74, 75, 76, 77, 78, 79, 80, 81, 82, 83, 84, 85, 86, 87, 88, 89, 90, 91, 92, 93, 94, 95, 96, 97, 98, 99, 100, 101, 102, 103, 104, 105, 106, 107, 108, 109, 110, 111, 112, 113, 114, 115, 116, 117, 118, 119, 120, 121, 122, 123, 124, 125, 126, 127, 128, 129, 130, 131, 132, 133] (.seq (.seq .reg (.cond .leaf .leaf)) (.seq (.block (.seq .reg (.seq .reg (.seq (.seq .reg (.block (.loop [(16, .p .bool), (17, .p (.int .i64))] [16, 17, 67, 68, 69, 70, 71, 72, 73, 74, 75, 76, 77, 78, 79, 80, 81, 82, 83, 84, 85, 86, 87] (.seq (.seq .reg (.cond .leaf .leaf)) (.seq (.block (.draw .no (.one 0 .stable (.one 1 .stable (.one 2 .stable (.one 3 .stable (.one 4 .stable (.one 5 .stable (.one 6 .stable (.one 7 .stable (.one 8 .stable (.one 9 .stable (.one 10 .stable (.one 11 .stable (.one 12 .stable (.one 13 .stable (.one 14 .stable (.one 15 .stable (.one 16 .stable .nil))))))))))))))))))) .reg))))) (.seq (.seq .reg (.cond (.seq .reg .leaf) .leaf)) (.seq .reg (.seq (.seq .reg (.cond (.seq .reg .leaf) .leaf)) (.seq .reg (.seq .reg .reg))))))))) .reg))))) (.seq .reg (.seq .reg .leaf)))))))))))
def F_ref38_Tick (a_0 : Int) (a_1 : Int) (a_2 : Int) (a_3_a : Option Addr) (a_3_l : Nat) (a_3_c : Nat) (tick : Int) (w : World) (R : Value → World → Prop) : Prop :=
  (kAlloc w #[(.int .i64 a_0), (.int .i64 a_1), (.int .i64 a_2), (.slice a_3_a a_3_l a_3_c)] Ty_api_Access fun b w1 =>
  (kAlloc w1 #[.int .i64 (0 : Int), .int .i64 (0 : Int), .int .i64 (0 : Int), .slice none 0 0] Ty_api_Access fun b1 w2 =>
  (∃ x_0 x_1 x_2 : Int, ∃ x_3_a : Option Addr, ∃ x_3_l x_3_c : Nat, cellsAt w2 ⟨b, 0, none⟩ 0 [(.int .i64 x_0), (.int .i64 x_1), (.int .i64 x_2), (.slice x_3_a x_3_l x_3_c)] ∧
  (Calls Try.prog N_ref38_Check #[(.agg #[.int .i64 x_0, .int .i64 x_1, .int .i64 x_2, .slice x_3_a x_3_l x_3_c])] w2 fun e_ w3 =>
  ∃ r : Int, e_ = .returned (.int .i64 r) ∧
  (bsplit (!decide (r = (0 : Int)))
    ((∃ x_01 x_11 x_21 : Int, ∃ x_3_a1 : Option Addr, ∃ x_3_l1 x_3_c1 : Nat, cellsAt w3 ⟨b, 0, none⟩ 0 [(.int .i64 x_01), (.int .i64 x_11), (.int .i64 x_21), (.slice x_3_a1 x_3_l1 x_3_c1)] ∧
    (sxStore w3 ⟨b1, 0, none⟩ 0 [(.int .i64 x_01), (.int .i64 x_11), (.int .i64 x_21), (.slice x_3_a1 x_3_l1 x_3_c1)] fun w4 =>
    (∃ r_0 r_1 r_2 : Int, ∃ r_3_a : Option Addr, ∃ r_3_l r_3_c : Nat, cellsAt w4 ⟨b1, 0, none⟩ 0 [(.int .i64 r_0), (.int .i64 r_1), (.int .i64 r_2), (.slice r_3_a r_3_l r_3_c)] ∧
    R (.tuple #[(.agg #[.int .i64 r_0, .int .i64 r_1, .int .i64 r_2, .slice r_3_a r_3_l r_3_c]), (.slice none 0 0), (.slice none 0 0), (.int .i64 r)]) w4))))
    ((∃ J : World → Prop,
    (∀ (_junk : Env)  (w7 : World), J w7 →
      (∃ J1 : Int → World → Prop,
      (∀ (_junk : Env) (n1 : Int) (w9 : World), J1 n1 w9 →
        (kLdS w9 ⟨b, 3, none⟩ fun x_a2 _ x_c2 =>
        ((0 ≤ n1 ∧ n1 ≤ ((x_c2 : Nat) : Int)) ∧ (kAlloc w9 #[] Ty_api_Attempt fun b3 w10 =>
        (kLdS w10 ⟨b, 3, none⟩ fun x_a3 x_l3 x_c3 =>
        ((0 ≤ n1 ∧ n1 ≤ ((x_l3 : Nat) : Int)) ∧ (AppP Try.prog #[Ty_S_api_Attempt, Ty_S_api_Attempt] Ty_S_api_Attempt #[(.slice (some ⟨b3, 0, none⟩) 0 0), (.slice (slAddr x_c3 (n1.toNat) 4 x_a3) (x_l3 - n1.toNat) (x_c3 - n1.toNat))] w10 fun x_a4 x_l4 x_c4 w11 =>
        (∃ I1 : Option Addr → Nat → Nat → Option Addr → Nat → Nat → Option Addr → Nat → Nat → Int → Nat × (World → Prop), (I1 x_a4 x_l4 x_c4 none 0 0 none 0 0 (0 : Int)).2 w11 ∧
        (∀ (_junk : Env) (rest_a : Option Addr) (rest_l : Nat) (rest_c : Nat) (good_a : Option Addr) (good_l : Nat) (good_c : Nat) (lost_a : Option Addr) (lost_l : Nat) (lost_c : Nat) (i : Int) (w12 : World), (I1 rest_a rest_l rest_c good_a good_l good_c lost_a lost_l lost_c i).2 w12 →
          (bsplit (decide (i < n1))
            ((kIx (slAddr x_c2 0 4 x_a2) (n1.toNat - 0) i fun b4 =>
            (∃ x_04 x_14 x_24 x_3 : Int, cellsAt w12 (b4.add (i.toNat * 4)) 0 [(.int .i64 x_04), (.int .i64 x_14), (.int .i64 x_24), (.int .i64 x_3)] ∧
            (kAlloc w12 #[.int .i64 (0 : Int), .int .i64 (0 : Int), .int .i64 (0 : Int), .int .i64 (0 : Int)] Ty_api_Attempt fun b5 w13 =>
            (sxStore w13 ⟨b5, 0, none⟩ 0 [(.int .i64 x_04), (.int .i64 x_14), (.int .i64 x_24), (.int .i64 x_3)] fun w14 =>
            (∃ I2 : Bool → Int → Nat × (World → Prop), (I2 true (0 : Int)).2 w14 ∧
            (∀ (_junk : Env) (alone : Bool) (k : Int) (w15 : World), (I2 alone k).2 w15 →
              (bsplit (decide (k < n1))
                ((kDrew w15 fun w16 =>
                (bsplit alone
                  ((bsplit (decide (k = i))
                    ((kW .i64 (k + (1 : Int)) fun x3 =>
                    ((I2 true x3).2 w16 ∧ (I2 true x3).1 < (I2 alone k).1)))
                    ((kIx (slAddr x_c2 0 4 x_a2) (n1.toNat - 0) k fun b6 =>
                    (kLd w16 ((b6.add (k.toNat * 4)).add 1) .i64 fun x4 =>
                    (kLd w16 ⟨b5, 1, none⟩ .i64 fun x5 =>
                    (kLet (!decide (x4 = x5)) fun alone1 =>
                    (kW .i64 (k + (1 : Int)) fun x6 =>
                    ((I2 alone1 x6).2 w16 ∧ (I2 alone1 x6).1 < (I2 alone k).1)))))))))
                  ((kW .i64 (k + (1 : Int)) fun x7 =>
                  ((I2 false x7).2 w16 ∧ (I2 false x7).1 < (I2 alone k).1))))))
                ((bsplit alone
                  ((kLd w15 ⟨b5, 0, none⟩ .i64 fun x8 =>
                  (kAlloc w15 #[(.int .i64 x8)] Ty_int fun b7 w17 =>
                  (AppP Try.prog #[Ty_S_int, Ty_S_int] Ty_S_int #[(.slice good_a good_l good_c), (.slice (some ⟨b7, 0, none⟩) 1 1)] w17 fun x_a5 x_l5 x_c5 w18 =>
                  (kW .i64 (i + (1 : Int)) fun x9 =>
                  ((I1 rest_a rest_l rest_c x_a5 x_l5 x_c5 lost_a lost_l lost_c x9).2 w18 ∧ (I1 rest_a rest_l rest_c x_a5 x_l5 x_c5 lost_a lost_l lost_c x9).1 < (I1 rest_a rest_l rest_c good_a good_l good_c lost_a lost_l lost_c i).1))))))
                  ((kLd w15 ⟨b5, 3, none⟩ .i64 fun x10 =>
                  (kW .i64 (x10 + (1 : Int)) fun x11 =>
                  (kSet w15 ⟨b5, 3, none⟩ (.int .i64 x11) fun w19 =>
                  (kLd w19 ⟨b5, 3, none⟩ .i64 fun x12 =>
                  (kLd w19 ⟨b, 1, none⟩ .i64 fun x13 =>
                  (bsplit (decide (x12 = x13))
                    ((kLd w19 ⟨b5, 0, none⟩ .i64 fun x14 =>
                    (kAlloc w19 #[(.int .i64 x14)] Ty_int fun b8 w20 =>
                    (AppP Try.prog #[Ty_S_int, Ty_S_int] Ty_S_int #[(.slice lost_a lost_l lost_c), (.slice (some ⟨b8, 0, none⟩) 1 1)] w20 fun x_a6 x_l6 x_c6 w21 =>
                    (kW .i64 (i + (1 : Int)) fun x15 =>
                    ((I1 rest_a rest_l rest_c good_a good_l good_c x_a6 x_l6 x_c6 x15).2 w21 ∧ (I1 rest_a rest_l rest_c good_a good_l good_c x_a6 x_l6 x_c6 x15).1 < (I1 rest_a rest_l rest_c good_a good_l good_c lost_a lost_l lost_c i).1))))))
                    ((kLd w19 ⟨b5, 0, none⟩ .i64 fun x16 =>
                    (kLd w19 ⟨b5, 3, none⟩ .i64 fun x17 =>
                    (kLd w19 ⟨b, 0, none⟩ .i64 fun x18 =>
                    (Calls Try.prog N_ref38_Preamble #[(.int .i64 x16), (.int .i64 x17), (.int .i64 x18)] w19 fun e_1 w22 =>
                    ∃ r1 : Int, e_1 = .returned (.int .i64 r1) ∧
                    (kSet w22 ⟨b5, 1, none⟩ (.int .i64 r1) fun w23 =>
                    (kW .i64 (tick + (1 : Int)) fun x19 =>
                    (kLd w23 ⟨b5, 0, none⟩ .i64 fun x20 =>
                    (kW .i64 ((17 : Int) * x20) fun x21 =>
                    (kLd w23 ⟨b5, 3, none⟩ .i64 fun x22 =>
                    (kW .i64 ((5 : Int) * x22) fun x23 =>
                    (kW .i64 (x21 + x23) fun x24 =>
                    (kLd w23 ⟨b, 2, none⟩ .i64 fun x25 =>
                    (kW .i64 (x25 + (1 : Int)) fun x26 =>
                    (x26 ≠ 0 ∧ (kLet (Int.tmod x24 x26) fun x27 =>
                    (kW .i64 (x19 + x27) fun x28 =>
                    (kSet w23 ⟨b5, 2, none⟩ (.int .i64 x28) fun w24 =>
                    (∃ x_05 x_15 x_25 x_31 : Int, cellsAt w24 ⟨b5, 0, none⟩ 0 [(.int .i64 x_05), (.int .i64 x_15), (.int .i64 x_25), (.int .i64 x_31)] ∧
                    (Calls Try.prog N_ref38_put #[(.slice rest_a rest_l rest_c), (.agg #[.int .i64 x_05, .int .i64 x_15, .int .i64 x_25, .int .i64 x_31])] w24 fun e_2 w25 =>
                    ∃ r_a : Option Addr, ∃ r_l r_c : Nat, e_2 = .returned (.slice r_a r_l r_c) ∧
                    (kW .i64 (i + (1 : Int)) fun x29 =>
                    ((I1 r_a r_l r_c good_a good_l good_c lost_a lost_l lost_c x29).2 w25 ∧ (I1 r_a r_l r_c good_a good_l good_c lost_a lost_l lost_c x29).1 < (I1 rest_a rest_l rest_c good_a good_l good_c lost_a lost_l lost_c i).1)))))))))))))))))))))))))))))))))))))))
            ((kSet w12 ⟨b, 3, none⟩ (.slice rest_a rest_l rest_c) fun w26 =>
            (∃ x_06 x_16 x_26 : Int, ∃ x_3_a4 : Option Addr, ∃ x_3_l4 x_3_c4 : Nat, cellsAt w26 ⟨b, 0, none⟩ 0 [(.int .i64 x_06), (.int .i64 x_16), (.int .i64 x_26), (.slice x_3_a4 x_3_l4 x_3_c4)] ∧
            (sxStore w26 ⟨b1, 0, none⟩ 0 [(.int .i64 x_06), (.int .i64 x_16), (.int .i64 x_26), (.slice x_3_a4 x_3_l4 x_3_c4)] fun w27 =>
            (∃ r_03 r_13 r_23 : Int, ∃ r_3_a3 : Option Addr, ∃ r_3_l3 r_3_c3 : Nat, cellsAt w27 ⟨b1, 0, none⟩ 0 [(.int .i64 r_03), (.int .i64 r_13), (.int .i64 r_23), (.slice r_3_a3 r_3_l3 r_3_c3)] ∧
            R (.tuple #[(.agg #[.int .i64 r_03, .int .i64 r_13, .int .i64 r_23, .slice r_3_a3 r_3_l3 r_3_c3]), (.slice good_a good_l good_c), (.slice lost_a lost_l lost_c), (.int .i64 (0 : Int))]) w27))))))))))))))) ∧
      (∃ I : Int → Nat × (World → Prop), (I (0 : Int)).2 w7 ∧
      (∀ (_junk : Env) (n : Int) (w8 : World), (I n).2 w8 →
        (kLdS w8 ⟨b, 3, none⟩ fun _ x_l _ =>
        (bsplit (decide (n < (x_l : Int)))
          ((kLdS w8 ⟨b, 3, none⟩ fun x_a1 x_l1 _ =>
          (kIx x_a1 x_l1 n fun b2 =>
          (kLd w8 ((b2.add (n.toNat * 4)).add 2) .i64 fun x =>
          (bsplit (decide (x ≤ tick))
            ((kW .i64 (n + (1 : Int)) fun x1 =>
            ((I x1).2 w8 ∧ (I x1).1 < (I n).1)))
            (J1 n w8))))))
          (J1 n w8))))))) ∧
    (bsplit (decide (tick < (0 : Int)))
      ((∃ x_02 x_12 x_22 : Int, ∃ x_3_a2 : Option Addr, ∃ x_3_l2 x_3_c2 : Nat, cellsAt w3 ⟨b, 0, none⟩ 0 [(.int .i64 x_02), (.int .i64 x_12), (.int .i64 x_22), (.slice x_3_a2 x_3_l2 x_3_c2)] ∧
        (sxStore w3 ⟨b1, 0, none⟩ 0 [(.int .i64 x_02), (.int .i64 x_12), (.int .i64 x_22), (.slice x_3_a2 x_3_l2 x_3_c2)] fun w5 =>
        (∃ r_01 r_11 r_21 : Int, ∃ r_3_a1 : Option Addr, ∃ r_3_l1 r_3_c1 : Nat, cellsAt w5 ⟨b1, 0, none⟩ 0 [(.int .i64 r_01), (.int .i64 r_11), (.int .i64 r_21), (.slice r_3_a1 r_3_l1 r_3_c1)] ∧
        R (.tuple #[(.agg #[.int .i64 r_01, .int .i64 r_11, .int .i64 r_21, .slice r_3_a1 r_3_l1 r_3_c1]), (.slice none 0 0), (.slice none 0 0), (.int .i64 (3 : Int))]) w5))))
      ((bsplit (decide (tick > (1048576 : Int)))
        ((∃ x_03 x_13 x_23 : Int, ∃ x_3_a3 : Option Addr, ∃ x_3_l3 x_3_c3 : Nat, cellsAt w3 ⟨b, 0, none⟩ 0 [(.int .i64 x_03), (.int .i64 x_13), (.int .i64 x_23), (.slice x_3_a3 x_3_l3 x_3_c3)] ∧
        (sxStore w3 ⟨b1, 0, none⟩ 0 [(.int .i64 x_03), (.int .i64 x_13), (.int .i64 x_23), (.slice x_3_a3 x_3_l3 x_3_c3)] fun w6 =>
        (∃ r_02 r_12 r_22 : Int, ∃ r_3_a2 : Option Addr, ∃ r_3_l2 r_3_c2 : Nat, cellsAt w6 ⟨b1, 0, none⟩ 0 [(.int .i64 r_02), (.int .i64 r_12), (.int .i64 r_22), (.slice r_3_a2 r_3_l2 r_3_c2)] ∧
        R (.tuple #[(.agg #[.int .i64 r_02, .int .i64 r_12, .int .i64 r_22, .slice r_3_a2 r_3_l2 r_3_c2]), (.slice none 0 0), (.slice none 0 0), (.int .i64 (3 : Int))]) w6))))
        (J w3)))))))))))
theorem F_ref38_Tick_eq (a_0 : Int) (a_1 : Int) (a_2 : Int) (a_3_a : Option Addr) (a_3_l : Nat) (a_3_c : Nat) (tick : Int) (w : World) (R : Value → World → Prop) : sxFn Try.prog TT h_ref38_Tick Try.f20 #[(.agg #[.int .i64 a_0, .int .i64 a_1, .int .i64 a_2, .slice a_3_a a_3_l a_3_c]), (.int .i64 tick)] w R = F_ref38_Tick a_0 a_1 a_2 a_3_a a_3_l a_3_c tick w R := by kernel_rfl
theorem F_ref38_Tick_ok {R : Ending → World → Prop} (a_0 : Int) (a_1 : Int) (a_2 : Int) (a_3_a : Option Addr) (a_3_l : Nat) (a_3_c : Nat) (tick : Int) (w : World) (h : F_ref38_Tick a_0 a_1 a_2 a_3_a a_3_l a_3_c tick w fun v w' => R (.returned v) w') : Calls Try.prog N_ref38_Tick #[(.agg #[.int .i64 a_0, .int .i64 a_1, .int .i64 a_2, .slice a_3_a a_3_l a_3_c]), (.int .i64 tick)] w R :=
  calls_of (f := 20) follows_ok Try.func20 (Eq.mpr (F_ref38_Tick_eq a_0 a_1 a_2 a_3_a a_3_l a_3_c tick w _) h)

def h_access_Check : H := (.seq .reg (.seq (.block (.cut [(5, .p .bool)] [5, 6, 7, 8, 9, 10, 11, 12, 13, 14, 15, 16, 17, 18, 19, 20, 21, 22, 23, 24, 25, 26, 27, 28, 29, 30, 31, 32, 33] .reg (.cond (.seq .reg .leaf) (.seq .reg (.cond (.seq .reg .leaf) .leaf))))) (.seq (.seq .reg (.block (.loop [(42, .p (.int .i64))] [2, 3, 4, 42, 43, 44, 45, 46, 47, 48, 49, 50, 51, 52, 53, 54, 55, 56, 57, 58, 59, 60, 61, 62, 63, 64, 65, 66, 67, 68, 69, 70, 71, 72, 73, 74, 75, 76, 77, 78, 79, 80, 81, 82, 83, 84, 85, 86, 87, 88, 89, 90, 91, 92, 93, 94, 95, 96, 97, 98, 99, 100, 101, 102, 103, 104, 105, 106, 107, 108] (.seq .reg (.seq (.cond .leaf .leaf) (.seq (.block (.seq .reg (.seq (.cut [(84, .p .bool)] [47, 48, 49, 50, 51, 52, 53, 54, 55, 56, 57, 58, 59, 60, 61, 62, 63, 64, 65, 66, 67, 68, 69, 70, 71, 72, 73, 74, 75, 76, 77, 78, 79, 80, 81, 82, 83, 84] (.draw .blk (.one 0 .pre (.one 1 .pre (.one 2 .keep (.one 3 .stable (.one 4 .stable (.one 5 .stable (.one 6 .stable (.one 7 .stable (.one 8 .stable (.one 9 .stable (.one 10 .stable (.one 11 .stable (.one 12 .stable (.one 13 .stable (.one 14 .stable (.one 15 .stable (.one 16 .stable (.one 17 .stable (.one 18 .stable (.one 19 .stable (.one 20 .stable (.one 21 .stable (.one 22 .stable (.one 23 .stable (.one 24 .stable (.one 25 .keep (.one 26 .stable (.one 27 .stable (.one 28 .stable (.one 29 .stable (.one 30 .stable (.one 31 .stable (.one 32 .stable (.one 33 .stable (.one 34 .stable (.one 35 .stable (.one 36 .stable (.one 37 .stable .nil))))))))))))))))))))))))))))))))))))))) (.cond (.seq .reg .leaf) .leaf)) (.seq (.draw .blk (.one 0 .pre (.one 1 .pre (.one 2 .pre (.one 3 .pre (.one 4 .pre (.one 5 .pre (.one 6 .keep (.one 7 .stable (.one 8 .stable (.one 9 .stable (.one 10 .stable (.one 11 .stable (.one 12 .stable (.one 13 .stable (.one 14 .stable (.one 15 .stable (.one 16 .stable (.one 17 .stable (.one 18 .stable (.one 19 .keep (.one 20 .stable (.one 21 .stable (.one 22 .stable .nil)))))))))))))))))))))))) (.cond (.seq .reg .leaf) .leaf))))) .reg)))))) (.seq .reg .leaf))))
def F_access_Check (a_0 : Int) (a_1 : Int) (a_2 : Int) (a_3_a : Option Addr) (a_3_l : Nat) (a_3_c : Nat) (w : World) (R : Value → World → Prop) : Prop :=
  (kAlloc w #[(.int .i64 a_0), (.int .i64 a_1), (.int .i64 a_2), (.slice a_3_a a_3_l a_3_c)] Ty_api_Access fun b w1 =>
  (∃ J : Bool → World → Prop,
  (∀ (_junk : Env) (x7 : Bool) (w2 : World), J x7 w2 →
    (bsplit x7
      (R (.int .i64 (3 : Int)) w2)
      ((kLdS w2 ⟨b, 3, none⟩ fun _ x_l _ =>
      (kLet (decide ((x_l : Int) > (16 : Int))) fun x8 =>
      (bsplit x8
        (R (.int .i64 (2 : Int)) w2)
        ((kLdS w2 ⟨b, 3, none⟩ fun x_a1 x_l1 _ =>
        (∃ I : Int → Nat × (World → Prop), (I (0 : Int)).2 w2 ∧
        (∀ (_junk : Env) (x9 : Int) (w3 : World), (I x9).2 w3 →
          (bsplit (decide (x9 < (x_l1 : Int)))
            ((kIx x_a1 x_l1 x9 fun b1 =>
            (∃ x_0 x_1 x_2 x_3 : Int, cellsAt w3 (b1.add (x9.toNat * 4)) 0 [(.int .i64 x_0), (.int .i64 x_1), (.int .i64 x_2), (.int .i64 x_3)] ∧
            (kAlloc w3 #[.int .i64 (0 : Int), .int .i64 (0 : Int), .int .i64 (0 : Int), .int .i64 (0 : Int)] Ty_api_Attempt fun b2 w4 =>
            (sxStore w4 ⟨b2, 0, none⟩ 0 [(.int .i64 x_0), (.int .i64 x_1), (.int .i64 x_2), (.int .i64 x_3)] fun w5 =>
            (∃ J1 : Bool → World → Prop,
            (∀ (_junk : Env) (x20 : Bool) (w9 : World), J1 x20 w9 →
              (bsplit x20
                (R (.int .i64 (1 : Int)) w9)
                ((kDrew w9 fun w10 =>
                (∃ S1 : Nat → Prop,
                (kLdS w10 ⟨b, 3, none⟩ fun x_a2 _ x_c2 =>
                ((0 ≤ x9 ∧ x9 ≤ ((x_c2 : Nat) : Int)) ∧ (kLd w10 ⟨b2, 0, none⟩ .i64 fun x21 =>
                (Calls Try.prog N_access_find #[(.slice (slAddr x_c2 0 4 x_a2) (x9.toNat - 0) (x_c2 - 0)), (.int .i64 x21)] w10 fun e_2 w11 =>
                ∃ r2 : Int, e_2 = .returned (.int .i64 r2) ∧
                (KeepsB S1 w10 w11 ∧ (bsplit (decide (r2 ≥ (0 : Int)))
                  (R (.int .i64 (1 : Int)) w11)
                  ((bsplit (decide (x9 > (0 : Int)))
                    ((S1 b ∧
                    (kLdS w10 ⟨b, 3, none⟩ fun x_a3 x_l3 _ =>
                    (kW .i64 (x9 - (1 : Int)) fun x23 =>
                    (kIx x_a3 x_l3 x23 fun b3 =>
                    (S1 (b3.add (x23.toNat * 4)).block ∧
                    (∃ x_01 x_11 x_21 x_31 : Int, cellsAt w10 (b3.add (x23.toNat * 4)) 0 [(.int .i64 x_01), (.int .i64 x_11), (.int .i64 x_21), (.int .i64 x_31)] ∧
                    (S1 b2 ∧
                    (∃ x_02 x_12 x_22 x_32 : Int, cellsAt w10 ⟨b2, 0, none⟩ 0 [(.int .i64 x_02), (.int .i64 x_12), (.int .i64 x_22), (.int .i64 x_32)] ∧
                    (Calls Try.prog N_access_order #[(.agg #[.int .i64 x_01, .int .i64 x_11, .int .i64 x_21, .int .i64 x_31]), (.agg #[.int .i64 x_02, .int .i64 x_12, .int .i64 x_22, .int .i64 x_32])] w11 fun e_3 w12 =>
                    ∃ r3 : Int, e_3 = .returned (.int .i64 r3) ∧
                    (KeepsB S1 w10 w12 ∧ (bsplit (decide (r3 ≥ (0 : Int)))
                      (R (.int .i64 (1 : Int)) w12)
                      ((kW .i64 (x9 + (1 : Int)) fun x24 =>
                      ((I x24).2 w12 ∧ (I x24).1 < (I x9).1)))))))))))))))
                    ((kW .i64 (x9 + (1 : Int)) fun x25 =>
                      ((I x25).2 w11 ∧ (I x25).1 < (I x9).1)))))))))))))))) ∧
            (kDrew w5 fun w6 =>
            (∃ S : Nat → Prop,
            (kLd w6 ⟨b2, 0, none⟩ .i64 fun x10 =>
            (Calls Try.prog N_access_known #[(.int .i64 x10)] w6 fun e_ w7 =>
            ∃ r : Bool, e_ = .returned (.bool r) ∧
            (KeepsB S w6 w7 ∧ (bsplit (!r)
              (J1 true w7)
              ((S b2 ∧
              (kLd w6 ⟨b2, 3, none⟩ .i64 fun x11 =>
              (bsplit (decide (x11 < (0 : Int)))
                (J1 true w7)
                ((S b2 ∧
                (kLd w6 ⟨b2, 3, none⟩ .i64 fun x12 =>
                (S b ∧
                (kLd w6 ⟨b, 1, none⟩ .i64 fun x13 =>
                (bsplit (decide (x12 ≥ x13))
                  (J1 true w7)
                  ((S b2 ∧
                  (kLd w6 ⟨b2, 1, none⟩ .i64 fun x14 =>
                  (S b2 ∧
                  (kLd w6 ⟨b2, 0, none⟩ .i64 fun x15 =>
                  (S b2 ∧
                  (kLd w6 ⟨b2, 3, none⟩ .i64 fun x16 =>
                  (S b ∧
                  (kLd w6 ⟨b, 0, none⟩ .i64 fun x17 =>
                  (Calls Try.prog N_access_Preamble #[(.int .i64 x15), (.int .i64 x16), (.int .i64 x17)] w7 fun e_1 w8 =>
                  ∃ r1 : Int, e_1 = .returned (.int .i64 r1) ∧
                  (KeepsB S w6 w8 ∧ (bsplit (!decide (x14 = r1))
                    (J1 true w8)
                    ((S b2 ∧
                    (kLd w6 ⟨b2, 2, none⟩ .i64 fun x18 =>
                    (bsplit (decide (x18 < (0 : Int)))
                      (J1 true w8)
                      ((S b2 ∧
                      (kLd w6 ⟨b2, 2, none⟩ .i64 fun x19 =>
                      J1 (decide (x19 > (2097152 : Int))) w8)))))))))))))))))))))))))))))))))))))))))
            (R (.int .i64 (0 : Int)) w3)))))))))))) ∧
  (kLd w1 ⟨b, 0, none⟩ .i64 fun x =>
  (bsplit (decide (x < (1 : Int)))
    (J true w1)
    ((kLd w1 ⟨b, 0, none⟩ .i64 fun x1 =>
    (bsplit (decide (x1 > (64 : Int)))
      (J true w1)
      ((kLd w1 ⟨b, 1, none⟩ .i64 fun x2 =>
      (bsplit (decide (x2 < (1 : Int)))
        (J true w1)
        ((kLd w1 ⟨b, 1, none⟩ .i64 fun x3 =>
        (bsplit (decide (x3 > (32 : Int)))
          (J true w1)
          ((kLd w1 ⟨b, 2, none⟩ .i64 fun x4 =>
          (bsplit (decide (x4 < (0 : Int)))
            (J true w1)
            ((kLd w1 ⟨b, 2, none⟩ .i64 fun x5 =>
            (kLet (decide (x5 > (1000 : Int))) fun x6 =>
            J x6 w1)))))))))))))))))))
theorem F_access_Check_eq (a_0 : Int) (a_1 : Int) (a_2 : Int) (a_3_a : Option Addr) (a_3_l : Nat) (a_3_c : Nat) (w : World) (R : Value → World → Prop) : sxFn Try.prog TT h_access_Check Try.f21 #[(.agg #[.int .i64 a_0, .int .i64 a_1, .int .i64 a_2, .slice a_3_a a_3_l a_3_c])] w R = F_access_Check a_0 a_1 a_2 a_3_a a_3_l a_3_c w R := by kernel_rfl
theorem F_access_Check_ok {R : Ending → World → Prop} (a_0 : Int) (a_1 : Int) (a_2 : Int) (a_3_a : Option Addr) (a_3_l : Nat) (a_3_c : Nat) (w : World) (h : F_access_Check a_0 a_1 a_2 a_3_a a_3_l a_3_c w fun v w' => R (.returned v) w') : Calls Try.prog N_access_Check #[(.agg #[.int .i64 a_0, .int .i64 a_1, .int .i64 a_2, .slice a_3_a a_3_l a_3_c])] w R :=
  calls_of (f := 21) follows_ok Try.func21 (Eq.mpr (F_access_Check_eq a_0 a_1 a_2 a_3_a a_3_l a_3_c w _) h)

def h_access_clone : H := (.seq .reg (.seq .reg (.seq .reg .leaf)))
def F_access_clone (a_0 : Int) (a_1 : Int) (a_2 : Int) (a_3_a : Option Addr) (a_3_l : Nat) (a_3_c : Nat) (w : World) (R : Value → World → Prop) : Prop :=
  (kAlloc w #[(.int .i64 a_0), (.int .i64 a_1), (.int .i64 a_2), (.slice a_3_a a_3_l a_3_c)] Ty_api_Access fun b w1 =>
  (kAlloc w1 #[.int .i64 (0 : Int), .int .i64 (0 : Int), .int .i64 (0 : Int), .slice none 0 0] Ty_api_Access fun b1 w2 =>
  (kLdS w2 ⟨b, 3, none⟩ fun x_a x_l x_c =>
  (Calls Try.prog N_slices_Clone_Sapi_Attempt_api_Attempt #[(.slice x_a x_l x_c)] w2 fun e_ w3 =>
  ∃ r_a : Option Addr, ∃ r_l r_c : Nat, e_ = .returned (.slice r_a r_l r_c) ∧
  (kSet w3 ⟨b, 3, none⟩ (.slice r_a r_l r_c) fun w4 =>
  (∃ x_0 x_1 x_2 : Int, ∃ x_3_a : Option Addr, ∃ x_3_l x_3_c : Nat, cellsAt w4 ⟨b, 0, none⟩ 0 [(.int .i64 x_0), (.int .i64 x_1), (.int .i64 x_2), (.slice x_3_a x_3_l x_3_c)] ∧
  (sxStore w4 ⟨b1, 0, none⟩ 0 [(.int .i64 x_0), (.int .i64 x_1), (.int .i64 x_2), (.slice x_3_a x_3_l x_3_c)] fun w5 =>
  (∃ r_0 r_1 r_2 : Int, ∃ r_3_a : Option Addr, ∃ r_3_l r_3_c : Nat, cellsAt w5 ⟨b1, 0, none⟩ 0 [(.int .i64 r_0), (.int .i64 r_1), (.int .i64 r_2), (.slice r_3_a r_3_l r_3_c)] ∧
  R (.agg #[.int .i64 r_0, .int .i64 r_1, .int .i64 r_2, .slice r_3_a r_3_l r_3_c]) w5))))))))
theorem F_access_clone_eq (a_0 : Int) (a_1 : Int) (a_2 : Int) (a_3_a : Option Addr) (a_3_l : Nat) (a_3_c : Nat) (w : World) (R : Value → World → Prop) : sxFn Try.prog TT h_access_clone Try.f22 #[(.agg #[.int .i64 a_0, .int .i64 a_1, .int .i64 a_2, .slice a_3_a a_3_l a_3_c])] w R = F_access_clone a_0 a_1 a_2 a_3_a a_3_l a_3_c w R := by kernel_rfl
theorem F_access_clone_ok {R : Ending → World → Prop} (a_0 : Int) (a_1 : Int) (a_2 : Int) (a_3_a : Option Addr) (a_3_l : Nat) (a_3_c : Nat) (w : World) (h : F_access_clone a_0 a_1 a_2 a_3_a a_3_l a_3_c w fun v w' => R (.returned v) w') : Calls Try.prog N_access_clone #[(.agg #[.int .i64 a_0, .int .i64 a_1, .int .i64 a_2, .slice a_3_a a_3_l a_3_c])] w R :=
  calls_of (f := 22) follows_ok Try.func22 (Eq.mpr (F_access_clone_eq a_0 a_1 a_2 a_3_a a_3_l a_3_c w _) h)

def h_access_known : H := (.seq .reg (.seq .reg .leaf))
def F_access_known (identity : Int) (w : World) (R : Value → World → Prop) : Prop :=
  (bsplit (decide (identity ≥ (0 : Int)))
    ((kLet (decide (identity < (65536 : Int))) fun x =>
    R (.bool x) w))
    (R (.bool false) w))
theorem F_access_known_eq (identity : Int) (w : World) (R : Value → World → Prop) : sxFn Try.prog TT h_access_known Try.f23 #[(.int .i64 identity)] w R = F_access_known identity w R := by kernel_rfl
theorem F_access_known_ok {R : Ending → World → Prop} (identity : Int) (w : World) (h : F_access_known identity w fun v w' => R (.returned v) w') : Calls Try.prog N_access_known #[(.int .i64 identity)] w R :=
  calls_of (f := 23) follows_ok Try.func23 (Eq.mpr (F_access_known_eq identity w _) h)

def h_access_find : H := (.seq .reg (.seq .reg .leaf))
def F_access_find (l_a : Option Addr) (l_l : Nat) (l_c : Nat) (identity : Int) (w : World) (R : Value → World → Prop) : Prop :=
  (kAlloc w #[(.int .i64 identity)] Ty_int fun b w1 =>
  (Calls Try.prog N_slices_IndexFunc_Sapi_Attempt_api_Attempt #[(.slice l_a l_l l_c), (.func (.func N_access_find_1) #[] #[(.pointer (some ⟨b, 0, none⟩))])] w1 fun e_ w2 =>
  ∃ r : Int, e_ = .returned (.int .i64 r) ∧
  R (.int .i64 r) w2))
theorem F_access_find_eq (l_a : Option Addr) (l_l : Nat) (l_c : Nat) (identity : Int) (w : World) (R : Value → World → Prop) : sxFn Try.prog TT h_access_find Try.f24 #[(.slice l_a l_l l_c), (.int .i64 identity)] w R = F_access_find l_a l_l l_c identity w R := by kernel_rfl
theorem F_access_find_ok {R : Ending → World → Prop} (l_a : Option Addr) (l_l : Nat) (l_c : Nat) (identity : Int) (w : World) (h : F_access_find l_a l_l l_c identity w fun v w' => R (.returned v) w') : Calls Try.prog N_access_find #[(.slice l_a l_l l_c), (.int .i64 identity)] w R :=
  calls_of (f := 24) follows_ok Try.func24 (Eq.mpr (F_access_find_eq l_a l_l l_c identity w _) h)

def h_access_with : H := (.seq .reg (.seq .reg (.seq (.draw .blk (.one 0 .stable (.one 1 .stable (.one 3 .stable (.one 4 .stable (.alt 2 (.one 5 .keep (.one 6 .keep (.one 7 .stable (.one 8 .last .nil)))) (.alt 5 (.one 2 .keep (.one 6 .keep (.one 7 .stable (.one 8 .last .nil)))) .endAlt))))))) (.seq .reg .leaf))))
def F_access_with (a_0 : Int) (a_1 : Int) (a_2 : Int) (a_3_a : Option Addr) (a_3_l : Nat) (a_3_c : Nat) (x_0 : Int) (x_1 : Int) (x_2 : Int) (x_3 : Int) (w : World) (R : Value → World → Prop) : Prop :=
  (kAlloc w #[(.int .i64 a_0), (.int .i64 a_1), (.int .i64 a_2), (.slice a_3_a a_3_l a_3_c)] Ty_api_Access fun b w1 =>
  (kAlloc w1 #[(.int .i64 x_0), (.int .i64 x_1), (.int .i64 x_2), (.int .i64 x_3)] Ty_api_Attempt fun b1 w2 =>
  (kAlloc w2 #[.int .i64 (0 : Int), .int .i64 (0 : Int), .int .i64 (0 : Int), .slice none 0 0] Ty_api_Access fun b2 w3 =>
  (kLdS w3 ⟨b, 3, none⟩ fun x_a x_l x_c =>
  (∃ x_01 x_11 x_21 x_31 : Int, cellsAt w3 ⟨b1, 0, none⟩ 0 [(.int .i64 x_01), (.int .i64 x_11), (.int .i64 x_21), (.int .i64 x_31)] ∧
  (Calls Try.prog N_slices_BinarySearchFunc_Sapi_Attempt_api_Attempt_api_Attempt #[(.slice x_a x_l x_c), (.agg #[.int .i64 x_01, .int .i64 x_11, .int .i64 x_21, .int .i64 x_31]), (.func (.func N_access_order) #[] #[])] w3 fun e_ w4 =>
  ∃ r : Int, ∃ r1 : Bool, e_ = .returned (.tuple #[(.int .i64 r), (.bool r1)]) ∧
  (kDrew w4 fun w5 =>
  (∃ S : Nat → Prop,
  (S b ∧
  (kLdS w5 ⟨b, 3, none⟩ fun x_a1 x_l1 x_c1 =>
  (S b1 ∧
  (∃ x_02 x_12 x_22 x_32 : Int, cellsAt w5 ⟨b1, 0, none⟩ 0 [(.int .i64 x_02), (.int .i64 x_12), (.int .i64 x_22), (.int .i64 x_32)] ∧
  ((Calls Try.prog N_slices_Clone_Sapi_Attempt_api_Attempt #[(.slice x_a1 x_l1 x_c1)] w5 fun e_3 w11 =>
  ∃ r_a2 : Option Addr, ∃ r_l2 r_c2 : Nat, e_3 = .returned (.slice r_a2 r_l2 r_c2) ∧
  (KeepsB S w5 w11 ∧ (kAlloc w11 #[(.int .i64 x_02), (.int .i64 x_12), (.int .i64 x_22), (.int .i64 x_32)] Ty_api_Attempt fun b4 w12 =>
  (KeepsB S w5 w12 ∧ (Calls Try.prog N_slices_Insert_Sapi_Attempt_api_Attempt #[(.slice r_a2 r_l2 r_c2), (.int .i64 r), (.slice (some ⟨b4, 0, none⟩) 1 1)] w12 fun e_4 w13 =>
  ∃ r_a3 : Option Addr, ∃ r_l3 r_c3 : Nat, e_4 = .returned (.slice r_a3 r_l3 r_c3) ∧
  (KeepsB S w5 w13 ∧ (kSet w13 ⟨b, 3, none⟩ (.slice r_a3 r_l3 r_c3) fun w14 =>
  (∃ x_04 x_14 x_24 : Int, ∃ x_3_a1 : Option Addr, ∃ x_3_l1 x_3_c1 : Nat, cellsAt w14 ⟨b, 0, none⟩ 0 [(.int .i64 x_04), (.int .i64 x_14), (.int .i64 x_24), (.slice x_3_a1 x_3_l1 x_3_c1)] ∧
  (sxStore w14 ⟨b2, 0, none⟩ 0 [(.int .i64 x_04), (.int .i64 x_14), (.int .i64 x_24), (.slice x_3_a1 x_3_l1 x_3_c1)] fun w15 =>
  (∃ r_01 r_11 r_21 : Int, ∃ r_3_a1 : Option Addr, ∃ r_3_l1 r_3_c1 : Nat, cellsAt w15 ⟨b2, 0, none⟩ 0 [(.int .i64 r_01), (.int .i64 r_11), (.int .i64 r_21), (.slice r_3_a1 r_3_l1 r_3_c1)] ∧
  R (.agg #[.int .i64 r_01, .int .i64 r_11, .int .i64 r_21, .slice r_3_a1 r_3_l1 r_3_c1]) w15)))))))))) ∧
  ((kAlloc w5 #[(.int .i64 x_02), (.int .i64 x_12), (.int .i64 x_22), (.int .i64 x_32)] Ty_api_Attempt fun b3 w6 =>
  (KeepsB S w5 w6 ∧ (Calls Try.prog N_slices_Clone_Sapi_Attempt_api_Attempt #[(.slice x_a1 x_l1 x_c1)] w6 fun e_1 w7 =>
  ∃ r_a : Option Addr, ∃ r_l r_c : Nat, e_1 = .returned (.slice r_a r_l r_c) ∧
  (KeepsB S w5 w7 ∧ (Calls Try.prog N_slices_Insert_Sapi_Attempt_api_Attempt #[(.slice r_a r_l r_c), (.int .i64 r), (.slice (some ⟨b3, 0, none⟩) 1 1)] w7 fun e_2 w8 =>
  ∃ r_a1 : Option Addr, ∃ r_l1 r_c1 : Nat, e_2 = .returned (.slice r_a1 r_l1 r_c1) ∧
  (KeepsB S w5 w8 ∧ (kSet w8 ⟨b, 3, none⟩ (.slice r_a1 r_l1 r_c1) fun w9 =>
  (∃ x_03 x_13 x_23 : Int, ∃ x_3_a : Option Addr, ∃ x_3_l x_3_c : Nat, cellsAt w9 ⟨b, 0, none⟩ 0 [(.int .i64 x_03), (.int .i64 x_13), (.int .i64 x_23), (.slice x_3_a x_3_l x_3_c)] ∧
  (sxStore w9 ⟨b2, 0, none⟩ 0 [(.int .i64 x_03), (.int .i64 x_13), (.int .i64 x_23), (.slice x_3_a x_3_l x_3_c)] fun w10 =>
  (∃ r_0 r_1 r_2 : Int, ∃ r_3_a : Option Addr, ∃ r_3_l r_3_c : Nat, cellsAt w10 ⟨b2, 0, none⟩ 0 [(.int .i64 r_0), (.int .i64 r_1), (.int .i64 r_2), (.slice r_3_a r_3_l r_3_c)] ∧
  R (.agg #[.int .i64 r_0, .int .i64 r_1, .int .i64 r_2, .slice r_3_a r_3_l r_3_c]) w10)))))))))) ∧
  True))))))))))))))
theorem F_access_with_eq (a_0 : Int) (a_1 : Int) (a_2 : Int) (a_3_a : Option Addr) (a_3_l : Nat) (a_3_c : Nat) (x_0 : Int) (x_1 : Int) (x_2 : Int) (x_3 : Int) (w : World) (R : Value → World → Prop) : sxFn Try.prog TT h_access_with Try.f25 #[(.agg #[.int .i64 a_0, .int .i64 a_1, .int .i64 a_2, .slice a_3_a a_3_l a_3_c]), (.agg #[.int .i64 x_0, .int .i64 x_1, .int .i64 x_2, .int .i64 x_3])] w R = F_access_with a_0 a_1 a_2 a_3_a a_3_l a_3_c x_0 x_1 x_2 x_3 w R := by kernel_rfl
theorem F_access_with_ok {R : Ending → World → Prop} (a_0 : Int) (a_1 : Int) (a_2 : Int) (a_3_a : Option Addr) (a_3_l : Nat) (a_3_c : Nat) (x_0 : Int) (x_1 : Int) (x_2 : Int) (x_3 : Int) (w : World) (h : F_access_with a_0 a_1 a_2 a_3_a a_3_l a_3_c x_0 x_1 x_2 x_3 w fun v w' => R (.returned v) w') : Calls Try.prog N_access_with #[(.agg #[.int .i64 a_0, .int .i64 a_1, .int .i64 a_2, .slice a_3_a a_3_l a_3_c]), (.agg #[.int .i64 x_0, .int .i64 x_1, .int .i64 x_2, .int .i64 x_3])] w R :=
  calls_of (f := 25) follows_ok Try.func25 (Eq.mpr (F_access_with_eq a_0 a_1 a_2 a_3_a a_3_l a_3_c x_0 x_1 x_2 x_3 w _) h)

def h_slices_Clone_Sapi_Attempt_api_Attempt : H := (.seq .reg (.seq (.seq .reg (.cond (.seq .reg .leaf) .leaf)) (.seq .reg .leaf)))
def F_slices_Clone_Sapi_Attempt_api_Attempt (s_a : Option Addr) (s_l : Nat) (s_c : Nat) (w : World) (R : Value → World → Prop) : Prop :=
  (bsplit s_a.isNone
    (R (.slice none 0 0) w)
    ((kAlloc w #[] Ty_api_Attempt fun b w1 =>
    (AppP Try.prog #[Ty_S_api_Attempt, Ty_S_api_Attempt] Ty_S_api_Attempt #[(.slice (some ⟨b, 0, none⟩) 0 0), (.slice s_a s_l s_c)] w1 fun x_a x_l x_c w2 =>
    R (.slice x_a x_l x_c) w2))))
theorem F_slices_Clone_Sapi_Attempt_api_Attempt_eq (s_a : Option Addr) (s_l : Nat) (s_c : Nat) (w : World) (R : Value → World → Prop) : sxFn Try.prog TT h_slices_Clone_Sapi_Attempt_api_Attempt Try.f26 #[(.slice s_a s_l s_c)] w R = F_slices_Clone_Sapi_Attempt_api_Attempt s_a s_l s_c w R := by kernel_rfl
theorem F_slices_Clone_Sapi_Attempt_api_Attempt_ok {R : Ending → World → Prop} (s_a : Option Addr) (s_l : Nat) (s_c : Nat) (w : World) (h : F_slices_Clone_Sapi_Attempt_api_Attempt s_a s_l s_c w fun v w' => R (.returned v) w') : Calls Try.prog N_slices_Clone_Sapi_Attempt_api_Attempt #[(.slice s_a s_l s_c)] w R :=
  calls_of (f := 26) follows_ok Try.func26 (Eq.mpr (F_slices_Clone_Sapi_Attempt_api_Attempt_eq s_a s_l s_c w _) h)

def h_ref38_Same : H := (.seq .reg (.cut [] [4, 6, 7, 8, 9, 10, 11, 12, 13, 14, 15, 16, 17, 18, 19, 20, 21, 22, 23, 24, 25, 26, 27, 28, 29, 30, 31, 32, 33] (.seq .reg (.cond (.seq .reg .leaf) .leaf)) (.seq (.seq .reg (.block (.loop [(5, .p (.int .i64))] [4, 5, 34, 35, 36, 37, 38, 39, 40, 41, 42, 43, 44, 45, 46, 47, 48, 49, 50, 51] (.seq (.seq .reg (.cond .leaf .leaf)) (.seq (.block (.seq (.draw .no (.one 0 .stable (.one 1 .stable (.one 2 .stable (.one 3 .stable (.one 4 .stable (.one 5 .stable (.one 6 .stable (.one 7 .stable (.one 8 .stable (.one 9 .stable (.one 10 .stable .nil)))))))))))) (.cond (.seq .reg .leaf) .leaf))) .reg))))) (.seq .reg .leaf))))
def F_ref38_Same (a_0 : Int) (a_1 : Int) (a_2 : Int) (a_3_a : Option Addr) (a_3_l : Nat) (a_3_c : Nat) (b_0 : Int) (b_1 : Int) (b_2 : Int) (b_3_a : Option Addr) (b_3_l : Nat) (b_3_c : Nat) (w : World) (R : Value → World → Prop) : Prop :=
  (kAlloc w #[(.int .i64 a_0), (.int .i64 a_1), (.int .i64 a_2), (.slice a_3_a a_3_l a_3_c)] Ty_api_Access fun b w1 =>
  (kAlloc w1 #[(.int .i64 b_0), (.int .i64 b_1), (.int .i64 b_2), (.slice b_3_a b_3_l b_3_c)] Ty_api_Access fun b1 w2 =>
  (∃ J : World → Prop,
  (∀ (_junk : Env)  (w3 : World), J w3 →
    (∃ I : Int → Nat × (World → Prop), (I (0 : Int)).2 w3 ∧
    (∀ (_junk : Env) (i : Int) (w4 : World), (I i).2 w4 →
      (kLdS w4 ⟨b, 3, none⟩ fun _ x_l2 _ =>
      (bsplit (decide (i < (x_l2 : Int)))
        ((kDrew w4 fun w5 =>
        (kLdS w5 ⟨b, 3, none⟩ fun x_a3 x_l3 _ =>
        (kIx x_a3 x_l3 i fun b2 =>
        (∃ x_0 x_1 x_2 x_3 : Int, cellsAt w5 (b2.add (i.toNat * 4)) 0 [(.int .i64 x_0), (.int .i64 x_1), (.int .i64 x_2), (.int .i64 x_3)] ∧
        (kLdS w5 ⟨b1, 3, none⟩ fun x_a4 x_l4 _ =>
        (kIx x_a4 x_l4 i fun b3 =>
        (∃ x_01 x_11 x_21 x_31 : Int, cellsAt w5 (b3.add (i.toNat * 4)) 0 [(.int .i64 x_01), (.int .i64 x_11), (.int .i64 x_21), (.int .i64 x_31)] ∧
        (EqP Try.prog .neq Ty_api_Attempt (.tmp 45) (.tmp 50) (.agg #[.int .i64 x_0, .int .i64 x_1, .int .i64 x_2, .int .i64 x_3]) (.agg #[.int .i64 x_01, .int .i64 x_11, .int .i64 x_21, .int .i64 x_31]) fun r =>
        (bsplit r
          (R (.bool false) w5)
          ((kW .i64 (i + (1 : Int)) fun x6 =>
          ((I x6).2 w5 ∧ (I x6).1 < (I i).1)))))))))))))
        (R (.bool true) w4)))))) ∧
  (kLd w2 ⟨b, 0, none⟩ .i64 fun x =>
  (kLd w2 ⟨b1, 0, none⟩ .i64 fun x1 =>
  (bsplit (!decide (x = x1))
    (R (.bool false) w2)
    ((kLd w2 ⟨b, 1, none⟩ .i64 fun x2 =>
    (kLd w2 ⟨b1, 1, none⟩ .i64 fun x3 =>
    (bsplit (!decide (x2 = x3))
      (R (.bool false) w2)
      ((kLd w2 ⟨b, 2, none⟩ .i64 fun x4 =>
      (kLd w2 ⟨b1, 2, none⟩ .i64 fun x5 =>
      (bsplit (!decide (x4 = x5))
        (R (.bool false) w2)
        ((kLdS w2 ⟨b, 3, none⟩ fun _ x_l _ =>
        (kLdS w2 ⟨b1, 3, none⟩ fun _ x_l1 _ =>
        (bsplit (!decide ((x_l : Int) = (x_l1 : Int)))
          (R (.bool false) w2)
          (J w2)))))))))))))))))))
theorem F_ref38_Same_eq (a_0 : Int) (a_1 : Int) (a_2 : Int) (a_3_a : Option Addr) (a_3_l : Nat) (a_3_c : Nat) (b_0 : Int) (b_1 : Int) (b_2 : Int) (b_3_a : Option Addr) (b_3_l : Nat) (b_3_c : Nat) (w : World) (R : Value → World → Prop) : sxFn Try.prog TT h_ref38_Same Try.f27 #[(.agg #[.int .i64 a_0, .int .i64 a_1, .int .i64 a_2, .slice a_3_a a_3_l a_3_c]), (.agg #[.int .i64 b_0, .int .i64 b_1, .int .i64 b_2, .slice b_3_a b_3_l b_3_c])] w R = F_ref38_Same a_0 a_1 a_2 a_3_a a_3_l a_3_c b_0 b_1 b_2 b_3_a b_3_l b_3_c w R := by kernel_rfl
theorem F_ref38_Same_ok {R : Ending → World → Prop} (a_0 : Int) (a_1 : Int) (a_2 : Int) (a_3_a : Option Addr) (a_3_l : Nat) (a_3_c : Nat) (b_0 : Int) (b_1 : Int) (b_2 : Int) (b_3_a : Option Addr) (b_3_l : Nat) (b_3_c : Nat) (w : World) (h : F_ref38_Same a_0 a_1 a_2 a_3_a a_3_l a_3_c b_0 b_1 b_2 b_3_a b_3_l b_3_c w fun v w' => R (.returned v) w') : Calls Try.prog N_ref38_Same #[(.agg #[.int .i64 a_0, .int .i64 a_1, .int .i64 a_2, .slice a_3_a a_3_l a_3_c]), (.agg #[.int .i64 b_0, .int .i64 b_1, .int .i64 b_2, .slice b_3_a b_3_l b_3_c])] w R :=
  calls_of (f := 27) follows_ok Try.func27 (Eq.mpr (F_ref38_Same_eq a_0 a_1 a_2 a_3_a a_3_l a_3_c b_0 b_1 b_2 b_3_a b_3_l b_3_c w _) h)

def h_ref38_Check : H := (.seq .reg (.seq (.cut [(32, .p .bool)] [5, 6, 7, 8, 9, 10, 11, 12, 13, 14, 15, 16, 17, 18, 19, 20, 21, 22, 23, 24, 25, 26, 27, 28, 29, 30, 31, 32] .reg (.cond (.seq .reg .leaf) .leaf)) (.seq (.seq .reg (.cond (.seq .reg .leaf) .leaf)) (.seq (.seq .reg (.block (.loop [(3, .p (.int .i64))] [2, 3, 4, 37, 38, 39, 40, 41, 42, 43, 44, 45, 46, 47, 48, 49, 50, 51, 52, 53, 54, 55, 56, 57, 58, 59, 60, 61, 62, 63, 64, 65, 66, 67, 68, 69, 70, 71, 72, 73, 74, 75, 76, 77, 78, 79, 80, 81, 82, 83, 84, 85, 86, 87, 88, 89, 90, 91, 92, 93, 94, 95, 96, 97, 98, 99, 100, 101, 102, 103, 104, 105, 106, 107, 108, 109, 110, 111, 112, 113, 114] (.seq (.seq .reg (.cond .leaf .leaf)) (.seq (.block (.seq .reg (.cut [(114, .p .bool)] [49, 50, 51, 52, 53, 54, 55, 56, 57, 58, 59, 60, 61, 62, 63, 64, 65, 66, 67, 68, 69, 70, 71, 72, 73, 74, 75, 76, 77, 78, 79, 80, 81, 82, 83, 84, 85, 86, 87, 88, 89, 90, 91, 92, 93, 94, 95, 96, 97, 98, 99, 100, 101, 102, 103, 104, 105, 106, 107, 108, 109, 110, 111, 112, 113, 114] (.draw .blk (.one 0 .pre (.one 1 .pre (.one 2 .pre (.one 3 .pre (.one 4 .pre (.one 5 .pre (.one 6 .pre (.one 7 .pre (.one 8 .pre (.one 9 .pre (.one 10 .pre (.one 11 .pre (.one 12 .pre (.one 13 .pre (.one 14 .pre (.one 15 .pre (.one 16 .pre (.one 17 .pre (.one 18 .pre (.one 19 .pre (.one 20 .pre (.one 21 .stable (.one 22 .stable (.one 23 .pre (.one 24 .pre (.one 25 .pre (.one 26 .pre (.one 27 .pre (.one 28 .pre (.one 29 .keep (.one 30 .stable (.one 31 .stable (.one 32 .stable (.one 33 .stable (.one 34 .stable (.one 35 .stable (.one 36 .stable (.one 37 .stable (.one 38 .stable (.one 39 .stable (.one 40 .stable (.one 41 .stable (.one 42 .stable (.one 43 .stable (.one 44 .stable (.one 45 .stable (.one 46 .stable (.one 47 .stable (.one 48 .stable (.one 49 .keep (.one 50 .stable (.one 51 .stable (.one 52 .stable (.one 53 .stable (.one 54 .stable (.one 55 .stable (.one 56 .stable (.one 57 .stable (.one 58 .stable (.one 59 .stable (.one 60 .stable (.one 61 .stable (.one 62 .keep (.one 63 .stable (.one 64 .stable (.one 65 .stable .nil))))))))))))))))))))))))))))))))))))))))))))))))))))))))))))))))))) (.cond (.seq .reg .leaf) .leaf)))) .reg))))) (.seq .reg .leaf)))))
def F_ref38_Check (a_0 : Int) (a_1 : Int) (a_2 : Int) (a_3_a : Option Addr) (a_3_l : Nat) (a_3_c : Nat) (w : World) (R : Value → World → Prop) : Prop :=
  (kAlloc w #[(.int .i64 a_0), (.int .i64 a_1), (.int .i64 a_2), (.slice a_3_a a_3_l a_3_c)] Ty_api_Access fun b w1 =>
  (∃ J : Bool → World → Prop,
  (∀ (_junk : Env) (x6 : Bool) (w2 : World), J x6 w2 →
    (bsplit x6
      (R (.int .i64 (3 : Int)) w2)
      ((kLdS w2 ⟨b, 3, none⟩ fun _ x_l _ =>
      (bsplit (decide ((x_l : Int) > (16 : Int)))
        (R (.int .i64 (2 : Int)) w2)
        ((∃ I : Int → Nat × (World → Prop), (I (0 : Int)).2 w2 ∧
        (∀ (_junk : Env) (i : Int) (w3 : World), (I i).2 w3 →
          (kLdS w3 ⟨b, 3, none⟩ fun _ x_l1 _ =>
          (bsplit (decide (i < (x_l1 : Int)))
            ((kLdS w3 ⟨b, 3, none⟩ fun x_a2 x_l2 _ =>
            (kIx x_a2 x_l2 i fun b1 =>
            (∃ x_0 x_1 x_2 x_3 : Int, cellsAt w3 (b1.add (i.toNat * 4)) 0 [(.int .i64 x_0), (.int .i64 x_1), (.int .i64 x_2), (.int .i64 x_3)] ∧
            (kAlloc w3 #[.int .i64 (0 : Int), .int .i64 (0 : Int), .int .i64 (0 : Int), .int .i64 (0 : Int)] Ty_api_Attempt fun b2 w4 =>
            (sxStore w4 ⟨b2, 0, none⟩ 0 [(.int .i64 x_0), (.int .i64 x_1), (.int .i64 x_2), (.int .i64 x_3)] fun w5 =>
            (∃ J1 : Bool → World → Prop,
            (∀ (_junk : Env) (x20 : Bool) (w10 : World), J1 x20 w10 →
              (bsplit x20
                (R (.int .i64 (1 : Int)) w10)
                ((kW .i64 (i + (1 : Int)) fun x21 =>
                ((I x21).2 w10 ∧ (I x21).1 < (I i).1))))) ∧
            (kDrew w5 fun w6 =>
            (∃ S : Nat → Prop,
            (kLd w6 ⟨b2, 0, none⟩ .i64 fun x7 =>
            (bsplit (decide (x7 < (0 : Int)))
              (J1 true w6)
              ((kLd w6 ⟨b2, 0, none⟩ .i64 fun x8 =>
              (bsplit (decide (x8 ≥ (65536 : Int)))
                (J1 true w6)
                ((kLd w6 ⟨b2, 3, none⟩ .i64 fun x9 =>
                (bsplit (decide (x9 < (0 : Int)))
                  (J1 true w6)
                  ((kLd w6 ⟨b2, 3, none⟩ .i64 fun x10 =>
                  (kLd w6 ⟨b, 1, none⟩ .i64 fun x11 =>
                  (bsplit (decide (x10 ≥ x11))
                    (J1 true w6)
                    ((S b2 ∧
                    (kLd w6 ⟨b2, 1, none⟩ .i64 fun x12 =>
                    (kLd w6 ⟨b2, 0, none⟩ .i64 fun x13 =>
                    (kLd w6 ⟨b2, 3, none⟩ .i64 fun x14 =>
                    (kLd w6 ⟨b, 0, none⟩ .i64 fun x15 =>
                    (Calls Try.prog N_ref38_Preamble #[(.int .i64 x13), (.int .i64 x14), (.int .i64 x15)] w6 fun e_ w7 =>
                    ∃ r : Int, e_ = .returned (.int .i64 r) ∧
                    (KeepsB S w6 w7 ∧ (bsplit (!decide (x12 = r))
                      (J1 true w7)
                      ((S b2 ∧
                      (kLd w6 ⟨b2, 2, none⟩ .i64 fun x16 =>
                      (bsplit (decide (x16 < (0 : Int)))
                        (J1 true w7)
                        ((S b2 ∧
                        (kLd w6 ⟨b2, 2, none⟩ .i64 fun x17 =>
                        (bsplit (decide (x17 > (2097152 : Int)))
                          (J1 true w7)
                          ((S b ∧
                          (kLdS w6 ⟨b, 3, none⟩ fun x_a3 _ x_c3 =>
                          ((0 ≤ i ∧ i ≤ ((x_c3 : Nat) : Int)) ∧ (S b2 ∧
                          (kLd w6 ⟨b2, 0, none⟩ .i64 fun x18 =>
                          (Calls Try.prog N_ref38_has #[(.slice (slAddr x_c3 0 4 x_a3) (i.toNat - 0) (x_c3 - 0)), (.int .i64 x18)] w7 fun e_1 w8 =>
                          ∃ r1 : Bool, e_1 = .returned (.bool r1) ∧
                          (KeepsB S w6 w8 ∧ (bsplit r1
                            (J1 true w8)
                            ((bsplit (decide (i > (0 : Int)))
                              ((S b ∧
                              (kLdS w6 ⟨b, 3, none⟩ fun x_a4 x_l4 _ =>
                              (kW .i64 (i - (1 : Int)) fun x19 =>
                              (kIx x_a4 x_l4 x19 fun b3 =>
                              (S (b3.add (x19.toNat * 4)).block ∧
                              (∃ x_01 x_11 x_21 x_31 : Int, cellsAt w6 (b3.add (x19.toNat * 4)) 0 [(.int .i64 x_01), (.int .i64 x_11), (.int .i64 x_21), (.int .i64 x_31)] ∧
                              (S b2 ∧
                              (∃ x_02 x_12 x_22 x_32 : Int, cellsAt w6 ⟨b2, 0, none⟩ 0 [(.int .i64 x_02), (.int .i64 x_12), (.int .i64 x_22), (.int .i64 x_32)] ∧
                              (Calls Try.prog N_ref38_before #[(.agg #[.int .i64 x_01, .int .i64 x_11, .int .i64 x_21, .int .i64 x_31]), (.agg #[.int .i64 x_02, .int .i64 x_12, .int .i64 x_22, .int .i64 x_32])] w8 fun e_2 w9 =>
                              ∃ r2 : Bool, e_2 = .returned (.bool r2) ∧
                              (KeepsB S w6 w9 ∧ J1 (!r2) w9)))))))))))
                              (J1 false w8))))))))))))))))))))))))))))))))))))))))))))))))))
            (R (.int .i64 (0 : Int)) w3))))))))))) ∧
  (kLd w1 ⟨b, 0, none⟩ .i64 fun x =>
  (bsplit (decide (x < (1 : Int)))
    (J true w1)
    ((kLd w1 ⟨b, 0, none⟩ .i64 fun x1 =>
    (bsplit (decide (x1 > (64 : Int)))
      (J true w1)
      ((kLd w1 ⟨b, 1, none⟩ .i64 fun x2 =>
      (bsplit (decide (x2 < (1 : Int)))
        (J true w1)
        ((kLd w1 ⟨b, 1, none⟩ .i64 fun x3 =>
        (bsplit (decide (x3 > (32 : Int)))
          (J true w1)
          ((kLd w1 ⟨b, 2, none⟩ .i64 fun x4 =>
          (bsplit (decide (x4 < (0 : Int)))
            (J true w1)
            ((kLd w1 ⟨b, 2, none⟩ .i64 fun x5 =>
            J (decide (x5 > (1000 : Int))) w1))))))))))))))))))
theorem F_ref38_Check_eq (a_0 : Int) (a_1 : Int) (a_2 : Int) (a_3_a : Option Addr) (a_3_l : Nat) (a_3_c : Nat) (w : World) (R : Value → World → Prop) : sxFn Try.prog TT h_ref38_Check Try.f28 #[(.agg #[.int .i64 a_0, .int .i64 a_1, .int .i64 a_2, .slice a_3_a a_3_l a_3_c])] w R = F_ref38_Check a_0 a_1 a_2 a_3_a a_3_l a_3_c w R := by kernel_rfl
theorem F_ref38_Check_ok {R : Ending → World → Prop} (a_0 : Int) (a_1 : Int) (a_2 : Int) (a_3_a : Option Addr) (a_3_l : Nat) (a_3_c : Nat) (w : World) (h : F_ref38_Check a_0 a_1 a_2 a_3_a a_3_l a_3_c w fun v w' => R (.returned v) w') : Calls Try.prog N_ref38_Check #[(.agg #[.int .i64 a_0, .int .i64 a_1, .int .i64 a_2, .slice a_3_a a_3_l a_3_c])] w R :=
  calls_of (f := 28) follows_ok Try.func28 (Eq.mpr (F_ref38_Check_eq a_0 a_1 a_2 a_3_a a_3_l a_3_c w _) h)

def h_roll_SameInts : H := (.seq .reg (.seq (.seq .reg (.cond (.seq .reg .leaf) .leaf)) (.seq (.seq .reg (.block (.loop [(5, .p (.int .i64))] [4, 5, 11, 12, 13, 14, 15, 16, 17, 18, 19, 20, 21, 22, 23, 24, 25] (.seq (.seq .reg (.cond .leaf .leaf)) (.seq (.block (.seq (.draw .no (.one 0 .stable (.one 1 .stable (.one 2 .stable (.one 3 .stable (.one 4 .stable (.one 5 .stable (.one 6 .stable (.one 7 .stable (.one 8 .stable .nil)))))))))) (.cond (.seq .reg .leaf) .leaf))) .reg))))) (.seq .reg .leaf))))
def F_roll_SameInts (a_a : Option Addr) (a_l : Nat) (_ : Nat) (b_a : Option Addr) (b_l : Nat) (_ : Nat) (w : World) (R : Value → World → Prop) : Prop :=
  (bsplit (!decide ((a_l : Int) = (b_l : Int)))
    (R (.bool false) w)
    ((∃ I : Int → Nat × (World → Prop), (I (0 : Int)).2 w ∧
    (∀ (_junk : Env) (i : Int) (w1 : World), (I i).2 w1 →
      (bsplit (decide (i < (a_l : Int)))
        ((kDrew w1 fun w2 =>
        (kIx a_a a_l i fun b =>
        (kLd w2 (b.add (i.toNat * 1)) .i64 fun x =>
        (kIx b_a b_l i fun b1 =>
        (kLd w2 (b1.add (i.toNat * 1)) .i64 fun x1 =>
        (bsplit (!decide (x = x1))
          (R (.bool false) w2)
          ((kW .i64 (i + (1 : Int)) fun x2 =>
          ((I x2).2 w2 ∧ (I x2).1 < (I i).1))))))))))
        (R (.bool true) w1))))))
theorem F_roll_SameInts_eq (a_a : Option Addr) (a_l : Nat) (a_c : Nat) (b_a : Option Addr) (b_l : Nat) (b_c : Nat) (w : World) (R : Value → World → Prop) : sxFn Try.prog TT h_roll_SameInts Try.f29 #[(.slice a_a a_l a_c), (.slice b_a b_l b_c)] w R = F_roll_SameInts a_a a_l a_c b_a b_l b_c w R := by kernel_rfl
theorem F_roll_SameInts_ok {R : Ending → World → Prop} (a_a : Option Addr) (a_l : Nat) (a_c : Nat) (b_a : Option Addr) (b_l : Nat) (b_c : Nat) (w : World) (h : F_roll_SameInts a_a a_l a_c b_a b_l b_c w fun v w' => R (.returned v) w') : Calls Try.prog N_roll_SameInts #[(.slice a_a a_l a_c), (.slice b_a b_l b_c)] w R :=
  calls_of (f := 29) follows_ok Try.func29 (Eq.mpr (F_roll_SameInts_eq a_a a_l a_c b_a b_l b_c w _) h)

def h_access_Stop : H := (.seq .reg (.seq .reg (.seq .reg (.seq (.seq .reg (.cond (.seq .reg .leaf) .leaf)) (.seq .reg (.seq .reg .leaf))))))
def F_access_Stop (a_0 : Int) (a_1 : Int) (a_2 : Int) (a_3_a : Option Addr) (a_3_l : Nat) (a_3_c : Nat) (identity : Int) (w : World) (R : Value → World → Prop) : Prop :=
  (kAlloc w #[(.int .i64 a_0), (.int .i64 a_1), (.int .i64 a_2), (.slice a_3_a a_3_l a_3_c)] Ty_api_Access fun b w1 =>
  (kAlloc w1 #[.int .i64 (0 : Int), .int .i64 (0 : Int), .int .i64 (0 : Int), .slice none 0 0] Ty_api_Access fun b1 w2 =>
  (∃ x_0 x_1 x_2 : Int, ∃ x_3_a : Option Addr, ∃ x_3_l x_3_c : Nat, cellsAt w2 ⟨b, 0, none⟩ 0 [(.int .i64 x_0), (.int .i64 x_1), (.int .i64 x_2), (.slice x_3_a x_3_l x_3_c)] ∧
  (Calls Try.prog N_access_clone #[(.agg #[.int .i64 x_0, .int .i64 x_1, .int .i64 x_2, .slice x_3_a x_3_l x_3_c])] w2 fun e_ w3 =>
  ∃ r_0 r_1 r_2 : Int, ∃ r_3_a : Option Addr, ∃ r_3_l r_3_c : Nat, e_ = .returned (.agg #[.int .i64 r_0, .int .i64 r_1, .int .i64 r_2, .slice r_3_a r_3_l r_3_c]) ∧
  (kAlloc w3 #[.int .i64 (0 : Int), .int .i64 (0 : Int), .int .i64 (0 : Int), .slice none 0 0] Ty_api_Access fun b2 w4 =>
  (sxStore w4 ⟨b2, 0, none⟩ 0 [(.int .i64 r_0), (.int .i64 r_1), (.int .i64 r_2), (.slice r_3_a r_3_l r_3_c)] fun w5 =>
  (kLdS w5 ⟨b, 3, none⟩ fun x_a x_l x_c =>
  (Calls Try.prog N_access_find #[(.slice x_a x_l x_c), (.int .i64 identity)] w5 fun e_1 w6 =>
  ∃ r : Int, e_1 = .returned (.int .i64 r) ∧
  (∃ x_01 x_11 x_21 : Int, ∃ x_3_a1 : Option Addr, ∃ x_3_l1 x_3_c1 : Nat, cellsAt w6 ⟨b, 0, none⟩ 0 [(.int .i64 x_01), (.int .i64 x_11), (.int .i64 x_21), (.slice x_3_a1 x_3_l1 x_3_c1)] ∧
  (Calls Try.prog N_access_Check #[(.agg #[.int .i64 x_01, .int .i64 x_11, .int .i64 x_21, .slice x_3_a1 x_3_l1 x_3_c1])] w6 fun e_2 w7 =>
  ∃ r1 : Int, e_2 = .returned (.int .i64 r1) ∧
  (bsplit (!decide (r1 = (0 : Int)))
    ((∃ x_02 x_12 x_22 : Int, ∃ x_3_a2 : Option Addr, ∃ x_3_l2 x_3_c2 : Nat, cellsAt w7 ⟨b2, 0, none⟩ 0 [(.int .i64 x_02), (.int .i64 x_12), (.int .i64 x_22), (.slice x_3_a2 x_3_l2 x_3_c2)] ∧
      (sxStore w7 ⟨b1, 0, none⟩ 0 [(.int .i64 x_02), (.int .i64 x_12), (.int .i64 x_22), (.slice x_3_a2 x_3_l2 x_3_c2)] fun w8 =>
      (∃ r_01 r_11 r_21 : Int, ∃ r_3_a1 : Option Addr, ∃ r_3_l1 r_3_c1 : Nat, cellsAt w8 ⟨b1, 0, none⟩ 0 [(.int .i64 r_01), (.int .i64 r_11), (.int .i64 r_21), (.slice r_3_a1 r_3_l1 r_3_c1)] ∧
      R (.tuple #[(.agg #[.int .i64 r_01, .int .i64 r_11, .int .i64 r_21, .slice r_3_a1 r_3_l1 r_3_c1]), (.bool false)]) w8))))
    ((bsplit (decide (r < (0 : Int)))
      ((∃ x_04 x_14 x_24 : Int, ∃ x_3_a4 : Option Addr, ∃ x_3_l4 x_3_c4 : Nat, cellsAt w7 ⟨b2, 0, none⟩ 0 [(.int .i64 x_04), (.int .i64 x_14), (.int .i64 x_24), (.slice x_3_a4 x_3_l4 x_3_c4)] ∧
      (sxStore w7 ⟨b1, 0, none⟩ 0 [(.int .i64 x_04), (.int .i64 x_14), (.int .i64 x_24), (.slice x_3_a4 x_3_l4 x_3_c4)] fun w12 =>
      (∃ r_03 r_13 r_23 : Int, ∃ r_3_a3 : Option Addr, ∃ r_3_l3 r_3_c3 : Nat, cellsAt w12 ⟨b1, 0, none⟩ 0 [(.int .i64 r_03), (.int .i64 r_13), (.int .i64 r_23), (.slice r_3_a3 r_3_l3 r_3_c3)] ∧
      R (.tuple #[(.agg #[.int .i64 r_03, .int .i64 r_13, .int .i64 r_23, .slice r_3_a3 r_3_l3 r_3_c3]), (.bool false)]) w12))))
      ((kLdS w7 ⟨b2, 3, none⟩ fun x_a2 x_l2 x_c2 =>
      (kW .i64 (r + (1 : Int)) fun x1 =>
      (Calls Try.prog N_slices_Delete_Sapi_Attempt_api_Attempt #[(.slice x_a2 x_l2 x_c2), (.int .i64 r), (.int .i64 x1)] w7 fun e_4 w13 =>
      ∃ r_a1 : Option Addr, ∃ r_l1 r_c1 : Nat, e_4 = .returned (.slice r_a1 r_l1 r_c1) ∧
      (kSet w13 ⟨b2, 3, none⟩ (.slice r_a1 r_l1 r_c1) fun w14 =>
      (∃ x_05 x_15 x_25 : Int, ∃ x_3_a5 : Option Addr, ∃ x_3_l5 x_3_c5 : Nat, cellsAt w14 ⟨b2, 0, none⟩ 0 [(.int .i64 x_05), (.int .i64 x_15), (.int .i64 x_25), (.slice x_3_a5 x_3_l5 x_3_c5)] ∧
      (sxStore w14 ⟨b1, 0, none⟩ 0 [(.int .i64 x_05), (.int .i64 x_15), (.int .i64 x_25), (.slice x_3_a5 x_3_l5 x_3_c5)] fun w15 =>
      (∃ r_04 r_14 r_24 : Int, ∃ r_3_a4 : Option Addr, ∃ r_3_l4 r_3_c4 : Nat, cellsAt w15 ⟨b1, 0, none⟩ 0 [(.int .i64 r_04), (.int .i64 r_14), (.int .i64 r_24), (.slice r_3_a4 r_3_l4 r_3_c4)] ∧
      R (.tuple #[(.agg #[.int .i64 r_04, .int .i64 r_14, .int .i64 r_24, .slice r_3_a4 r_3_l4 r_3_c4]), (.bool true)]) w15)))))))))))))))))))))
theorem F_access_Stop_eq (a_0 : Int) (a_1 : Int) (a_2 : Int) (a_3_a : Option Addr) (a_3_l : Nat) (a_3_c : Nat) (identity : Int) (w : World) (R : Value → World → Prop) : sxFn Try.prog TT h_access_Stop Try.f30 #[(.agg #[.int .i64 a_0, .int .i64 a_1, .int .i64 a_2, .slice a_3_a a_3_l a_3_c]), (.int .i64 identity)] w R = F_access_Stop a_0 a_1 a_2 a_3_a a_3_l a_3_c identity w R := by kernel_rfl
theorem F_access_Stop_ok {R : Ending → World → Prop} (a_0 : Int) (a_1 : Int) (a_2 : Int) (a_3_a : Option Addr) (a_3_l : Nat) (a_3_c : Nat) (identity : Int) (w : World) (h : F_access_Stop a_0 a_1 a_2 a_3_a a_3_l a_3_c identity w fun v w' => R (.returned v) w') : Calls Try.prog N_access_Stop #[(.agg #[.int .i64 a_0, .int .i64 a_1, .int .i64 a_2, .slice a_3_a a_3_l a_3_c]), (.int .i64 identity)] w R :=
  calls_of (f := 30) follows_ok Try.func30 (Eq.mpr (F_access_Stop_eq a_0 a_1 a_2 a_3_a a_3_l a_3_c identity w _) h)

def h_roll_Mod : H := (.seq .reg (.seq (.seq .reg (.cond (.seq .reg .leaf) .leaf)) (.seq .reg .leaf)))
def F_roll_Mod (x : Int) (n : Int) (w : World) (R : Value → World → Prop) : Prop :=
  (bsplit (decide (n < (1 : Int)))
    (R (.int .i64 (0 : Int)) w)
    ((n ≠ 0 ∧ (kLet (Int.tmod x n) fun x1 =>
    (kW .i64 (x1 + n) fun x2 =>
    (n ≠ 0 ∧ (kLet (Int.tmod x2 n) fun x3 =>
    R (.int .i64 x3) w)))))))
theorem F_roll_Mod_eq (x : Int) (n : Int) (w : World) (R : Value → World → Prop) : sxFn Try.prog TT h_roll_Mod Try.f31 #[(.int .i64 x), (.int .i64 n)] w R = F_roll_Mod x n w R := by kernel_rfl
theorem F_roll_Mod_ok {R : Ending → World → Prop} (x : Int) (n : Int) (w : World) (h : F_roll_Mod x n w fun v w' => R (.returned v) w') : Calls Try.prog N_roll_Mod #[(.int .i64 x), (.int .i64 n)] w R :=
  calls_of (f := 31) follows_ok Try.func31 (Eq.mpr (F_roll_Mod_eq x n w _) h)

def h_ref38_has : H := (.seq .reg (.seq (.seq .reg (.block (.loop [(5, .p (.int .i64))] [4, 5, 6, 7, 8, 9, 10, 11, 12, 13, 14, 15, 16, 17, 18] (.seq (.seq .reg (.cond .leaf .leaf)) (.seq (.block (.seq .reg (.cond (.seq .reg .leaf) .leaf))) .reg))))) (.seq .reg .leaf)))
def F_ref38_has (l_a : Option Addr) (l_l : Nat) (_ : Nat) (identity : Int) (w : World) (R : Value → World → Prop) : Prop :=
  (∃ I : Int → Nat × (World → Prop), (I (0 : Int)).2 w ∧
  (∀ (_junk : Env) (i : Int) (w1 : World), (I i).2 w1 →
    (bsplit (decide (i < (l_l : Int)))
      ((kIx l_a l_l i fun b =>
      (kLd w1 (b.add (i.toNat * 4)) .i64 fun x =>
      (bsplit (decide (x = identity))
        (R (.bool true) w1)
        ((kW .i64 (i + (1 : Int)) fun x1 =>
        ((I x1).2 w1 ∧ (I x1).1 < (I i).1)))))))
      (R (.bool false) w1))))
theorem F_ref38_has_eq (l_a : Option Addr) (l_l : Nat) (l_c : Nat) (identity : Int) (w : World) (R : Value → World → Prop) : sxFn Try.prog TT h_ref38_has Try.f32 #[(.slice l_a l_l l_c), (.int .i64 identity)] w R = F_ref38_has l_a l_l l_c identity w R := by kernel_rfl
theorem F_ref38_has_ok {R : Ending → World → Prop} (l_a : Option Addr) (l_l : Nat) (l_c : Nat) (identity : Int) (w : World) (h : F_ref38_has l_a l_l l_c identity w fun v w' => R (.returned v) w') : Calls Try.prog N_ref38_has #[(.slice l_a l_l l_c), (.int .i64 identity)] w R :=
  calls_of (f := 32) follows_ok Try.func32 (Eq.mpr (F_ref38_has_eq l_a l_l l_c identity w _) h)

def h_ref38_put : H := (.seq .reg (.seq .reg (.cut [(5, .p (.int .i64))] [5, 7, 8, 9, 10, 11, 12, 13, 14, 15, 16, 17, 18, 19, 20] (.block (.loop [(5, .p (.int .i64))] [5, 7, 8, 9, 10, 11, 12, 13, 14, 15, 16, 17, 18, 19, 20] (.seq (.seq (.draw .blk (.one 0 .pre (.one 1 .pre (.one 2 .pre (.one 3 .pre (.one 4 .pre (.one 5 .pre (.one 6 .pre (.one 7 .pre (.one 8 .pre (.one 9 .pre (.one 10 .keep (.one 11 .stable .nil))))))))))))) (.cond .leaf .leaf)) (.block .reg)))) (.seq .reg (.seq .reg (.seq .reg .leaf))))))
def F_ref38_put (l_a : Option Addr) (l_l : Nat) (l_c : Nat) (x_0 : Int) (x_1 : Int) (x_2 : Int) (x_3 : Int) (w : World) (R : Value → World → Prop) : Prop :=
  (kAlloc w #[(.int .i64 x_0), (.int .i64 x_1), (.int .i64 x_2), (.int .i64 x_3)] Ty_api_Attempt fun b w1 =>
  (∃ J : Int → World → Prop,
  (∀ (_junk : Env) (k1 : Int) (w5 : World), J k1 w5 →
    (kAlloc w5 #[] Ty_api_Attempt fun b2 w6 =>
    ((0 ≤ k1 ∧ k1 ≤ ((l_c : Nat) : Int)) ∧ (AppP Try.prog #[Ty_S_api_Attempt, Ty_S_api_Attempt] Ty_S_api_Attempt #[(.slice (some ⟨b2, 0, none⟩) 0 0), (.slice (slAddr l_c 0 4 l_a) (k1.toNat - 0) (l_c - 0))] w6 fun x_a x_l x_c w7 =>
    (∃ x_03 x_13 x_23 x_33 : Int, cellsAt w7 ⟨b, 0, none⟩ 0 [(.int .i64 x_03), (.int .i64 x_13), (.int .i64 x_23), (.int .i64 x_33)] ∧
    (kAlloc w7 #[(.int .i64 x_03), (.int .i64 x_13), (.int .i64 x_23), (.int .i64 x_33)] Ty_api_Attempt fun b3 w8 =>
    (AppP Try.prog #[Ty_S_api_Attempt, Ty_S_api_Attempt] Ty_S_api_Attempt #[(.slice x_a x_l x_c), (.slice (some ⟨b3, 0, none⟩) 1 1)] w8 fun x_a1 x_l1 x_c1 w9 =>
    ((0 ≤ k1 ∧ k1 ≤ ((l_l : Nat) : Int)) ∧ (AppP Try.prog #[Ty_S_api_Attempt, Ty_S_api_Attempt] Ty_S_api_Attempt #[(.slice x_a1 x_l1 x_c1), (.slice (slAddr l_c (k1.toNat) 4 l_a) (l_l - k1.toNat) (l_c - k1.toNat))] w9 fun x_a2 x_l2 x_c2 w10 =>
    R (.slice x_a2 x_l2 x_c2) w10))))))))) ∧
  (∃ I : Int → Nat × (World → Prop), (I (0 : Int)).2 w1 ∧
  (∀ (_junk : Env) (k : Int) (w2 : World), (I k).2 w2 →
    (kDrew w2 fun w3 =>
    (∃ S : Nat → Prop,
    (bsplit (decide (k < (l_l : Int)))
      ((kIx l_a l_l k fun b1 =>
      (∃ x_01 x_11 x_21 x_31 : Int, cellsAt w3 (b1.add (k.toNat * 4)) 0 [(.int .i64 x_01), (.int .i64 x_11), (.int .i64 x_21), (.int .i64 x_31)] ∧
      (∃ x_02 x_12 x_22 x_32 : Int, cellsAt w3 ⟨b, 0, none⟩ 0 [(.int .i64 x_02), (.int .i64 x_12), (.int .i64 x_22), (.int .i64 x_32)] ∧
      (Calls Try.prog N_ref38_before #[(.agg #[.int .i64 x_01, .int .i64 x_11, .int .i64 x_21, .int .i64 x_31]), (.agg #[.int .i64 x_02, .int .i64 x_12, .int .i64 x_22, .int .i64 x_32])] w3 fun e_ w4 =>
      ∃ r : Bool, e_ = .returned (.bool r) ∧
      (KeepsB S w3 w4 ∧ (bsplit r
        ((kW .i64 (k + (1 : Int)) fun x =>
        ((I x).2 w4 ∧ (I x).1 < (I k).1)))
        (J k w4))))))))
      (J k w3))))))))
theorem F_ref38_put_eq (l_a : Option Addr) (l_l : Nat) (l_c : Nat) (x_0 : Int) (x_1 : Int) (x_2 : Int) (x_3 : Int) (w : World) (R : Value → World → Prop) : sxFn Try.prog TT h_ref38_put Try.f33 #[(.slice l_a l_l l_c), (.agg #[.int .i64 x_0, .int .i64 x_1, .int .i64 x_2, .int .i64 x_3])] w R = F_ref38_put l_a l_l l_c x_0 x_1 x_2 x_3 w R := by kernel_rfl
theorem F_ref38_put_ok {R : Ending → World → Prop} (l_a : Option Addr) (l_l : Nat) (l_c : Nat) (x_0 : Int) (x_1 : Int) (x_2 : Int) (x_3 : Int) (w : World) (h : F_ref38_put l_a l_l l_c x_0 x_1 x_2 x_3 w fun v w' => R (.returned v) w') : Calls Try.prog N_ref38_put #[(.slice l_a l_l l_c), (.agg #[.int .i64 x_0, .int .i64 x_1, .int .i64 x_2, .int .i64 x_3])] w R :=
  calls_of (f := 33) follows_ok Try.func33 (Eq.mpr (F_ref38_put_eq l_a l_l l_c x_0 x_1 x_2 x_3 w _) h)

def h_access_order : H := (.seq .reg (.seq (.draw .blk (.one 0 .pre (.one 1 .pre (.one 2 .pre (.one 3 .pre (.one 5 .stable (.one 6 .stable (.one 7 .stable (.one 8 .stable (.one 4 .keep (.one 9 .keep (.one 10 .keep (.one 11 .keep (.one 12 .stable .nil)))))))))))))) .leaf))
def F_access_order (a_0 : Int) (a_1 : Int) (a_2 : Int) (a_3 : Int) (b_0 : Int) (b_1 : Int) (b_2 : Int) (b_3 : Int) (w : World) (R : Value → World → Prop) : Prop :=
  (kAlloc w #[(.int .i64 a_0), (.int .i64 a_1), (.int .i64 a_2), (.int .i64 a_3)] Ty_api_Attempt fun b w1 =>
  (kAlloc w1 #[(.int .i64 b_0), (.int .i64 b_1), (.int .i64 b_2), (.int .i64 b_3)] Ty_api_Attempt fun b1 w2 =>
  (kDrew w2 fun w3 =>
  (∃ S : Nat → Prop,
  (kLd w3 ⟨b, 2, none⟩ .i64 fun x =>
  (kLd w3 ⟨b1, 2, none⟩ .i64 fun x1 =>
  (S b ∧
  (kLd w3 ⟨b, 0, none⟩ .i64 fun x2 =>
  (S b1 ∧
  (kLd w3 ⟨b1, 0, none⟩ .i64 fun x3 =>
  (Calls Try.prog N_cmp_Compare_int #[(.int .i64 x), (.int .i64 x1)] w3 fun e_ w4 =>
  ∃ r : Int, e_ = .returned (.int .i64 r) ∧
  (KeepsB S w3 w4 ∧ (Calls Try.prog N_cmp_Compare_int #[(.int .i64 x2), (.int .i64 x3)] w4 fun e_1 w5 =>
  ∃ r1 : Int, e_1 = .returned (.int .i64 r1) ∧
  (KeepsB S w3 w5 ∧ (kAlloc w5 #[(.int .i64 r), (.int .i64 r1)] Ty_int fun b2 w6 =>
  (KeepsB S w3 w6 ∧ (Calls Try.prog N_cmp_Or_int #[(.slice (some ⟨b2, 0, none⟩) 2 2)] w6 fun e_2 w7 =>
  ∃ r2 : Int, e_2 = .returned (.int .i64 r2) ∧
  (KeepsB S w3 w7 ∧ R (.int .i64 r2) w7))))))))))))))))))
theorem F_access_order_eq (a_0 : Int) (a_1 : Int) (a_2 : Int) (a_3 : Int) (b_0 : Int) (b_1 : Int) (b_2 : Int) (b_3 : Int) (w : World) (R : Value → World → Prop) : sxFn Try.prog TT h_access_order Try.f34 #[(.agg #[.int .i64 a_0, .int .i64 a_1, .int .i64 a_2, .int .i64 a_3]), (.agg #[.int .i64 b_0, .int .i64 b_1, .int .i64 b_2, .int .i64 b_3])] w R = F_access_order a_0 a_1 a_2 a_3 b_0 b_1 b_2 b_3 w R := by kernel_rfl
theorem F_access_order_ok {R : Ending → World → Prop} (a_0 : Int) (a_1 : Int) (a_2 : Int) (a_3 : Int) (b_0 : Int) (b_1 : Int) (b_2 : Int) (b_3 : Int) (w : World) (h : F_access_order a_0 a_1 a_2 a_3 b_0 b_1 b_2 b_3 w fun v w' => R (.returned v) w') : Calls Try.prog N_access_order #[(.agg #[.int .i64 a_0, .int .i64 a_1, .int .i64 a_2, .int .i64 a_3]), (.agg #[.int .i64 b_0, .int .i64 b_1, .int .i64 b_2, .int .i64 b_3])] w R :=
  calls_of (f := 34) follows_ok Try.func34 (Eq.mpr (F_access_order_eq a_0 a_1 a_2 a_3 b_0 b_1 b_2 b_3 w _) h)

def h_slices_IndexFunc_Sapi_Attempt_api_Attempt : H := (.seq .reg (.seq (.seq .reg (.block (.loop [(8, .p (.int .i64))] [4, 5, 8, 9, 10, 11, 12, 13, 14, 15, 16, 17, 18] (.seq .reg (.seq (.cond .leaf .leaf) (.seq (.block (.seq .reg (.seq .reg (.cond (.seq .reg .leaf) .leaf)))) .reg)))))) (.seq .reg .leaf)))
def F_slices_IndexFunc_Sapi_Attempt_api_Attempt (s_a : Option Addr) (s_l : Nat) (_ : Nat) (f_g : Nat) (f_f : Array Value) (f_c : Array Value) (w : World) (R : Value → World → Prop) : Prop :=
  (∃ I : Int → Nat × (World → Prop), (I (0 : Int)).2 w ∧
  (∀ (_junk : Env) (x : Int) (w1 : World), (I x).2 w1 →
    (bsplit (decide (x < (s_l : Int)))
      ((kIx s_a s_l x fun b =>
      (∃ x_0 x_1 x_2 x_3 : Int, cellsAt w1 (b.add (x.toNat * 4)) 0 [(.int .i64 x_0), (.int .i64 x_1), (.int .i64 x_2), (.int .i64 x_3)] ∧
      (okFn Try.prog f_g = true ∧ Calls Try.prog f_g (f_f ++ #[(.agg #[.int .i64 x_0, .int .i64 x_1, .int .i64 x_2, .int .i64 x_3])] ++ f_c) w1 fun e_ w2 =>
      ∃ r : Bool, e_ = .returned (.bool r) ∧
      (bsplit r
        (R (.int .i64 x) w2)
        ((kW .i64 (x + (1 : Int)) fun x1 =>
        ((I x1).2 w2 ∧ (I x1).1 < (I x).1))))))))
      (R (.int .i64 (-1 : Int)) w1))))
theorem F_slices_IndexFunc_Sapi_Attempt_api_Attempt_eq (s_a : Option Addr) (s_l : Nat) (s_c : Nat) (f_g : Nat) (f_f : Array Value) (f_c : Array Value) (w : World) (R : Value → World → Prop) : sxFn Try.prog TT h_slices_IndexFunc_Sapi_Attempt_api_Attempt Try.f35 #[(.slice s_a s_l s_c), (.func (.func f_g) f_f f_c)] w R = F_slices_IndexFunc_Sapi_Attempt_api_Attempt s_a s_l s_c f_g f_f f_c w R := by kernel_rfl
theorem F_slices_IndexFunc_Sapi_Attempt_api_Attempt_ok {R : Ending → World → Prop} (s_a : Option Addr) (s_l : Nat) (s_c : Nat) (f_g : Nat) (f_f : Array Value) (f_c : Array Value) (w : World) (h : F_slices_IndexFunc_Sapi_Attempt_api_Attempt s_a s_l s_c f_g f_f f_c w fun v w' => R (.returned v) w') : Calls Try.prog N_slices_IndexFunc_Sapi_Attempt_api_Attempt #[(.slice s_a s_l s_c), (.func (.func f_g) f_f f_c)] w R :=
  calls_of (f := 35) follows_ok Try.func35 (Eq.mpr (F_slices_IndexFunc_Sapi_Attempt_api_Attempt_eq s_a s_l s_c f_g f_f f_c w _) h)

def h_access_find_1 : H := (.seq .reg (.seq .reg .leaf))
def F_access_find_1 (x_0 : Int) (x_1 : Int) (x_2 : Int) (x_3 : Int) (cap0_b : Nat) (cap0_o : Nat) (w : World) (R : Value → World → Prop) : Prop :=
  (kAlloc w #[(.int .i64 x_0), (.int .i64 x_1), (.int .i64 x_2), (.int .i64 x_3)] Ty_api_Attempt fun b w1 =>
  (kLd w1 ⟨b, 0, none⟩ .i64 fun x =>
  (kLd w1 ⟨cap0_b, cap0_o, none⟩ .i64 fun x1 =>
  (kLet (decide (x = x1)) fun x2 =>
  R (.bool x2) w1))))
theorem F_access_find_1_eq (x_0 : Int) (x_1 : Int) (x_2 : Int) (x_3 : Int) (cap0_b : Nat) (cap0_o : Nat) (w : World) (R : Value → World → Prop) : sxFn Try.prog TT h_access_find_1 Try.f36 #[(.agg #[.int .i64 x_0, .int .i64 x_1, .int .i64 x_2, .int .i64 x_3]), (.pointer (some ⟨cap0_b, cap0_o, none⟩))] w R = F_access_find_1 x_0 x_1 x_2 x_3 cap0_b cap0_o w R := by kernel_rfl
theorem F_access_find_1_ok {R : Ending → World → Prop} (x_0 : Int) (x_1 : Int) (x_2 : Int) (x_3 : Int) (cap0_b : Nat) (cap0_o : Nat) (w : World) (h : F_access_find_1 x_0 x_1 x_2 x_3 cap0_b cap0_o w fun v w' => R (.returned v) w') : Calls Try.prog N_access_find_1 #[(.agg #[.int .i64 x_0, .int .i64 x_1, .int .i64 x_2, .int .i64 x_3]), (.pointer (some ⟨cap0_b, cap0_o, none⟩))] w R :=
  calls_of (f := 36) follows_ok Try.func36 (Eq.mpr (F_access_find_1_eq x_0 x_1 x_2 x_3 cap0_b cap0_o w _) h)

def h_slices_BinarySearchFunc_Sapi_Attempt_api_Attempt_api_Attempt : H := (.seq .reg (.seq .reg (.seq .reg (.seq (.block (.loop [(9, .p (.int .i64)), (10, .p (.int .i64))] [9, 10, 11, 15, 16, 17, 18, 19, 20, 21, 22, 23, 24, 25, 26, 27, 28, 29, 30, 31, 32, 33, 34] (.seq (.seq .reg (.cond .leaf .leaf)) (.block (.seq .reg (.seq (.draw .blk (.one 0 .pre (.one 1 .pre (.one 2 .pre (.one 3 .pre (.one 4 .pre (.one 5 .pre (.one 6 .keep (.one 7 .stable .nil))))))))) (.cond .reg .reg))))))) (.seq (.draw .blk (.one 0 .stable (.one 1 .pre (.one 2 .pre (.one 3 .pre (.one 4 .pre (.one 5 .pre (.one 6 .pre (.one 7 .pre (.one 8 .pre (.one 9 .pre (.one 10 .pre (.one 11 .keep (.one 12 .stable (.one 13 .stable (.one 14 .stable (.one 15 .stable .nil))))))))))))))))) .leaf)))))
def F_slices_BinarySearchFunc_Sapi_Attempt_api_Attempt_api_Attempt (x_a : Option Addr) (x_l : Nat) (_ : Nat) (target_0 : Int) (target_1 : Int) (target_2 : Int) (target_3 : Int) (cmp_g : Nat) (cmp_f : Array Value) (cmp_c : Array Value) (w : World) (R : Value → World → Prop) : Prop :=
  (kAlloc w #[(.int .i64 target_0), (.int .i64 target_1), (.int .i64 target_2), (.int .i64 target_3)] Ty_api_Attempt fun b w1 =>
  (∃ I : Int → Int → Nat × (World → Prop), (I (0 : Int) (x_l : Int)).2 w1 ∧
  (∀ (_junk : Env) (i : Int) (j : Int) (w2 : World), (I i j).2 w2 →
    (bsplit (decide (i < j))
      ((kW .i64 (i + j) fun x =>
      (kW .u64 (x) fun x1 =>
      (kLet (Int.fdiv x1 (2 ^ 1)) fun x2 =>
      (kW .i64 (x2) fun x3 =>
      (kDrew w2 fun w3 =>
      (∃ S : Nat → Prop,
      (kIx x_a x_l x3 fun b1 =>
      (∃ x_0 x_1 x_2 x_3 : Int, cellsAt w3 (b1.add (x3.toNat * 4)) 0 [(.int .i64 x_0), (.int .i64 x_1), (.int .i64 x_2), (.int .i64 x_3)] ∧
      (∃ x_01 x_11 x_21 x_31 : Int, cellsAt w3 ⟨b, 0, none⟩ 0 [(.int .i64 x_01), (.int .i64 x_11), (.int .i64 x_21), (.int .i64 x_31)] ∧
      (okFn Try.prog cmp_g = true ∧ Calls Try.prog cmp_g (cmp_f ++ #[(.agg #[.int .i64 x_0, .int .i64 x_1, .int .i64 x_2, .int .i64 x_3]), (.agg #[.int .i64 x_01, .int .i64 x_11, .int .i64 x_21, .int .i64 x_31])] ++ cmp_c) w3 fun e_ w4 =>
      ∃ r : Int, e_ = .returned (.int .i64 r) ∧
      (KeepsB S w3 w4 ∧ (bsplit (decide (r < (0 : Int)))
        ((kW .i64 (x3 + (1 : Int)) fun x4 =>
        ((I x4 j).2 w4 ∧ (I x4 j).1 < (I i j).1)))
        (((I i x3).2 w4 ∧ (I i x3).1 < (I i j).1)))))))))))))))
      ((kDrew w2 fun w5 =>
      (∃ S1 : Nat → Prop,
      (bsplit (decide (i < (x_l : Int)))
        ((kIx x_a x_l i fun b2 =>
        (∃ x_02 x_12 x_22 x_32 : Int, cellsAt w5 (b2.add (i.toNat * 4)) 0 [(.int .i64 x_02), (.int .i64 x_12), (.int .i64 x_22), (.int .i64 x_32)] ∧
        (∃ x_03 x_13 x_23 x_33 : Int, cellsAt w5 ⟨b, 0, none⟩ 0 [(.int .i64 x_03), (.int .i64 x_13), (.int .i64 x_23), (.int .i64 x_33)] ∧
        (okFn Try.prog cmp_g = true ∧ Calls Try.prog cmp_g (cmp_f ++ #[(.agg #[.int .i64 x_02, .int .i64 x_12, .int .i64 x_22, .int .i64 x_32]), (.agg #[.int .i64 x_03, .int .i64 x_13, .int .i64 x_23, .int .i64 x_33])] ++ cmp_c) w5 fun e_1 w6 =>
        ∃ r1 : Int, e_1 = .returned (.int .i64 r1) ∧
        (KeepsB S1 w5 w6 ∧ (kLet (decide (r1 = (0 : Int))) fun x5 =>
        R (.tuple #[(.int .i64 i), (.bool x5)]) w6)))))))
        (R (.tuple #[(.int .i64 i), (.bool false)]) w5)))))))))
theorem F_slices_BinarySearchFunc_Sapi_Attempt_api_Attempt_api_Attempt_eq (x_a : Option Addr) (x_l : Nat) (x_c : Nat) (target_0 : Int) (target_1 : Int) (target_2 : Int) (target_3 : Int) (cmp_g : Nat) (cmp_f : Array Value) (cmp_c : Array Value) (w : World) (R : Value → World → Prop) : sxFn Try.prog TT h_slices_BinarySearchFunc_Sapi_Attempt_api_Attempt_api_Attempt Try.f37 #[(.slice x_a x_l x_c), (.agg #[.int .i64 target_0, .int .i64 target_1, .int .i64 target_2, .int .i64 target_3]), (.func (.func cmp_g) cmp_f cmp_c)] w R = F_slices_BinarySearchFunc_Sapi_Attempt_api_Attempt_api_Attempt x_a x_l x_c target_0 target_1 target_2 target_3 cmp_g cmp_f cmp_c w R := by kernel_rfl
theorem F_slices_BinarySearchFunc_Sapi_Attempt_api_Attempt_api_Attempt_ok {R : Ending → World → Prop} (x_a : Option Addr) (x_l : Nat) (x_c : Nat) (target_0 : Int) (target_1 : Int) (target_2 : Int) (target_3 : Int) (cmp_g : Nat) (cmp_f : Array Value) (cmp_c : Array Value) (w : World) (h : F_slices_BinarySearchFunc_Sapi_Attempt_api_Attempt_api_Attempt x_a x_l x_c target_0 target_1 target_2 target_3 cmp_g cmp_f cmp_c w fun v w' => R (.returned v) w') : Calls Try.prog N_slices_BinarySearchFunc_Sapi_Attempt_api_Attempt_api_Attempt #[(.slice x_a x_l x_c), (.agg #[.int .i64 target_0, .int .i64 target_1, .int .i64 target_2, .int .i64 target_3]), (.func (.func cmp_g) cmp_f cmp_c)] w R :=
  calls_of (f := 37) follows_ok Try.func37 (Eq.mpr (F_slices_BinarySearchFunc_Sapi_Attempt_api_Attempt_api_Attempt_eq x_a x_l x_c target_0 target_1 target_2 target_3 cmp_g cmp_f cmp_c w _) h)

def h_slices_Insert_Sapi_Attempt_api_Attempt : H := (.seq .reg (.seq .reg (.seq .reg (.seq (.seq .reg (.cond (.seq .reg .leaf) .leaf)) (.seq .reg (.seq (.seq .reg (.cond (.seq .reg .leaf) .leaf)) (.seq (.seq .reg (.cond (.seq .reg (.seq .reg (.seq (.draw .no (.one 0 .pre (.one 1 .pre (.one 2 .pre (.one 3 .pre (.one 4 .pre (.one 5 .pre (.one 6 .pre (.one 7 .pre (.one 8 .last .nil)))))))))) (.seq .reg .leaf)))) .leaf)) (.seq .reg (.seq (.seq .reg (.cond (.seq (.draw .no (.one 0 .pre (.one 1 .pre (.one 2 .pre (.one 3 .pre (.one 4 .pre (.one 5 .pre (.one 6 .pre (.one 7 .pre (.one 8 .last .nil)))))))))) (.seq .reg (.seq .reg .leaf))) .leaf)) (.seq .reg (.seq .reg (.seq .reg .leaf))))))))))))
def F_slices_Insert_Sapi_Attempt_api_Attempt (s_a : Option Addr) (s_l : Nat) (s_c : Nat) (i : Int) (v_a : Option Addr) (v_l : Nat) (v_c : Nat) (w : World) (R : Value → World → Prop) : Prop :=
  ((0 ≤ i ∧ i ≤ ((s_l : Nat) : Int)) ∧ (bsplit (decide ((v_l : Int) = (0 : Int)))
    (R (.slice s_a s_l s_c) w)
    ((bsplit (decide (i = (s_l : Int)))
      ((AppP Try.prog #[Ty_S_api_Attempt, Ty_S_api_Attempt] Ty_S_api_Attempt #[(.slice s_a s_l s_c), (.slice v_a v_l v_c)] w fun x_a x_l x_c w1 =>
      R (.slice x_a x_l x_c) w1))
      ((kW .i64 ((s_l : Int) + (v_l : Int)) fun x =>
      (bsplit (decide (x > (s_c : Int)))
        (((0 ≤ i ∧ i ≤ ((s_c : Nat) : Int)) ∧ (kW .i64 ((s_l : Int) + (v_l : Int)) fun x1 =>
        (kW .i64 (x1 - i) fun x2 =>
        (AppP Try.prog #[Ty_S_api_Attempt, Ty_int] Ty_S_api_Attempt #[(.slice (slAddr s_c 0 4 s_a) (i.toNat - 0) (s_c - 0)), (.int .i64 x2)] w fun x_a1 x_l1 x_c1 w2 =>
        ((0 ≤ i ∧ i ≤ ((x_l1 : Nat) : Int)) ∧ (CopyP Try.prog #[Ty_S_api_Attempt, Ty_S_api_Attempt] Ty_int #[(.slice (slAddr x_c1 (i.toNat) 4 x_a1) (x_l1 - i.toNat) (x_c1 - i.toNat)), (.slice v_a v_l v_c)] w2 fun _ w3 =>
        (kDrew w3 fun w4 =>
        (kW .i64 (i + (v_l : Int)) fun x3 =>
        ((0 ≤ x3 ∧ x3 ≤ ((x_l1 : Nat) : Int)) ∧ ((0 ≤ i ∧ i ≤ ((s_l : Nat) : Int)) ∧ (CopyP Try.prog #[Ty_S_api_Attempt, Ty_S_api_Attempt] Ty_int #[(.slice (slAddr x_c1 (x3.toNat) 4 x_a1) (x_l1 - x3.toNat) (x_c1 - x3.toNat)), (.slice (slAddr s_c (i.toNat) 4 s_a) (s_l - i.toNat) (s_c - i.toNat))] w4 fun _ w5 =>
        R (.slice x_a1 x_l1 x_c1) w5))))))))))))
        ((kW .i64 ((s_l : Int) + (v_l : Int)) fun x4 =>
        ((0 ≤ x4 ∧ x4 ≤ ((s_c : Nat) : Int)) ∧ (kW .i64 (i + (v_l : Int)) fun x5 =>
        ((0 ≤ x5 ∧ x5 ≤ (((x4.toNat - 0) : Nat) : Int)) ∧ (ExtC Try.prog N_slices_overlaps_api_Attempt #[(.slice v_a v_l v_c), (.slice (slAddr (s_c - 0) (x5.toNat) 4 (slAddr s_c 0 4 s_a)) ((x4.toNat - 0) - x5.toNat) ((s_c - 0) - x5.toNat))] w fun e_ w6 =>
        ∃ r : Bool, e_ = .returned (.bool r) ∧
        (bsplit (!r)
          ((kDrew w6 fun w7 =>
          (kW .i64 (i + (v_l : Int)) fun x6 =>
          ((0 ≤ x6 ∧ x6 ≤ (((x4.toNat - 0) : Nat) : Int)) ∧ ((0 ≤ i ∧ i ≤ (((x4.toNat - 0) : Nat) : Int)) ∧ (CopyP Try.prog #[Ty_S_api_Attempt, Ty_S_api_Attempt] Ty_int #[(.slice (slAddr (s_c - 0) (x6.toNat) 4 (slAddr s_c 0 4 s_a)) ((x4.toNat - 0) - x6.toNat) ((s_c - 0) - x6.toNat)), (.slice (slAddr (s_c - 0) (i.toNat) 4 (slAddr s_c 0 4 s_a)) ((x4.toNat - 0) - i.toNat) ((s_c - 0) - i.toNat))] w7 fun _ w8 =>
          ((0 ≤ i ∧ i ≤ (((x4.toNat - 0) : Nat) : Int)) ∧ (CopyP Try.prog #[Ty_S_api_Attempt, Ty_S_api_Attempt] Ty_int #[(.slice (slAddr (s_c - 0) (i.toNat) 4 (slAddr s_c 0 4 s_a)) ((x4.toNat - 0) - i.toNat) ((s_c - 0) - i.toNat)), (.slice v_a v_l v_c)] w8 fun _ w9 =>
          R (.slice (slAddr s_c 0 4 s_a) (x4.toNat - 0) (s_c - 0)) w9))))))))
          (((0 ≤ (s_l : Int) ∧ (s_l : Int) ≤ (((x4.toNat - 0) : Nat) : Int)) ∧ (CopyP Try.prog #[Ty_S_api_Attempt, Ty_S_api_Attempt] Ty_int #[(.slice (slAddr (s_c - 0) ((s_l : Int).toNat) 4 (slAddr s_c 0 4 s_a)) ((x4.toNat - 0) - (s_l : Int).toNat) ((s_c - 0) - (s_l : Int).toNat)), (.slice v_a v_l v_c)] w6 fun _ w10 =>
          ((0 ≤ i ∧ i ≤ (((x4.toNat - 0) : Nat) : Int)) ∧ (Calls Try.prog N_slices_rotateRight_api_Attempt #[(.slice (slAddr (s_c - 0) (i.toNat) 4 (slAddr s_c 0 4 s_a)) ((x4.toNat - 0) - i.toNat) ((s_c - 0) - i.toNat)), (.int .i64 (v_l : Int))] w10 fun e_1 w11 =>
          e_1 = .returned (.tuple #[]) ∧
          R (.slice (slAddr s_c 0 4 s_a) (x4.toNat - 0) (s_c - 0)) w11)))))))))))))))))))
theorem F_slices_Insert_Sapi_Attempt_api_Attempt_eq (s_a : Option Addr) (s_l : Nat) (s_c : Nat) (i : Int) (v_a : Option Addr) (v_l : Nat) (v_c : Nat) (w : World) (R : Value → World → Prop) : sxFn Try.prog TT h_slices_Insert_Sapi_Attempt_api_Attempt Try.f38 #[(.slice s_a s_l s_c), (.int .i64 i), (.slice v_a v_l v_c)] w R = F_slices_Insert_Sapi_Attempt_api_Attempt s_a s_l s_c i v_a v_l v_c w R := by kernel_rfl
theorem F_slices_Insert_Sapi_Attempt_api_Attempt_ok {R : Ending → World → Prop} (s_a : Option Addr) (s_l : Nat) (s_c : Nat) (i : Int) (v_a : Option Addr) (v_l : Nat) (v_c : Nat) (w : World) (h : F_slices_Insert_Sapi_Attempt_api_Attempt s_a s_l s_c i v_a v_l v_c w fun v w' => R (.returned v) w') : Calls Try.prog N_slices_Insert_Sapi_Attempt_api_Attempt #[(.slice s_a s_l s_c), (.int .i64 i), (.slice v_a v_l v_c)] w R :=
  calls_of (f := 38) follows_ok Try.func38 (Eq.mpr (F_slices_Insert_Sapi_Attempt_api_Attempt_eq s_a s_l s_c i v_a v_l v_c w _) h)

def h_ref38_before : H := (.seq .reg (.seq .reg .leaf))
def F_ref38_before (a_0 : Int) (a_1 : Int) (a_2 : Int) (a_3 : Int) (b_0 : Int) (b_1 : Int) (b_2 : Int) (b_3 : Int) (w : World) (R : Value → World → Prop) : Prop :=
  (kAlloc w #[(.int .i64 a_0), (.int .i64 a_1), (.int .i64 a_2), (.int .i64 a_3)] Ty_api_Attempt fun b w1 =>
  (kAlloc w1 #[(.int .i64 b_0), (.int .i64 b_1), (.int .i64 b_2), (.int .i64 b_3)] Ty_api_Attempt fun b1 w2 =>
  (kLd w2 ⟨b, 2, none⟩ .i64 fun x =>
  (kLd w2 ⟨b1, 2, none⟩ .i64 fun x1 =>
  (bsplit (decide (x < x1))
    (R (.bool true) w2)
    ((kLd w2 ⟨b, 2, none⟩ .i64 fun x2 =>
    (kLd w2 ⟨b1, 2, none⟩ .i64 fun x3 =>
    (bsplit (decide (x2 = x3))
      ((kLd w2 ⟨b, 0, none⟩ .i64 fun x4 =>
      (kLd w2 ⟨b1, 0, none⟩ .i64 fun x5 =>
      (kLet (decide (x4 < x5)) fun x6 =>
      R (.bool x6) w2))))
      (R (.bool false) w2))))))))))
theorem F_ref38_before_eq (a_0 : Int) (a_1 : Int) (a_2 : Int) (a_3 : Int) (b_0 : Int) (b_1 : Int) (b_2 : Int) (b_3 : Int) (w : World) (R : Value → World → Prop) : sxFn Try.prog TT h_ref38_before Try.f39 #[(.agg #[.int .i64 a_0, .int .i64 a_1, .int .i64 a_2, .int .i64 a_3]), (.agg #[.int .i64 b_0, .int .i64 b_1, .int .i64 b_2, .int .i64 b_3])] w R = F_ref38_before a_0 a_1 a_2 a_3 b_0 b_1 b_2 b_3 w R := by kernel_rfl
theorem F_ref38_before_ok {R : Ending → World → Prop} (a_0 : Int) (a_1 : Int) (a_2 : Int) (a_3 : Int) (b_0 : Int) (b_1 : Int) (b_2 : Int) (b_3 : Int) (w : World) (h : F_ref38_before a_0 a_1 a_2 a_3 b_0 b_1 b_2 b_3 w fun v w' => R (.returned v) w') : Calls Try.prog N_ref38_before #[(.agg #[.int .i64 a_0, .int .i64 a_1, .int .i64 a_2, .int .i64 a_3]), (.agg #[.int .i64 b_0, .int .i64 b_1, .int .i64 b_2, .int .i64 b_3])] w R :=
  calls_of (f := 39) follows_ok Try.func39 (Eq.mpr (F_ref38_before_eq a_0 a_1 a_2 a_3 b_0 b_1 b_2 b_3 w _) h)

def h_slices_Delete_Sapi_Attempt_api_Attempt : H := (.seq .reg (.seq .reg (.seq (.seq .reg (.cond (.seq .reg .leaf) .leaf)) (.seq .reg (.seq (.draw .blk (.one 0 .pre (.one 1 .pre (.one 2 .pre (.one 3 .pre (.one 4 .pre (.one 5 .pre (.one 6 .keep (.one 7 .stable .nil))))))))) (.seq .reg (.seq .reg .leaf)))))))
def F_slices_Delete_Sapi_Attempt_api_Attempt (s_a : Option Addr) (s_l : Nat) (s_c : Nat) (i : Int) (j : Int) (w : World) (R : Value → World → Prop) : Prop :=
  ((0 ≤ (s_l : Int) ∧ (s_l : Int) ≤ ((s_c : Nat) : Int)) ∧ ((0 ≤ j ∧ j ≤ (((s_l : Int).toNat : Nat) : Int)) ∧ ((0 ≤ i ∧ i ≤ ((j.toNat : Nat) : Int)) ∧ (bsplit (decide (i = j))
    (R (.slice s_a s_l s_c) w)
    ((kDrew w fun w1 =>
    (∃ S : Nat → Prop,
    ((0 ≤ i ∧ i ≤ ((s_c : Nat) : Int)) ∧ ((0 ≤ j ∧ j ≤ ((s_l : Nat) : Int)) ∧ (AppP Try.prog #[Ty_S_api_Attempt, Ty_S_api_Attempt] Ty_S_api_Attempt #[(.slice (slAddr s_c 0 4 s_a) (i.toNat - 0) (s_c - 0)), (.slice (slAddr s_c (j.toNat) 4 s_a) (s_l - j.toNat) (s_c - j.toNat))] w1 fun x_a x_l x_c w2 =>
    (KeepsB S w1 w2 ∧ ((0 ≤ (s_l : Int) ∧ (s_l : Int) ≤ ((x_c : Nat) : Int)) ∧ ((0 ≤ (x_l : Int) ∧ (x_l : Int) ≤ (((s_l : Int).toNat : Nat) : Int)) ∧ (ClearP Try.prog #[Ty_S_api_Attempt] Ty_unit #[(.slice (slAddr x_c ((x_l : Int).toNat) 4 x_a) ((s_l : Int).toNat - (x_l : Int).toNat) (x_c - (x_l : Int).toNat))] w2 fun w3 =>
    R (.slice x_a x_l x_c) w3))))))))))))))
theorem F_slices_Delete_Sapi_Attempt_api_Attempt_eq (s_a : Option Addr) (s_l : Nat) (s_c : Nat) (i : Int) (j : Int) (w : World) (R : Value → World → Prop) : sxFn Try.prog TT h_slices_Delete_Sapi_Attempt_api_Attempt Try.f40 #[(.slice s_a s_l s_c), (.int .i64 i), (.int .i64 j)] w R = F_slices_Delete_Sapi_Attempt_api_Attempt s_a s_l s_c i j w R := by kernel_rfl
theorem F_slices_Delete_Sapi_Attempt_api_Attempt_ok {R : Ending → World → Prop} (s_a : Option Addr) (s_l : Nat) (s_c : Nat) (i : Int) (j : Int) (w : World) (h : F_slices_Delete_Sapi_Attempt_api_Attempt s_a s_l s_c i j w fun v w' => R (.returned v) w') : Calls Try.prog N_slices_Delete_Sapi_Attempt_api_Attempt #[(.slice s_a s_l s_c), (.int .i64 i), (.int .i64 j)] w R :=
  calls_of (f := 40) follows_ok Try.func40 (Eq.mpr (F_slices_Delete_Sapi_Attempt_api_Attempt_eq s_a s_l s_c i j w _) h)

def h_cmp_Or_int : H := (.seq .reg (.seq .reg (.seq (.seq .reg (.block (.loop [(8, .p (.int .i64))] [2, 5, 8, 9, 10, 11, 12, 13, 14, 15, 16] (.seq .reg (.seq (.cond .leaf .leaf) (.seq (.block (.seq .reg (.seq .reg (.cond (.seq .reg .leaf) .leaf)))) .reg)))))) (.seq .reg .leaf))))
def F_cmp_Or_int (vals_a : Option Addr) (vals_l : Nat) (_ : Nat) (w : World) (R : Value → World → Prop) : Prop :=
  (∃ I : Int → Nat × (World → Prop), (I (0 : Int)).2 w ∧
  (∀ (_junk : Env) (x : Int) (w1 : World), (I x).2 w1 →
    (bsplit (decide (x < (vals_l : Int)))
      ((kIx vals_a vals_l x fun b =>
      (kLd w1 (b.add (x.toNat * 1)) .i64 fun x1 =>
      (bsplit (!decide (x1 = (0 : Int)))
        (R (.int .i64 x1) w1)
        ((kW .i64 (x + (1 : Int)) fun x2 =>
        ((I x2).2 w1 ∧ (I x2).1 < (I x).1)))))))
      (R (.int .i64 (0 : Int)) w1))))
theorem F_cmp_Or_int_eq (vals_a : Option Addr) (vals_l : Nat) (vals_c : Nat) (w : World) (R : Value → World → Prop) : sxFn Try.prog TT h_cmp_Or_int Try.f41 #[(.slice vals_a vals_l vals_c)] w R = F_cmp_Or_int vals_a vals_l vals_c w R := by kernel_rfl
theorem F_cmp_Or_int_ok {R : Ending → World → Prop} (vals_a : Option Addr) (vals_l : Nat) (vals_c : Nat) (w : World) (h : F_cmp_Or_int vals_a vals_l vals_c w fun v w' => R (.returned v) w') : Calls Try.prog N_cmp_Or_int #[(.slice vals_a vals_l vals_c)] w R :=
  calls_of (f := 41) follows_ok Try.func41 (Eq.mpr (F_cmp_Or_int_eq vals_a vals_l vals_c w _) h)

def h_cmp_Compare_int : H := (.seq .reg (.seq .reg (.seq .reg (.seq (.seq .reg (.cond (.seq (.seq .reg (.cond (.seq .reg .leaf) .leaf)) (.seq .reg .leaf)) .leaf)) (.seq (.seq .reg (.cond (.seq .reg .leaf) .leaf)) (.seq (.seq .reg (.cond (.seq .reg .leaf) .leaf)) (.seq (.seq .reg (.cond (.seq .reg .leaf) .leaf)) (.seq .reg .leaf))))))))
def F_cmp_Compare_int (x : Int) (y : Int) (w : World) (R : Value → World → Prop) : Prop :=
  (Calls Try.prog N_cmp_isNaN_int #[(.int .i64 x)] w fun e_ w1 =>
  ∃ r : Bool, e_ = .returned (.bool r) ∧
  (Calls Try.prog N_cmp_isNaN_int #[(.int .i64 y)] w1 fun e_1 w2 =>
  ∃ r1 : Bool, e_1 = .returned (.bool r1) ∧
  (bsplit r
    ((bsplit r1
      (R (.int .i64 (0 : Int)) w2)
      (R (.int .i64 (-1 : Int)) w2)))
    ((bsplit r1
      (R (.int .i64 (1 : Int)) w2)
      ((bsplit (decide (x < y))
        (R (.int .i64 (-1 : Int)) w2)
        ((bsplit (decide (x > y))
          (R (.int .i64 (1 : Int)) w2)
          (R (.int .i64 (0 : Int)) w2))))))))))
theorem F_cmp_Compare_int_eq (x : Int) (y : Int) (w : World) (R : Value → World → Prop) : sxFn Try.prog TT h_cmp_Compare_int Try.f42 #[(.int .i64 x), (.int .i64 y)] w R = F_cmp_Compare_int x y w R := by kernel_rfl
theorem F_cmp_Compare_int_ok {R : Ending → World → Prop} (x : Int) (y : Int) (w : World) (h : F_cmp_Compare_int x y w fun v w' => R (.returned v) w') : Calls Try.prog N_cmp_Compare_int #[(.int .i64 x), (.int .i64 y)] w R :=
  calls_of (f := 42) follows_ok Try.func42 (Eq.mpr (F_cmp_Compare_int_eq x y w _) h)

def h_slices_rotateRight_api_Attempt : H := .reg
def F_slices_rotateRight_api_Attempt (s_a : Option Addr) (s_l : Nat) (s_c : Nat) (r : Int) (w : World) (R : Value → World → Prop) : Prop :=
  (kW .i64 ((s_l : Int) - r) fun x =>
  (Calls Try.prog N_slices_rotateLeft_api_Attempt #[(.slice s_a s_l s_c), (.int .i64 x)] w fun e_ w1 =>
  e_ = .returned (.tuple #[]) ∧
  R (.tuple #[]) w1))
theorem F_slices_rotateRight_api_Attempt_eq (s_a : Option Addr) (s_l : Nat) (s_c : Nat) (r : Int) (w : World) (R : Value → World → Prop) : sxFn Try.prog TT h_slices_rotateRight_api_Attempt Try.f44 #[(.slice s_a s_l s_c), (.int .i64 r)] w R = F_slices_rotateRight_api_Attempt s_a s_l s_c r w R := by kernel_rfl
theorem F_slices_rotateRight_api_Attempt_ok {R : Ending → World → Prop} (s_a : Option Addr) (s_l : Nat) (s_c : Nat) (r : Int) (w : World) (h : F_slices_rotateRight_api_Attempt s_a s_l s_c r w fun v w' => R (.returned v) w') : Calls Try.prog N_slices_rotateRight_api_Attempt #[(.slice s_a s_l s_c), (.int .i64 r)] w R :=
  calls_of (f := 44) follows_ok Try.func44 (Eq.mpr (F_slices_rotateRight_api_Attempt_eq s_a s_l s_c r w _) h)

def h_cmp_isNaN_int : H := (.seq .reg (.seq .reg .leaf))
def F_cmp_isNaN_int (x : Int) (w : World) (R : Value → World → Prop) : Prop :=
  (kLet (!decide (x = x)) fun x1 =>
  R (.bool x1) w)
theorem F_cmp_isNaN_int_eq (x : Int) (w : World) (R : Value → World → Prop) : sxFn Try.prog TT h_cmp_isNaN_int Try.f45 #[(.int .i64 x)] w R = F_cmp_isNaN_int x w R := by kernel_rfl
theorem F_cmp_isNaN_int_ok {R : Ending → World → Prop} (x : Int) (w : World) (h : F_cmp_isNaN_int x w fun v w' => R (.returned v) w') : Calls Try.prog N_cmp_isNaN_int #[(.int .i64 x)] w R :=
  calls_of (f := 45) follows_ok Try.func45 (Eq.mpr (F_cmp_isNaN_int_eq x w _) h)

def h_slices_rotateLeft_api_Attempt : H := (.seq .reg (.seq .reg .reg))
def F_slices_rotateLeft_api_Attempt (s_a : Option Addr) (s_l : Nat) (s_c : Nat) (r : Int) (w : World) (R : Value → World → Prop) : Prop :=
  ((0 ≤ r ∧ r ≤ ((s_c : Nat) : Int)) ∧ (Calls Try.prog N_slices_Reverse_Sapi_Attempt_api_Attempt #[(.slice (slAddr s_c 0 4 s_a) (r.toNat - 0) (s_c - 0))] w fun e_ w1 =>
  e_ = .returned (.tuple #[]) ∧
  ((0 ≤ r ∧ r ≤ ((s_l : Nat) : Int)) ∧ (Calls Try.prog N_slices_Reverse_Sapi_Attempt_api_Attempt #[(.slice (slAddr s_c (r.toNat) 4 s_a) (s_l - r.toNat) (s_c - r.toNat))] w1 fun e_1 w2 =>
  e_1 = .returned (.tuple #[]) ∧
  (Calls Try.prog N_slices_Reverse_Sapi_Attempt_api_Attempt #[(.slice s_a s_l s_c)] w2 fun e_2 w3 =>
  e_2 = .returned (.tuple #[]) ∧
  R (.tuple #[]) w3)))))
theorem F_slices_rotateLeft_api_Attempt_eq (s_a : Option Addr) (s_l : Nat) (s_c : Nat) (r : Int) (w : World) (R : Value → World → Prop) : sxFn Try.prog TT h_slices_rotateLeft_api_Attempt Try.f46 #[(.slice s_a s_l s_c), (.int .i64 r)] w R = F_slices_rotateLeft_api_Attempt s_a s_l s_c r w R := by kernel_rfl
theorem F_slices_rotateLeft_api_Attempt_ok {R : Ending → World → Prop} (s_a : Option Addr) (s_l : Nat) (s_c : Nat) (r : Int) (w : World) (h : F_slices_rotateLeft_api_Attempt s_a s_l s_c r w fun v w' => R (.returned v) w') : Calls Try.prog N_slices_rotateLeft_api_Attempt #[(.slice s_a s_l s_c), (.int .i64 r)] w R :=
  calls_of (f := 46) follows_ok Try.func46 (Eq.mpr (F_slices_rotateLeft_api_Attempt_eq s_a s_l s_c r w _) h)

def h_slices_Reverse_Sapi_Attempt_api_Attempt : H := (.seq .reg (.block (.loop [(2, .p (.int .i64)), (3, .p (.int .i64))] [2, 3, 7, 8, 9, 10, 11, 12, 13, 14, 15, 16, 17, 18, 19, 20, 21, 22, 23, 24, 25, 26, 27] (.seq (.seq .reg (.cond .leaf .leaf)) (.seq (.block (.draw .blk (.one 0 .pre (.one 1 .pre (.one 2 .stable (.one 3 .stable (.one 4 .pre (.one 5 .pre (.one 6 .pre (.one 7 .pre (.one 8 .pre (.one 9 .pre (.one 10 .pre (.one 11 .pre (.one 12 .pre (.one 13 .keep (.one 14 .stable (.one 15 .last .nil)))))))))))))))))) .reg)))))
def F_slices_Reverse_Sapi_Attempt_api_Attempt (s_a : Option Addr) (s_l : Nat) (_ : Nat) (w : World) (R : Value → World → Prop) : Prop :=
  (kW .i64 ((s_l : Int) - (1 : Int)) fun x =>
  (∃ I : Int → Int → Nat × (World → Prop), (I (0 : Int) x).2 w ∧
  (∀ (_junk : Env) (i : Int) (j : Int) (w1 : World), (I i j).2 w1 →
    (bsplit (decide (i < j))
      ((kDrew w1 fun w2 =>
      (∃ S : Nat → Prop,
      (kIx s_a s_l j fun b =>
      (∃ x_0 x_1 x_2 x_3 : Int, cellsAt w2 (b.add (j.toNat * 4)) 0 [(.int .i64 x_0), (.int .i64 x_1), (.int .i64 x_2), (.int .i64 x_3)] ∧
      (kIx s_a s_l i fun b1 =>
      (∃ x_01 x_11 x_21 x_31 : Int, cellsAt w2 (b1.add (i.toNat * 4)) 0 [(.int .i64 x_01), (.int .i64 x_11), (.int .i64 x_21), (.int .i64 x_31)] ∧
      (kIx s_a s_l i fun b2 =>
      (sxStore w2 (b2.add (i.toNat * 4)) 0 [(.int .i64 x_0), (.int .i64 x_1), (.int .i64 x_2), (.int .i64 x_3)] fun w3 =>
      (KeepsB S w2 w3 ∧ (kIx s_a s_l j fun b3 =>
      (sxStore w3 (b3.add (j.toNat * 4)) 0 [(.int .i64 x_01), (.int .i64 x_11), (.int .i64 x_21), (.int .i64 x_31)] fun w4 =>
      (kW .i64 (i + (1 : Int)) fun x1 =>
      (kW .i64 (j - (1 : Int)) fun x2 =>
      ((I x1 x2).2 w4 ∧ (I x1 x2).1 < (I i j).1)))))))))))))))
      (R (.tuple #[]) w1)))))
theorem F_slices_Reverse_Sapi_Attempt_api_Attempt_eq (s_a : Option Addr) (s_l : Nat) (s_c : Nat) (w : World) (R : Value → World → Prop) : sxFn Try.prog TT h_slices_Reverse_Sapi_Attempt_api_Attempt Try.f47 #[(.slice s_a s_l s_c)] w R = F_slices_Reverse_Sapi_Attempt_api_Attempt s_a s_l s_c w R := by kernel_rfl
theorem F_slices_Reverse_Sapi_Attempt_api_Attempt_ok {R : Ending → World → Prop} (s_a : Option Addr) (s_l : Nat) (s_c : Nat) (w : World) (h : F_slices_Reverse_Sapi_Attempt_api_Attempt s_a s_l s_c w fun v w' => R (.returned v) w') : Calls Try.prog N_slices_Reverse_Sapi_Attempt_api_Attempt #[(.slice s_a s_l s_c)] w R :=
  calls_of (f := 47) follows_ok Try.func47 (Eq.mpr (F_slices_Reverse_Sapi_Attempt_api_Attempt_eq s_a s_l s_c w _) h)

end Go.Proofs.Ytgmniohbnophdaa
