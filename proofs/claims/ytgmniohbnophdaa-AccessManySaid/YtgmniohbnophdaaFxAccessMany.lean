import Derived.Test.YtgmniohbnophdaaBase
import Derived.KernelRfl
namespace Go.Proofs.Ytgmniohbnophdaa
open Go.Sx Go.RowKit
set_option maxRecDepth 100000

def h_law38_AccessMany : H := (.seq .reg (.seq .reg (.seq .reg (.seq .reg (.seq (.seq .reg (.block (.loop [(10, .p (.int .i64))] [6, 10, 11, 12, 32, 33, 34, 35, 36, 37, 38, 39, 40, 41, 42, 43, 44, 45, 46, 47, 48] (.seq (.seq .reg (.cond .leaf .leaf)) (.seq (.block (.seq .reg (.seq (.seq .reg (.cond (.seq .reg .leaf) .leaf)) .reg))) .reg))))) (.seq .reg (.seq .reg (.seq .reg .leaf))))))))
def F_law38_AccessMany (first : Int) (preambles : Int) (many : Int) (w : World) (R : Value → World → Prop) : Prop :=
  (kW .i64 (preambles) fun x =>
  (kLet (Int.tmod x (16 : Int)) fun x1 =>
  (kW .i64 ((1 : Int) + x1) fun x2 =>
  (kW .i64 (many) fun x3 =>
  (x2 ≠ 0 ∧ (kLet (Int.tmod x3 x2) fun x4 =>
  (kW .i64 ((1 : Int) + x4) fun x5 =>
  (kAlloc w #[.int .i64 (0 : Int), .int .i64 (0 : Int), .int .i64 (0 : Int), .slice none 0 0] Ty_api_Access fun b w1 =>
  (sxStore w1 ⟨b, 0, none⟩ 0 [(.int .i64 x2), (.int .i64 (1 : Int)), (.int .i64 (3 : Int)), (.slice none 0 0)] fun w2 =>
  (∃ I : Int → Nat × (World → Prop), (I (0 : Int)).2 w2 ∧
  (∀ (_junk : Env) (i : Int) (w3 : World), (I i).2 w3 →
    (bsplit (decide (i < x5))
      ((∃ x_0 x_1 x_2 : Int, ∃ x_3_a : Option Addr, ∃ x_3_l x_3_c : Nat, cellsAt w3 ⟨b, 0, none⟩ 0 [(.int .i64 x_0), (.int .i64 x_1), (.int .i64 x_2), (.slice x_3_a x_3_l x_3_c)] ∧
      (kW .i64 (first) fun x6 =>
      (kW .i64 (x6 + i) fun x7 =>
      (Calls Try.prog N_access_Begin #[(.agg #[.int .i64 x_0, .int .i64 x_1, .int .i64 x_2, .slice x_3_a x_3_l x_3_c]), (.int .i64 x7), (.int .i64 (7 : Int))] w3 fun e_ w4 =>
      ∃ r_0 r_1 r_2 : Int, ∃ r_3_a : Option Addr, ∃ r_3_l r_3_c : Nat, ∃ r : Int, e_ = .returned (.tuple #[(.agg #[.int .i64 r_0, .int .i64 r_1, .int .i64 r_2, .slice r_3_a r_3_l r_3_c]), (.int .i64 r)]) ∧
      (kAlloc w4 #[.int .i64 (0 : Int), .int .i64 (0 : Int), .int .i64 (0 : Int), .slice none 0 0] Ty_api_Access fun b1 w5 =>
      (sxStore w5 ⟨b1, 0, none⟩ 0 [(.int .i64 r_0), (.int .i64 r_1), (.int .i64 r_2), (.slice r_3_a r_3_l r_3_c)] fun w6 =>
      (bsplit (!decide (r = (0 : Int)))
        (R (.bool false) w6)
        ((∃ x_01 x_11 x_21 : Int, ∃ x_3_a1 : Option Addr, ∃ x_3_l1 x_3_c1 : Nat, cellsAt w6 ⟨b1, 0, none⟩ 0 [(.int .i64 x_01), (.int .i64 x_11), (.int .i64 x_21), (.slice x_3_a1 x_3_l1 x_3_c1)] ∧
        (sxStore w6 ⟨b, 0, none⟩ 0 [(.int .i64 x_01), (.int .i64 x_11), (.int .i64 x_21), (.slice x_3_a1 x_3_l1 x_3_c1)] fun w7 =>
        (kW .i64 (i + (1 : Int)) fun x8 =>
        ((I x8).2 w7 ∧ (I x8).1 < (I i).1)))))))))))))
      ((∃ x_02 x_12 x_22 : Int, ∃ x_3_a2 : Option Addr, ∃ x_3_l2 x_3_c2 : Nat, cellsAt w3 ⟨b, 0, none⟩ 0 [(.int .i64 x_02), (.int .i64 x_12), (.int .i64 x_22), (.slice x_3_a2 x_3_l2 x_3_c2)] ∧
      (Calls Try.prog N_access_Tick #[(.agg #[.int .i64 x_02, .int .i64 x_12, .int .i64 x_22, .slice x_3_a2 x_3_l2 x_3_c2]), (.int .i64 (6 : Int))] w3 fun e_1 w8 =>
      ∃ r_01 r_11 r_21 : Int, ∃ r_3_a1 : Option Addr, ∃ r_3_l1 r_3_c1 : Nat, ∃ r_a : Option Addr, ∃ r_l r_c : Nat, ∃ r_a1 : Option Addr, ∃ r_l1 r_c1 : Nat, ∃ r1 : Int, e_1 = .returned (.tuple #[(.agg #[.int .i64 r_01, .int .i64 r_11, .int .i64 r_21, .slice r_3_a1 r_3_l1 r_3_c1]), (.slice r_a r_l r_c), (.slice r_a1 r_l1 r_c1), (.int .i64 r1)]) ∧
      (kAlloc w8 #[.int .i64 (0 : Int), .int .i64 (0 : Int), .int .i64 (0 : Int), .slice none 0 0] Ty_api_Access fun b2 w9 =>
      (sxStore w9 ⟨b2, 0, none⟩ 0 [(.int .i64 r_01), (.int .i64 r_11), (.int .i64 r_21), (.slice r_3_a1 r_3_l1 r_3_c1)] fun w10 =>
      (∃ x_03 x_13 x_23 : Int, ∃ x_3_a3 : Option Addr, ∃ x_3_l3 x_3_c3 : Nat, cellsAt w10 ⟨b, 0, none⟩ 0 [(.int .i64 x_03), (.int .i64 x_13), (.int .i64 x_23), (.slice x_3_a3 x_3_l3 x_3_c3)] ∧
      (Calls Try.prog N_access_Tick #[(.agg #[.int .i64 x_03, .int .i64 x_13, .int .i64 x_23, .slice x_3_a3 x_3_l3 x_3_c3]), (.int .i64 (7 : Int))] w10 fun e_2 w11 =>
      ∃ r_02 r_12 r_22 : Int, ∃ r_3_a2 : Option Addr, ∃ r_3_l2 r_3_c2 : Nat, ∃ r_a2 : Option Addr, ∃ r_l2 r_c2 : Nat, ∃ r_a3 : Option Addr, ∃ r_l3 r_c3 : Nat, ∃ r2 : Int, e_2 = .returned (.tuple #[(.agg #[.int .i64 r_02, .int .i64 r_12, .int .i64 r_22, .slice r_3_a2 r_3_l2 r_3_c2]), (.slice r_a2 r_l2 r_c2), (.slice r_a3 r_l3 r_c3), (.int .i64 r2)]) ∧
      (kAlloc w11 #[.int .i64 (0 : Int), .int .i64 (0 : Int), .int .i64 (0 : Int), .slice none 0 0] Ty_api_Access fun b3 w12 =>
      (sxStore w12 ⟨b3, 0, none⟩ 0 [(.int .i64 r_02), (.int .i64 r_12), (.int .i64 r_22), (.slice r_3_a2 r_3_l2 r_3_c2)] fun w13 =>
      (bsplit (decide (r1 = (0 : Int)))
        ((bsplit (decide (r2 = (0 : Int)))
          ((bsplit (decide ((r_l : Int) = (0 : Int)))
            ((bsplit (decide ((r_l1 : Int) = (0 : Int)))
              ((kLdS w13 ⟨b2, 3, none⟩ fun _ x_l _ =>
              (bsplit (decide ((x_l : Int) = x5))
                ((bsplit (decide ((r_l2 : Int) = x5))
                  ((bsplit (decide ((r_l3 : Int) = (0 : Int)))
                    ((kLdS w13 ⟨b3, 3, none⟩ fun _ x_l1 _ =>
                    (bsplit (decide ((x_l1 : Int) = (0 : Int)))
                      ((Calls Try.prog N_law38_awake #[] w13 fun e_3 w14 =>
                      ∃ r3 : Bool, e_3 = .returned (.bool r3) ∧
                      R (.bool r3) w14))
                      (R (.bool false) w13))))
                    (R (.bool false) w13)))
                  (R (.bool false) w13)))
                (R (.bool false) w13))))
              (R (.bool false) w13)))
            (R (.bool false) w13)))
          (R (.bool false) w13)))
        (R (.bool false) w13)))))))))))))))))))))))
theorem F_law38_AccessMany_eq (first : Int) (preambles : Int) (many : Int) (w : World) (R : Value → World → Prop) : sxFn Try.prog TT h_law38_AccessMany Try.f5 #[(.int .u8 first), (.int .u8 preambles), (.int .u8 many)] w R = F_law38_AccessMany first preambles many w R := by kernel_rfl
theorem F_law38_AccessMany_ok {R : Ending → World → Prop} (first : Int) (preambles : Int) (many : Int) (w : World) (h : F_law38_AccessMany first preambles many w fun v w' => R (.returned v) w') : Calls Try.prog N_law38_AccessMany #[(.int .u8 first), (.int .u8 preambles), (.int .u8 many)] w R :=
  calls_of (f := 5) follows_ok Try.func5 (Eq.mpr (F_law38_AccessMany_eq first preambles many w _) h)

end Go.Proofs.Ytgmniohbnophdaa
