import Derived.Test.YtmhggobilcmdmaaBase
import Derived.KernelRfl
namespace Go.Proofs.Ytmhggobilcmdmaa
open Go.Sx Go.RowKit
set_option maxRecDepth 100000

def h_ref20_Copy : H := (.seq .reg (.seq .reg (.seq .reg (.seq (.seq .reg (.block (.loop [(4, .p (.int .i64))] [4, 5, 8, 9, 10, 11, 12, 13, 14, 15, 16, 17, 18, 19, 20, 21, 22, 23, 24, 25, 26, 27, 28, 29, 30, 31, 32, 33] (.seq (.seq .reg (.cond .leaf .leaf)) (.seq (.block (.seq .reg (.seq .reg (.seq .reg .reg)))) .reg))))) (.seq .reg .leaf)))))
def F_ref20_Copy (s_0 : Int) (s_1 : Int) (s_2 : Int) (s_3 : Int) (s_4 : Int) (s_5 : Int) (s_6 : Int) (s_7 : Int) (s_8_a : Option Addr) (s_8_l : Nat) (s_8_c : Nat) (s_9 : Int) (s_10 : Int) (s_11 : Int) (s_12 : Bool) (w : World) (R : Value → World → Prop) : Prop :=
  (kAlloc w #[(.int .i64 s_0), (.int .i64 s_1), (.int .i64 s_2), (.int .i64 s_3), (.int .i64 s_4), (.int .i64 s_5), (.int .i64 s_6), (.int .i64 s_7), (.slice s_8_a s_8_l s_8_c), (.int .i64 s_9), (.int .i64 s_10), (.int .i64 s_11), (.bool s_12)] Ty_api_Sender fun b w1 =>
  (kAlloc w1 #[.int .i64 (0 : Int), .int .i64 (0 : Int), .int .i64 (0 : Int), .int .i64 (0 : Int), .int .i64 (0 : Int), .int .i64 (0 : Int), .int .i64 (0 : Int), .int .i64 (0 : Int), .slice none 0 0, .int .i64 (0 : Int), .int .i64 (0 : Int), .int .i64 (0 : Int), .bool false] Ty_api_Sender fun b1 w2 =>
  (∃ x_0 x_1 x_2 x_3 x_4 x_5 x_6 x_7 : Int, ∃ x_8_a : Option Addr, ∃ x_8_l x_8_c : Nat, ∃ x_9 x_10 x_11 : Int, ∃ x_12 : Bool, cellsAt w2 ⟨b, 0, none⟩ 0 [(.int .i64 x_0), (.int .i64 x_1), (.int .i64 x_2), (.int .i64 x_3), (.int .i64 x_4), (.int .i64 x_5), (.int .i64 x_6), (.int .i64 x_7), (.slice x_8_a x_8_l x_8_c), (.int .i64 x_9), (.int .i64 x_10), (.int .i64 x_11), (.bool x_12)] ∧
  (kAlloc w2 #[.int .i64 (0 : Int), .int .i64 (0 : Int), .int .i64 (0 : Int), .int .i64 (0 : Int), .int .i64 (0 : Int), .int .i64 (0 : Int), .int .i64 (0 : Int), .int .i64 (0 : Int), .slice none 0 0, .int .i64 (0 : Int), .int .i64 (0 : Int), .int .i64 (0 : Int), .bool false] Ty_api_Sender fun b2 w3 =>
  (sxStore w3 ⟨b2, 0, none⟩ 0 [(.int .i64 x_0), (.int .i64 x_1), (.int .i64 x_2), (.int .i64 x_3), (.int .i64 x_4), (.int .i64 x_5), (.int .i64 x_6), (.int .i64 x_7), (.slice x_8_a x_8_l x_8_c), (.int .i64 x_9), (.int .i64 x_10), (.int .i64 x_11), (.bool x_12)] fun w4 =>
  (kSet w4 ⟨b2, 8, none⟩ (.slice none 0 0) fun w5 =>
  (∃ I : Int → Nat × (World → Prop), (I (0 : Int)).2 w5 ∧
  (∀ (_junk : Env) (i : Int) (w6 : World), (I i).2 w6 →
    (kLdS w6 ⟨b, 8, none⟩ fun _ x_l _ =>
    (bsplit (decide (i < (x_l : Int)))
      ((kLdS w6 ⟨b, 8, none⟩ fun x_a1 x_l1 _ =>
      (kIx x_a1 x_l1 i fun b3 =>
      (∃ x_01 : Int, ∃ x_1_a : Option Addr, ∃ x_1_l x_1_c : Nat, ∃ x_21 x_31 : Int, ∃ x_4_a : Option Addr, ∃ x_4_l x_4_c : Nat, cellsAt w6 (b3.add (i.toNat * 5)) 0 [(.int .i64 x_01), (.slice x_1_a x_1_l x_1_c), (.int .i64 x_21), (.int .i64 x_31), (.slice x_4_a x_4_l x_4_c)] ∧
      (kAlloc w6 #[.int .i64 (0 : Int), .slice none 0 0, .int .i64 (0 : Int), .int .i64 (0 : Int), .slice none 0 0] Ty_api_Unit fun b4 w7 =>
      (sxStore w7 ⟨b4, 0, none⟩ 0 [(.int .i64 x_01), (.slice x_1_a x_1_l x_1_c), (.int .i64 x_21), (.int .i64 x_31), (.slice x_4_a x_4_l x_4_c)] fun w8 =>
      (kLdS w8 ⟨b4, 1, none⟩ fun x_a2 x_l2 x_c2 =>
      (AppP Try.prog #[Ty_S_uint8, Ty_S_uint8] Ty_S_uint8 #[(.slice none 0 0), (.slice x_a2 x_l2 x_c2)] w8 fun x_a3 x_l3 x_c3 w9 =>
      (kSet w9 ⟨b4, 1, none⟩ (.slice x_a3 x_l3 x_c3) fun w10 =>
      (kLdS w10 ⟨b4, 4, none⟩ fun x_a4 x_l4 x_c4 =>
      (AppP Try.prog #[Ty_S_api_Range, Ty_S_api_Range] Ty_S_api_Range #[(.slice none 0 0), (.slice x_a4 x_l4 x_c4)] w10 fun x_a5 x_l5 x_c5 w11 =>
      (kSet w11 ⟨b4, 4, none⟩ (.slice x_a5 x_l5 x_c5) fun w12 =>
      (kLdS w12 ⟨b2, 8, none⟩ fun x_a6 x_l6 x_c6 =>
      (∃ x_02 : Int, ∃ x_1_a1 : Option Addr, ∃ x_1_l1 x_1_c1 : Nat, ∃ x_22 x_32 : Int, ∃ x_4_a1 : Option Addr, ∃ x_4_l1 x_4_c1 : Nat, cellsAt w12 ⟨b4, 0, none⟩ 0 [(.int .i64 x_02), (.slice x_1_a1 x_1_l1 x_1_c1), (.int .i64 x_22), (.int .i64 x_32), (.slice x_4_a1 x_4_l1 x_4_c1)] ∧
      (kAlloc w12 #[(.int .i64 x_02), (.slice x_1_a1 x_1_l1 x_1_c1), (.int .i64 x_22), (.int .i64 x_32), (.slice x_4_a1 x_4_l1 x_4_c1)] Ty_api_Unit fun b5 w13 =>
      (AppP Try.prog #[Ty_S_api_Unit, Ty_S_api_Unit] Ty_S_api_Unit #[(.slice x_a6 x_l6 x_c6), (.slice (some ⟨b5, 0, none⟩) 1 1)] w13 fun x_a7 x_l7 x_c7 w14 =>
      (kSet w14 ⟨b2, 8, none⟩ (.slice x_a7 x_l7 x_c7) fun w15 =>
      (kW .i64 (i + (1 : Int)) fun x =>
      ((I x).2 w15 ∧ (I x).1 < (I i).1)))))))))))))))))))
      ((∃ x_03 x_13 x_23 x_33 x_41 x_51 x_61 x_71 : Int, ∃ x_8_a1 : Option Addr, ∃ x_8_l1 x_8_c1 : Nat, ∃ x_91 x_101 x_111 : Int, ∃ x_121 : Bool, cellsAt w6 ⟨b2, 0, none⟩ 0 [(.int .i64 x_03), (.int .i64 x_13), (.int .i64 x_23), (.int .i64 x_33), (.int .i64 x_41), (.int .i64 x_51), (.int .i64 x_61), (.int .i64 x_71), (.slice x_8_a1 x_8_l1 x_8_c1), (.int .i64 x_91), (.int .i64 x_101), (.int .i64 x_111), (.bool x_121)] ∧
      (sxStore w6 ⟨b1, 0, none⟩ 0 [(.int .i64 x_03), (.int .i64 x_13), (.int .i64 x_23), (.int .i64 x_33), (.int .i64 x_41), (.int .i64 x_51), (.int .i64 x_61), (.int .i64 x_71), (.slice x_8_a1 x_8_l1 x_8_c1), (.int .i64 x_91), (.int .i64 x_101), (.int .i64 x_111), (.bool x_121)] fun w16 =>
      (∃ r_0 r_1 r_2 r_3 r_4 r_5 r_6 r_7 : Int, ∃ r_8_a : Option Addr, ∃ r_8_l r_8_c : Nat, ∃ r_9 r_10 r_11 : Int, ∃ r_12 : Bool, cellsAt w16 ⟨b1, 0, none⟩ 0 [(.int .i64 r_0), (.int .i64 r_1), (.int .i64 r_2), (.int .i64 r_3), (.int .i64 r_4), (.int .i64 r_5), (.int .i64 r_6), (.int .i64 r_7), (.slice r_8_a r_8_l r_8_c), (.int .i64 r_9), (.int .i64 r_10), (.int .i64 r_11), (.bool r_12)] ∧
      R (.agg #[.int .i64 r_0, .int .i64 r_1, .int .i64 r_2, .int .i64 r_3, .int .i64 r_4, .int .i64 r_5, .int .i64 r_6, .int .i64 r_7, .slice r_8_a r_8_l r_8_c, .int .i64 r_9, .int .i64 r_10, .int .i64 r_11, .bool r_12]) w16))))))))))))))
theorem F_ref20_Copy_eq (s_0 : Int) (s_1 : Int) (s_2 : Int) (s_3 : Int) (s_4 : Int) (s_5 : Int) (s_6 : Int) (s_7 : Int) (s_8_a : Option Addr) (s_8_l : Nat) (s_8_c : Nat) (s_9 : Int) (s_10 : Int) (s_11 : Int) (s_12 : Bool) (w : World) (R : Value → World → Prop) : sxFn Try.prog TT h_ref20_Copy Try.f70 #[(.agg #[.int .i64 s_0, .int .i64 s_1, .int .i64 s_2, .int .i64 s_3, .int .i64 s_4, .int .i64 s_5, .int .i64 s_6, .int .i64 s_7, .slice s_8_a s_8_l s_8_c, .int .i64 s_9, .int .i64 s_10, .int .i64 s_11, .bool s_12])] w R = F_ref20_Copy s_0 s_1 s_2 s_3 s_4 s_5 s_6 s_7 s_8_a s_8_l s_8_c s_9 s_10 s_11 s_12 w R := by kernel_rfl
theorem F_ref20_Copy_ok {R : Ending → World → Prop} (s_0 : Int) (s_1 : Int) (s_2 : Int) (s_3 : Int) (s_4 : Int) (s_5 : Int) (s_6 : Int) (s_7 : Int) (s_8_a : Option Addr) (s_8_l : Nat) (s_8_c : Nat) (s_9 : Int) (s_10 : Int) (s_11 : Int) (s_12 : Bool) (w : World) (h : F_ref20_Copy s_0 s_1 s_2 s_3 s_4 s_5 s_6 s_7 s_8_a s_8_l s_8_c s_9 s_10 s_11 s_12 w fun v w' => R (.returned v) w') : Calls Try.prog N_ref20_Copy #[(.agg #[.int .i64 s_0, .int .i64 s_1, .int .i64 s_2, .int .i64 s_3, .int .i64 s_4, .int .i64 s_5, .int .i64 s_6, .int .i64 s_7, .slice s_8_a s_8_l s_8_c, .int .i64 s_9, .int .i64 s_10, .int .i64 s_11, .bool s_12])] w R :=
  calls_of (f := 70) follows_ok Try.func70 (Eq.mpr (F_ref20_Copy_eq s_0 s_1 s_2 s_3 s_4 s_5 s_6 s_7 s_8_a s_8_l s_8_c s_9 s_10 s_11 s_12 w _) h)

def h_ref20_missing : H := (.seq .reg (.seq .reg (.seq .reg (.seq (.seq .reg (.block (.loop [(6, .p .slice), (7, .p .bool), (8, .p (.int .i64))] [6, 7, 8, 9, 10, 11, 12, 13, 14, 15, 16, 17, 18, 19, 20, 21, 22, 23, 24, 25, 26, 27, 28, 29, 30, 31, 32, 33, 34, 35, 36, 37, 38, 39, 40, 41, 42, 43, 44, 45, 46, 47, 48, 49, 50, 51, 52] (.seq (.seq .reg (.cond .leaf .leaf)) (.seq (.block (.seq .reg (.seq (.seq .reg (.cond .leaf .leaf)) (.seq .reg (.cut [] [27, 28, 29, 30, 31, 32, 33, 34, 35, 36, 37] (.seq .reg (.cond .reg .leaf)) (.seq .reg (.seq .reg (.cond .reg .leaf)))))))) .reg))))) (.seq .reg .leaf)))))
def F_ref20_missing (u_0 : Int) (u_1_a : Option Addr) (u_1_l : Nat) (u_1_c : Nat) (u_2 : Int) (u_3 : Int) (u_4_a : Option Addr) (u_4_l : Nat) (u_4_c : Nat) (r_0 : Int) (r_1_a : Option Addr) (r_1_l : Nat) (r_1_c : Nat) (w : World) (R : Value → World → Prop) : Prop :=
  (kAlloc w #[(.int .i64 u_0), (.slice u_1_a u_1_l u_1_c), (.int .i64 u_2), (.int .i64 u_3), (.slice u_4_a u_4_l u_4_c)] Ty_api_Unit fun b w1 =>
  (kAlloc w1 #[(.int .i64 r_0), (.slice r_1_a r_1_l r_1_c)] Ty_api_Status fun b1 w2 =>
  (∃ I : Option Addr → Nat → Nat → Bool → Int → Nat × (World → Prop), (I none 0 0 false (0 : Int)).2 w2 ∧
  (∀ (_junk : Env) (out_a : Option Addr) (out_l : Nat) (out_c : Nat) (named : Bool) (i : Int) (w3 : World), (I out_a out_l out_c named i).2 w3 →
    (kLdS w3 ⟨b1, 1, none⟩ fun _ x_l _ =>
    (bsplit (decide (i < (x_l : Int)))
      ((kLdS w3 ⟨b1, 1, none⟩ fun x_a1 x_l1 _ =>
      (kIx x_a1 x_l1 i fun b2 =>
      (∃ x_0 x_1 x_2 : Int, cellsAt w3 (b2.add (i.toNat * 3)) 0 [(.int .i64 x_0), (.int .i64 x_1), (.int .i64 x_2)] ∧
      (kAlloc w3 #[.int .i64 (0 : Int), .int .i64 (0 : Int), .int .i64 (0 : Int)] Ty_api_Range fun b3 w4 =>
      (sxStore w4 ⟨b3, 0, none⟩ 0 [(.int .i64 x_0), (.int .i64 x_1), (.int .i64 x_2)] fun w5 =>
      (kLd w5 ⟨b3, 0, none⟩ .i64 fun x =>
      (kLd w5 ⟨b, 0, none⟩ .i64 fun x1 =>
      (bsplit (!decide (x = x1))
        ((kW .i64 (i + (1 : Int)) fun x2 =>
        ((I out_a out_l out_c named x2).2 w5 ∧ (I out_a out_l out_c named x2).1 < (I out_a out_l out_c named i).1)))
        ((∃ J : World → Prop,
        (∀ (_junk : Env)  (w8 : World), J w8 →
          (kLd w8 ⟨b3, 2, none⟩ .i64 fun x7 =>
          (kLd w8 ⟨b, 2, none⟩ .i64 fun x8 =>
          (kSet w8 ⟨b3, 2, none⟩ (.int .i64 (if x8 < x7 then x8 else x7)) fun w9 =>
          (kLd w9 ⟨b3, 1, none⟩ .i64 fun x9 =>
          (kLd w9 ⟨b3, 2, none⟩ .i64 fun x10 =>
          (bsplit (decide (x9 < x10))
            ((∃ x_01 x_11 x_21 : Int, cellsAt w9 ⟨b3, 0, none⟩ 0 [(.int .i64 x_01), (.int .i64 x_11), (.int .i64 x_21)] ∧
            (kAlloc w9 #[(.int .i64 x_01), (.int .i64 x_11), (.int .i64 x_21)] Ty_api_Range fun b4 w10 =>
            (AppP Try.prog #[Ty_S_api_Range, Ty_S_api_Range] Ty_S_api_Range #[(.slice out_a out_l out_c), (.slice (some ⟨b4, 0, none⟩) 1 1)] w10 fun x_a2 x_l2 x_c2 w11 =>
            (kW .i64 (i + (1 : Int)) fun x11 =>
            ((I x_a2 x_l2 x_c2 true x11).2 w11 ∧ (I x_a2 x_l2 x_c2 true x11).1 < (I out_a out_l out_c named i).1))))))
            ((kW .i64 (i + (1 : Int)) fun x12 =>
            ((I out_a out_l out_c true x12).2 w9 ∧ (I out_a out_l out_c true x12).1 < (I out_a out_l out_c named i).1)))))))))) ∧
        (kLd w5 ⟨b3, 1, none⟩ .i64 fun x3 =>
        (bsplit (decide (x3 = (0 : Int)))
          ((kLd w5 ⟨b3, 2, none⟩ .i64 fun x4 =>
          (bsplit (decide (x4 = (0 : Int)))
            ((kLd w5 ⟨b, 2, none⟩ .i64 fun x5 =>
            (kSet w5 ⟨b3, 2, none⟩ (.int .i64 x5) fun w6 =>
            J w6)))
            (J w5))))
          (J w5))))))))))))))
      (R (.tuple #[(.slice out_a out_l out_c), (.bool named)]) w3)))))))
theorem F_ref20_missing_eq (u_0 : Int) (u_1_a : Option Addr) (u_1_l : Nat) (u_1_c : Nat) (u_2 : Int) (u_3 : Int) (u_4_a : Option Addr) (u_4_l : Nat) (u_4_c : Nat) (r_0 : Int) (r_1_a : Option Addr) (r_1_l : Nat) (r_1_c : Nat) (w : World) (R : Value → World → Prop) : sxFn Try.prog TT h_ref20_missing Try.f71 #[(.agg #[.int .i64 u_0, .slice u_1_a u_1_l u_1_c, .int .i64 u_2, .int .i64 u_3, .slice u_4_a u_4_l u_4_c]), (.agg #[.int .i64 r_0, .slice r_1_a r_1_l r_1_c])] w R = F_ref20_missing u_0 u_1_a u_1_l u_1_c u_2 u_3 u_4_a u_4_l u_4_c r_0 r_1_a r_1_l r_1_c w R := by kernel_rfl
theorem F_ref20_missing_ok {R : Ending → World → Prop} (u_0 : Int) (u_1_a : Option Addr) (u_1_l : Nat) (u_1_c : Nat) (u_2 : Int) (u_3 : Int) (u_4_a : Option Addr) (u_4_l : Nat) (u_4_c : Nat) (r_0 : Int) (r_1_a : Option Addr) (r_1_l : Nat) (r_1_c : Nat) (w : World) (h : F_ref20_missing u_0 u_1_a u_1_l u_1_c u_2 u_3 u_4_a u_4_l u_4_c r_0 r_1_a r_1_l r_1_c w fun v w' => R (.returned v) w') : Calls Try.prog N_ref20_missing #[(.agg #[.int .i64 u_0, .slice u_1_a u_1_l u_1_c, .int .i64 u_2, .int .i64 u_3, .slice u_4_a u_4_l u_4_c]), (.agg #[.int .i64 r_0, .slice r_1_a r_1_l r_1_c])] w R :=
  calls_of (f := 71) follows_ok Try.func71 (Eq.mpr (F_ref20_missing_eq u_0 u_1_a u_1_l u_1_c u_2 u_3 u_4_a u_4_l u_4_c r_0 r_1_a r_1_l r_1_c w _) h)

def h_ref20_again : H := (.seq (.seq (.draw .no (.one 0 .stable (.one 1 .stable (.one 2 .stable (.one 3 .stable (.one 4 .stable (.one 5 .stable (.one 6 .stable (.one 7 .stable (.one 8 .stable (.one 9 .stable .nil))))))))))) (.cond (.seq .reg .leaf) .leaf)) .reg)
def F_ref20_again (s_b : Nat) (s_o : Nat) (u_b : Nat) (u_o : Nat) (w : World) (R : Value → World → Prop) : Prop :=
  (kDrew w fun w1 =>
  (kLd w1 ⟨u_b, u_o + 3, none⟩ .i64 fun x =>
  (kLd w1 ⟨s_b, s_o + 5, none⟩ .i64 fun x1 =>
  (bsplit (decide (x = x1))
    ((kSet w1 ⟨s_b, s_o + 12, none⟩ (.bool true) fun w2 =>
    R (.tuple #[]) w2))
    ((kLd w1 ⟨u_b, u_o + 3, none⟩ .i64 fun x2 =>
    (kW .i64 (x2 + (1 : Int)) fun x3 =>
    (kSet w1 ⟨u_b, u_o + 3, none⟩ (.int .i64 x3) fun w3 =>
    R (.tuple #[]) w3))))))))
theorem F_ref20_again_eq (s_b : Nat) (s_o : Nat) (u_b : Nat) (u_o : Nat) (w : World) (R : Value → World → Prop) : sxFn Try.prog TT h_ref20_again Try.f72 #[(.pointer (some ⟨s_b, s_o, none⟩)), (.pointer (some ⟨u_b, u_o, none⟩))] w R = F_ref20_again s_b s_o u_b u_o w R := by kernel_rfl
theorem F_ref20_again_ok {R : Ending → World → Prop} (s_b : Nat) (s_o : Nat) (u_b : Nat) (u_o : Nat) (w : World) (h : F_ref20_again s_b s_o u_b u_o w fun v w' => R (.returned v) w') : Calls Try.prog N_ref20_again #[(.pointer (some ⟨s_b, s_o, none⟩)), (.pointer (some ⟨u_b, u_o, none⟩))] w R :=
  calls_of (f := 72) follows_ok Try.func72 (Eq.mpr (F_ref20_again_eq s_b s_o u_b u_o w _) h)

def h_ref20_todo : H := (.seq .reg (.seq (.seq .reg (.block (.loop [(6, .p (.int .i64))] [2, 3, 4, 5, 6, 7, 9, 10, 11, 12, 13, 14, 15, 16, 17, 18, 19, 20, 21, 22, 23, 24, 25, 26, 27, 28, 29, 30, 31, 32, 33, 34, 35, 36] (.seq (.seq .reg (.cond .leaf .leaf)) (.seq (.block (.seq .reg (.cond (.seq .reg (.seq (.draw .no (.one 0 .stable (.one 1 .stable (.one 2 .stable (.one 3 .stable (.one 4 .stable (.one 5 .stable (.one 6 .stable (.one 7 .stable (.one 8 .stable .nil)))))))))) .leaf)) .leaf))) .reg))))) (.seq (.seq .reg (.block (.loop [(8, .p (.int .i64))] [2, 3, 4, 5, 8, 37, 38, 39, 40, 41, 42, 43, 44, 45, 46, 47, 48, 49, 50, 51, 52, 53, 54, 55, 56, 57, 58, 59, 60, 61, 62, 63, 64, 65, 66, 67, 68, 69, 70, 71] (.seq (.seq .reg (.cond .leaf .leaf)) (.seq (.block (.seq (.draw .no (.one 0 .stable (.one 1 .stable (.one 2 .stable (.one 3 .stable (.one 4 .stable (.one 5 .stable (.one 6 .stable (.one 7 .stable (.one 8 .stable (.one 9 .stable (.one 10 .stable (.one 11 .stable (.one 12 .stable (.one 13 .stable .nil))))))))))))))) (.cond (.seq (.draw .no (.one 0 .stable (.one 1 .stable (.one 2 .stable (.one 3 .stable (.one 4 .stable (.one 5 .stable (.one 6 .stable (.one 7 .stable (.one 8 .stable (.one 9 .stable (.one 10 .stable (.one 11 .stable (.one 12 .stable (.one 13 .stable (.one 14 .stable (.one 15 .stable (.one 16 .stable (.one 17 .stable .nil))))))))))))))))))) .leaf) .leaf))) .reg))))) (.seq .reg .leaf))))
def F_ref20_todo (s_0 : Int) (s_1 : Int) (s_2 : Int) (s_3 : Int) (s_4 : Int) (s_5 : Int) (s_6 : Int) (s_7 : Int) (s_8_a : Option Addr) (s_8_l : Nat) (s_8_c : Nat) (s_9 : Int) (s_10 : Int) (s_11 : Int) (s_12 : Bool) (w : World) (R : Value → World → Prop) : Prop :=
  (kAlloc w #[(.int .i64 s_0), (.int .i64 s_1), (.int .i64 s_2), (.int .i64 s_3), (.int .i64 s_4), (.int .i64 s_5), (.int .i64 s_6), (.int .i64 s_7), (.slice s_8_a s_8_l s_8_c), (.int .i64 s_9), (.int .i64 s_10), (.int .i64 s_11), (.bool s_12)] Ty_api_Sender fun b w1 =>
  (∃ I : Int → Nat × (World → Prop), (I (0 : Int)).2 w1 ∧
  (∀ (_junk : Env) (i : Int) (w2 : World), (I i).2 w2 →
    (kLdS w2 ⟨b, 8, none⟩ fun _ x_l _ =>
    (bsplit (decide (i < (x_l : Int)))
      ((kLdS w2 ⟨b, 8, none⟩ fun x_a1 x_l1 _ =>
      (kIx x_a1 x_l1 i fun b1 =>
      (kLdS w2 ((b1.add (i.toNat * 5)).add 4) fun _ x_l2 _ =>
      (bsplit (decide ((x_l2 : Int) > (0 : Int)))
        ((kLdS w2 ⟨b, 8, none⟩ fun x_a3 x_l3 _ =>
        (kIx x_a3 x_l3 i fun b2 =>
        (kLdS w2 ((b2.add (i.toNat * 5)).add 4) fun x_a4 x_l4 _ =>
        (kIx x_a4 x_l4 (0 : Int) fun b3 =>
        (∃ x_0 x_1 x_2 : Int, cellsAt w2 (b3.add ((0 : Int).toNat * 3)) 0 [(.int .i64 x_0), (.int .i64 x_1), (.int .i64 x_2)] ∧
        (kAlloc w2 #[.int .i64 (0 : Int), .int .i64 (0 : Int), .int .i64 (0 : Int)] Ty_api_Range fun b4 w3 =>
        (sxStore w3 ⟨b4, 0, none⟩ 0 [(.int .i64 x_0), (.int .i64 x_1), (.int .i64 x_2)] fun w4 =>
        (kDrew w4 fun w5 =>
        (kLd w5 ⟨b4, 1, none⟩ .i64 fun x =>
        (kLd w5 ⟨b4, 2, none⟩ .i64 fun x1 =>
        R (.tuple #[(.int .i64 i), (.int .i64 x), (.int .i64 x1), (.bool true)]) w5)))))))))))
        ((kW .i64 (i + (1 : Int)) fun x2 =>
        ((I x2).2 w2 ∧ (I x2).1 < (I i).1))))))))
      ((∃ I1 : Int → Nat × (World → Prop), (I1 (0 : Int)).2 w2 ∧
      (∀ (_junk : Env) (i1 : Int) (w6 : World), (I1 i1).2 w6 →
        (kLdS w6 ⟨b, 8, none⟩ fun _ x_l5 _ =>
        (bsplit (decide (i1 < (x_l5 : Int)))
          ((kDrew w6 fun w7 =>
          (kLdS w7 ⟨b, 8, none⟩ fun x_a6 x_l6 _ =>
          (kIx x_a6 x_l6 i1 fun b5 =>
          (kLd w7 ((b5.add (i1.toNat * 5)).add 2) .i64 fun x3 =>
          (kLdS w7 ⟨b, 8, none⟩ fun x_a7 x_l7 _ =>
          (kIx x_a7 x_l7 i1 fun b6 =>
          (kLdS w7 ((b6.add (i1.toNat * 5)).add 1) fun _ x_l8 _ =>
          (bsplit (decide (x3 < (x_l8 : Int)))
            ((kDrew w7 fun w8 =>
            (kLdS w8 ⟨b, 8, none⟩ fun x_a9 x_l9 _ =>
            (kIx x_a9 x_l9 i1 fun b7 =>
            (kLd w8 ((b7.add (i1.toNat * 5)).add 2) .i64 fun x4 =>
            (kLdS w8 ⟨b, 8, none⟩ fun x_a10 x_l10 _ =>
            (kIx x_a10 x_l10 i1 fun b8 =>
            (kLdS w8 ((b8.add (i1.toNat * 5)).add 1) fun _ x_l11 _ =>
            R (.tuple #[(.int .i64 i1), (.int .i64 x4), (.int .i64 (x_l11 : Int)), (.bool true)]) w8))))))))
            ((kW .i64 (i1 + (1 : Int)) fun x5 =>
            ((I1 x5).2 w7 ∧ (I1 x5).1 < (I1 i1).1))))))))))))
          (R (.tuple #[(.int .i64 (0 : Int)), (.int .i64 (0 : Int)), (.int .i64 (0 : Int)), (.bool false)]) w6)))))))))))
theorem F_ref20_todo_eq (s_0 : Int) (s_1 : Int) (s_2 : Int) (s_3 : Int) (s_4 : Int) (s_5 : Int) (s_6 : Int) (s_7 : Int) (s_8_a : Option Addr) (s_8_l : Nat) (s_8_c : Nat) (s_9 : Int) (s_10 : Int) (s_11 : Int) (s_12 : Bool) (w : World) (R : Value → World → Prop) : sxFn Try.prog TT h_ref20_todo Try.f73 #[(.agg #[.int .i64 s_0, .int .i64 s_1, .int .i64 s_2, .int .i64 s_3, .int .i64 s_4, .int .i64 s_5, .int .i64 s_6, .int .i64 s_7, .slice s_8_a s_8_l s_8_c, .int .i64 s_9, .int .i64 s_10, .int .i64 s_11, .bool s_12])] w R = F_ref20_todo s_0 s_1 s_2 s_3 s_4 s_5 s_6 s_7 s_8_a s_8_l s_8_c s_9 s_10 s_11 s_12 w R := by kernel_rfl
theorem F_ref20_todo_ok {R : Ending → World → Prop} (s_0 : Int) (s_1 : Int) (s_2 : Int) (s_3 : Int) (s_4 : Int) (s_5 : Int) (s_6 : Int) (s_7 : Int) (s_8_a : Option Addr) (s_8_l : Nat) (s_8_c : Nat) (s_9 : Int) (s_10 : Int) (s_11 : Int) (s_12 : Bool) (w : World) (h : F_ref20_todo s_0 s_1 s_2 s_3 s_4 s_5 s_6 s_7 s_8_a s_8_l s_8_c s_9 s_10 s_11 s_12 w fun v w' => R (.returned v) w') : Calls Try.prog N_ref20_todo #[(.agg #[.int .i64 s_0, .int .i64 s_1, .int .i64 s_2, .int .i64 s_3, .int .i64 s_4, .int .i64 s_5, .int .i64 s_6, .int .i64 s_7, .slice s_8_a s_8_l s_8_c, .int .i64 s_9, .int .i64 s_10, .int .i64 s_11, .bool s_12])] w R :=
  calls_of (f := 73) follows_ok Try.func73 (Eq.mpr (F_ref20_todo_eq s_0 s_1 s_2 s_3 s_4 s_5 s_6 s_7 s_8_a s_8_l s_8_c s_9 s_10 s_11 s_12 w _) h)

def h_ref02_Distance : H := (.seq .reg (.seq (.seq .reg (.cond (.seq .reg .leaf) .leaf)) (.seq .reg .leaf)))
def F_ref02_Distance (n : Int) (a : Int) (b : Int) (w : World) (R : Value → World → Prop) : Prop :=
  (Calls Try.prog N_ref02_valid #[(.int .i64 n)] w fun e_ w1 =>
  ∃ r : Bool, e_ = .returned (.bool r) ∧
  (bsplit (!r)
    (R (.int .i64 (-1 : Int)) w1)
    ((Calls Try.prog N_ref02_Low #[(.int .i64 n), (.int .i64 b)] w1 fun e_1 w2 =>
    ∃ r1 : Int, e_1 = .returned (.int .i64 r1) ∧
    (Calls Try.prog N_ref02_Low #[(.int .i64 n), (.int .i64 a)] w2 fun e_2 w3 =>
    ∃ r2 : Int, e_2 = .returned (.int .i64 r2) ∧
    (kW .i64 (r1 - r2) fun x =>
    (kW .u64 (n) fun x1 =>
    (0 ≤ x1 ∧ (kW .i64 ((1 : Int) * 2 ^ (min x1.toNat (IntKind.bits .i64))) fun x2 =>
    (kW .i64 (x2 - (1 : Int)) fun x3 =>
    (kLet (bAnd .i64 x x3) fun x4 =>
    R (.int .i64 x4) w3)))))))))))
theorem F_ref02_Distance_eq (n : Int) (a : Int) (b : Int) (w : World) (R : Value → World → Prop) : sxFn Try.prog TT h_ref02_Distance Try.f74 #[(.int .i64 n), (.int .i64 a), (.int .i64 b)] w R = F_ref02_Distance n a b w R := by kernel_rfl
theorem F_ref02_Distance_ok {R : Ending → World → Prop} (n : Int) (a : Int) (b : Int) (w : World) (h : F_ref02_Distance n a b w fun v w' => R (.returned v) w') : Calls Try.prog N_ref02_Distance #[(.int .i64 n), (.int .i64 a), (.int .i64 b)] w R :=
  calls_of (f := 74) follows_ok Try.func74 (Eq.mpr (F_ref02_Distance_eq n a b w _) h)

def h_counter_Bits : H := (.seq .reg (.seq .reg .leaf))
def F_counter_Bits (bits : Int) (w : World) (R : Value → World → Prop) : Prop :=
  (bsplit (decide (bits ≥ (5 : Int)))
    ((kLet (decide (bits ≤ (9 : Int))) fun x =>
    R (.bool x) w))
    (R (.bool false) w))
theorem F_counter_Bits_eq (bits : Int) (w : World) (R : Value → World → Prop) : sxFn Try.prog TT h_counter_Bits Try.f75 #[(.int .i64 bits)] w R = F_counter_Bits bits w R := by kernel_rfl
theorem F_counter_Bits_ok {R : Ending → World → Prop} (bits : Int) (w : World) (h : F_counter_Bits bits w fun v w' => R (.returned v) w') : Calls Try.prog N_counter_Bits #[(.int .i64 bits)] w R :=
  calls_of (f := 75) follows_ok Try.func75 (Eq.mpr (F_counter_Bits_eq bits w _) h)

def h_ref18_SameRanges : H := (.seq .reg (.seq (.seq .reg (.cond (.seq .reg .leaf) .leaf)) (.seq (.seq .reg (.block (.loop [(5, .p (.int .i64))] [4, 5, 11, 12, 13, 14, 15, 16, 17, 18, 19, 20, 21, 22, 23, 24, 25] (.seq (.seq .reg (.cond .leaf .leaf)) (.seq (.block (.seq (.draw .no (.one 0 .stable (.one 1 .stable (.one 2 .stable (.one 3 .stable (.one 4 .stable (.one 5 .stable (.one 6 .stable (.one 7 .stable (.one 8 .stable .nil)))))))))) (.cond (.seq .reg .leaf) .leaf))) .reg))))) (.seq .reg .leaf))))
def F_ref18_SameRanges (a_a : Option Addr) (a_l : Nat) (_ : Nat) (b_a : Option Addr) (b_l : Nat) (_ : Nat) (w : World) (R : Value → World → Prop) : Prop :=
  (bsplit (!decide ((a_l : Int) = (b_l : Int)))
    (R (.bool false) w)
    ((∃ I : Int → Nat × (World → Prop), (I (0 : Int)).2 w ∧
    (∀ (_junk : Env) (i : Int) (w1 : World), (I i).2 w1 →
      (bsplit (decide (i < (a_l : Int)))
        ((kDrew w1 fun w2 =>
        (kIx a_a a_l i fun b =>
        (∃ x_0 x_1 x_2 : Int, cellsAt w2 (b.add (i.toNat * 3)) 0 [(.int .i64 x_0), (.int .i64 x_1), (.int .i64 x_2)] ∧
        (kIx b_a b_l i fun b1 =>
        (∃ x_01 x_11 x_21 : Int, cellsAt w2 (b1.add (i.toNat * 3)) 0 [(.int .i64 x_01), (.int .i64 x_11), (.int .i64 x_21)] ∧
        (EqP Try.prog .neq Ty_api_Range (.tmp 20) (.tmp 24) (.agg #[.int .i64 x_0, .int .i64 x_1, .int .i64 x_2]) (.agg #[.int .i64 x_01, .int .i64 x_11, .int .i64 x_21]) fun r =>
        (bsplit r
          (R (.bool false) w2)
          ((kW .i64 (i + (1 : Int)) fun x =>
          ((I x).2 w2 ∧ (I x).1 < (I i).1)))))))))))
        (R (.bool true) w1))))))
theorem F_ref18_SameRanges_eq (a_a : Option Addr) (a_l : Nat) (a_c : Nat) (b_a : Option Addr) (b_l : Nat) (b_c : Nat) (w : World) (R : Value → World → Prop) : sxFn Try.prog TT h_ref18_SameRanges Try.f76 #[(.slice a_a a_l a_c), (.slice b_a b_l b_c)] w R = F_ref18_SameRanges a_a a_l a_c b_a b_l b_c w R := by kernel_rfl
theorem F_ref18_SameRanges_ok {R : Ending → World → Prop} (a_a : Option Addr) (a_l : Nat) (a_c : Nat) (b_a : Option Addr) (b_l : Nat) (b_c : Nat) (w : World) (h : F_ref18_SameRanges a_a a_l a_c b_a b_l b_c w fun v w' => R (.returned v) w') : Calls Try.prog N_ref18_SameRanges #[(.slice a_a a_l a_c), (.slice b_a b_l b_c)] w R :=
  calls_of (f := 76) follows_ok Try.func76 (Eq.mpr (F_ref18_SameRanges_eq a_a a_l a_c b_a b_l b_c w _) h)

def h_sender_side_number : H := (.seq .reg (.seq .reg .leaf))
def F_sender_side_number (s_b : Nat) (s_o : Nat) (n : Int) (w : World) (R : Value → World → Prop) : Prop :=
  (kLd w ⟨s_b, s_o, none⟩ .i64 fun x =>
  (0 ≤ x ∧ (kW .i64 ((1 : Int) * 2 ^ (min x.toNat (IntKind.bits .i64))) fun x1 =>
  (kW .i64 (x1 - (1 : Int)) fun x2 =>
  (Calls Try.prog N_sender_between #[(.int .i64 n), (.int .i64 (0 : Int)), (.int .i64 x2)] w fun e_ w1 =>
  ∃ r : Bool, e_ = .returned (.bool r) ∧
  R (.bool r) w1)))))
theorem F_sender_side_number_eq (s_b : Nat) (s_o : Nat) (n : Int) (w : World) (R : Value → World → Prop) : sxFn Try.prog TT h_sender_side_number Try.f77 #[(.pointer (some ⟨s_b, s_o, none⟩)), (.int .i64 n)] w R = F_sender_side_number s_b s_o n w R := by kernel_rfl
theorem F_sender_side_number_ok {R : Ending → World → Prop} (s_b : Nat) (s_o : Nat) (n : Int) (w : World) (h : F_sender_side_number s_b s_o n w fun v w' => R (.returned v) w') : Calls Try.prog N_sender_side_number #[(.pointer (some ⟨s_b, s_o, none⟩)), (.int .i64 n)] w R :=
  calls_of (f := 77) follows_ok Try.func77 (Eq.mpr (F_sender_side_number_eq s_b s_o n w _) h)

def h_sender_side_units : H := (.seq .reg (.seq (.seq .reg (.cond (.seq (.draw .no (.one 0 .stable (.one 1 .stable (.one 2 .stable (.one 3 .stable (.one 4 .stable (.one 5 .stable (.one 6 .stable (.one 7 .stable (.one 8 .stable (.one 9 .stable (.one 10 .stable (.one 11 .stable .nil))))))))))))) .leaf) .leaf)) (.seq (.seq (.draw .no (.one 0 .stable (.one 1 .stable (.one 2 .stable (.one 3 .stable (.one 4 .stable (.one 5 .stable (.one 6 .stable (.one 7 .stable (.one 8 .stable (.one 9 .stable (.one 10 .stable (.one 11 .stable (.one 12 .stable (.one 13 .stable .nil))))))))))))))) (.cond (.seq .reg .leaf) .leaf)) (.seq (.seq .reg (.block (.loop [(44, .p (.int .i64))] [2, 3, 4, 5, 44, 45, 46, 47, 48, 49, 50, 51, 52, 53, 54, 55, 56, 57, 58, 59, 60, 61, 62, 63, 64, 65, 66, 67, 68, 69, 70, 71, 72, 73, 74, 75, 76, 77, 78, 79, 80, 81, 82, 83, 84, 85, 86, 87, 88, 89, 90, 91, 92, 93, 94, 95, 96, 97] (.seq .reg (.seq (.cond .leaf .leaf) (.seq (.block (.seq .reg (.cut [] [2, 49, 50, 51, 52, 53, 54, 55, 56, 57, 58, 59, 60, 61, 62, 63, 64, 65, 66] (.seq (.draw .blk (.one 0 .pre (.one 1 .pre (.one 2 .keep (.one 3 .stable (.one 4 .stable (.one 5 .stable (.one 6 .stable (.one 7 .stable (.one 9 .stable (.one 10 .stable (.one 11 .stable (.one 12 .stable (.one 13 .stable (.one 14 .stable (.one 8 .keep (.one 15 .keep (.one 16 .stable (.one 17 .stable .nil))))))))))))))))))) (.cond (.seq .reg .leaf) .leaf)) (.seq .reg (.cond (.seq .reg (.seq (.draw .blk (.one 0 .pre (.one 1 .pre (.one 2 .pre (.one 4 .stable (.one 5 .stable (.one 6 .stable (.one 3 .keep (.one 7 .keep (.one 8 .stable (.one 9 .stable (.one 10 .stable (.one 11 .keep (.one 12 .stable (.one 13 .stable (.one 14 .stable (.one 15 .stable (.one 16 .stable (.one 17 .stable (.one 18 .stable .nil)))))))))))))))))))) (.cond (.seq .reg .leaf) .leaf))) .leaf))))) .reg)))))) (.seq .reg .leaf)))))
def F_sender_side_units (s_b : Nat) (s_o : Nat) (w : World) (R : Value → World → Prop) : Prop :=
  (kLdS w ⟨s_b, s_o + 8, none⟩ fun _ x_l _ =>
  (bsplit (decide ((x_l : Int) = (0 : Int)))
    ((kDrew w fun w1 =>
    (kLd w1 ⟨s_b, s_o + 7, none⟩ .i64 fun x =>
    (kLd w1 ⟨s_b, s_o + 6, none⟩ .i64 fun x1 =>
    (kLet (decide (x = x1)) fun x2 =>
    R (.bool x2) w1)))))
    ((kDrew w fun w2 =>
    (kLdS w2 ⟨s_b, s_o + 8, none⟩ fun x_a1 x_l1 _ =>
    (kIx x_a1 x_l1 (0 : Int) fun b =>
    (kLd w2 (b.add ((0 : Int).toNat * 5)) .i64 fun x3 =>
    (kLd w2 ⟨s_b, s_o + 6, none⟩ .i64 fun x4 =>
    (bsplit (!decide (x3 = x4))
      (R (.bool false) w2)
      ((kLdS w2 ⟨s_b, s_o + 8, none⟩ fun x_a2 x_l2 _ =>
      (∃ I : Int → Nat × (World → Prop), (I (0 : Int)).2 w2 ∧
      (∀ (_junk : Env) (x5 : Int) (w3 : World), (I x5).2 w3 →
        (bsplit (decide (x5 < (x_l2 : Int)))
          ((kIx x_a2 x_l2 x5 fun b1 =>
          (∃ x_0 : Int, ∃ x_1_a : Option Addr, ∃ x_1_l x_1_c : Nat, ∃ x_2 x_3 : Int, ∃ x_4_a : Option Addr, ∃ x_4_l x_4_c : Nat, cellsAt w3 (b1.add (x5.toNat * 5)) 0 [(.int .i64 x_0), (.slice x_1_a x_1_l x_1_c), (.int .i64 x_2), (.int .i64 x_3), (.slice x_4_a x_4_l x_4_c)] ∧
          (kAlloc w3 #[.int .i64 (0 : Int), .slice none 0 0, .int .i64 (0 : Int), .int .i64 (0 : Int), .slice none 0 0] Ty_api_Unit fun b2 w4 =>
          (sxStore w4 ⟨b2, 0, none⟩ 0 [(.int .i64 x_0), (.slice x_1_a x_1_l x_1_c), (.int .i64 x_2), (.int .i64 x_3), (.slice x_4_a x_4_l x_4_c)] fun w5 =>
          (∃ J : World → Prop,
          (∀ (_junk : Env)  (w10 : World), J w10 →
            (bsplit (decide (x5 > (0 : Int)))
              ((kLdS w10 ⟨s_b, s_o + 8, none⟩ fun x_a3 x_l3 _ =>
              (kW .i64 (x5 - (1 : Int)) fun x8 =>
              (kIx x_a3 x_l3 x8 fun b3 =>
              (∃ x_02 : Int, ∃ x_1_a2 : Option Addr, ∃ x_1_l2 x_1_c2 : Nat, ∃ x_22 x_32 : Int, ∃ x_4_a2 : Option Addr, ∃ x_4_l2 x_4_c2 : Nat, cellsAt w10 (b3.add (x8.toNat * 5)) 0 [(.int .i64 x_02), (.slice x_1_a2 x_1_l2 x_1_c2), (.int .i64 x_22), (.int .i64 x_32), (.slice x_4_a2 x_4_l2 x_4_c2)] ∧
              (kAlloc w10 #[.int .i64 (0 : Int), .slice none 0 0, .int .i64 (0 : Int), .int .i64 (0 : Int), .slice none 0 0] Ty_api_Unit fun b4 w11 =>
              (sxStore w11 ⟨b4, 0, none⟩ 0 [(.int .i64 x_02), (.slice x_1_a2 x_1_l2 x_1_c2), (.int .i64 x_22), (.int .i64 x_32), (.slice x_4_a2 x_4_l2 x_4_c2)] fun w12 =>
              (kDrew w12 fun w13 =>
              (∃ S1 : Nat → Prop,
              (kLd w13 ⟨b2, 0, none⟩ .i64 fun x9 =>
              (S1 b4 ∧
              (kLd w13 ⟨b4, 0, none⟩ .i64 fun x10 =>
              (Calls Try.prog N_sender_side_place #[(.pointer (some ⟨s_b, s_o, none⟩)), (.int .i64 x9)] w13 fun e_3 w14 =>
              ∃ r3 : Int, e_3 = .returned (.int .i64 r3) ∧
              (KeepsB S1 w13 w14 ∧ (Calls Try.prog N_sender_side_place #[(.pointer (some ⟨s_b, s_o, none⟩)), (.int .i64 x10)] w14 fun e_4 w15 =>
              ∃ r4 : Int, e_4 = .returned (.int .i64 r4) ∧
              (KeepsB S1 w13 w15 ∧ (bsplit (decide (r3 ≤ r4))
                (R (.bool false) w15)
                ((S1 b4 ∧
                (∃ x_03 : Int, ∃ x_1_a3 : Option Addr, ∃ x_1_l3 x_1_c3 : Nat, ∃ x_23 x_33 : Int, ∃ x_4_a3 : Option Addr, ∃ x_4_l3 x_4_c3 : Nat, cellsAt w13 ⟨b4, 0, none⟩ 0 [(.int .i64 x_03), (.slice x_1_a3 x_1_l3 x_1_c3), (.int .i64 x_23), (.int .i64 x_33), (.slice x_4_a3 x_4_l3 x_4_c3)] ∧
                (Calls Try.prog N_sender_whole #[(.agg #[.int .i64 x_03, .slice x_1_a3 x_1_l3 x_1_c3, .int .i64 x_23, .int .i64 x_33, .slice x_4_a3 x_4_l3 x_4_c3])] w15 fun e_5 w16 =>
                ∃ r5 : Bool, e_5 = .returned (.bool r5) ∧
                (KeepsB S1 w13 w16 ∧ (bsplit (!r5)
                  ((S1 b2 ∧
                  (kLd w13 ⟨b2, 2, none⟩ .i64 fun x12 =>
                  (bsplit (decide (x12 > (0 : Int)))
                    (R (.bool false) w16)
                    ((kW .i64 (x5 + (1 : Int)) fun x13 =>
                    ((I x13).2 w16 ∧ (I x13).1 < (I x5).1)))))))
                  ((kW .i64 (x5 + (1 : Int)) fun x14 =>
                    ((I x14).2 w16 ∧ (I x14).1 < (I x5).1))))))))))))))))))))))))))
              ((kW .i64 (x5 + (1 : Int)) fun x15 =>
              ((I x15).2 w10 ∧ (I x15).1 < (I x5).1))))) ∧
          (kDrew w5 fun w6 =>
          (∃ S : Nat → Prop,
          (∃ x_01 : Int, ∃ x_1_a1 : Option Addr, ∃ x_1_l1 x_1_c1 : Nat, ∃ x_21 x_31 : Int, ∃ x_4_a1 : Option Addr, ∃ x_4_l1 x_4_c1 : Nat, cellsAt w6 ⟨b2, 0, none⟩ 0 [(.int .i64 x_01), (.slice x_1_a1 x_1_l1 x_1_c1), (.int .i64 x_21), (.int .i64 x_31), (.slice x_4_a1 x_4_l1 x_4_c1)] ∧
          (Calls Try.prog N_sender_side_unit #[(.pointer (some ⟨s_b, s_o, none⟩)), (.agg #[.int .i64 x_01, .slice x_1_a1 x_1_l1 x_1_c1, .int .i64 x_21, .int .i64 x_31, .slice x_4_a1 x_4_l1 x_4_c1])] w6 fun e_ w7 =>
          ∃ r : Bool, e_ = .returned (.bool r) ∧
          (KeepsB S w6 w7 ∧ (bsplit (!r)
            (R (.bool false) w7)
            ((S b2 ∧
            (kLd w6 ⟨b2, 0, none⟩ .i64 fun x6 =>
            (S s_b ∧
            (kLd w6 ⟨s_b, s_o + 7, none⟩ .i64 fun x7 =>
            (Calls Try.prog N_sender_side_place #[(.pointer (some ⟨s_b, s_o, none⟩)), (.int .i64 x6)] w7 fun e_1 w8 =>
            ∃ r1 : Int, e_1 = .returned (.int .i64 r1) ∧
            (KeepsB S w6 w8 ∧ (Calls Try.prog N_sender_side_place #[(.pointer (some ⟨s_b, s_o, none⟩)), (.int .i64 x7)] w8 fun e_2 w9 =>
            ∃ r2 : Int, e_2 = .returned (.int .i64 r2) ∧
            (KeepsB S w6 w9 ∧ (bsplit (decide (r1 ≥ r2))
              (R (.bool false) w9)
              (J w9)))))))))))))))))))))))
          (R (.bool true) w3)))))))))))))))
theorem F_sender_side_units_eq (s_b : Nat) (s_o : Nat) (w : World) (R : Value → World → Prop) : sxFn Try.prog TT h_sender_side_units Try.f78 #[(.pointer (some ⟨s_b, s_o, none⟩))] w R = F_sender_side_units s_b s_o w R := by kernel_rfl
theorem F_sender_side_units_ok {R : Ending → World → Prop} (s_b : Nat) (s_o : Nat) (w : World) (h : F_sender_side_units s_b s_o w fun v w' => R (.returned v) w') : Calls Try.prog N_sender_side_units #[(.pointer (some ⟨s_b, s_o, none⟩))] w R :=
  calls_of (f := 78) follows_ok Try.func78 (Eq.mpr (F_sender_side_units_eq s_b s_o w _) h)

def h_sender_side_asked : H := (.seq .reg (.seq .reg .leaf))
def F_sender_side_asked (s_b : Nat) (s_o : Nat) (w : World) (R : Value → World → Prop) : Prop :=
  (kAlloc w #[(.pointer (some ⟨s_b, s_o, none⟩))] Ty_P_sender_side fun b w1 =>
  (∃ x : Option Addr, w1.cell? ⟨b, 0, none⟩ = some (.pointer x) ∧
  (kNil x fun x1 =>
  (kLdS w1 (x1.add 8) fun x_a x_l x_c =>
  (Calls Try.prog N_slices_ContainsFunc_Sapi_Unit_api_Unit #[(.slice x_a x_l x_c), (.func (.func N_sender_side_asked_1) #[] #[(.pointer (some ⟨b, 0, none⟩))])] w1 fun e_ w2 =>
  ∃ r : Bool, e_ = .returned (.bool r) ∧
  R (.bool r) w2)))))
theorem F_sender_side_asked_eq (s_b : Nat) (s_o : Nat) (w : World) (R : Value → World → Prop) : sxFn Try.prog TT h_sender_side_asked Try.f79 #[(.pointer (some ⟨s_b, s_o, none⟩))] w R = F_sender_side_asked s_b s_o w R := by kernel_rfl
theorem F_sender_side_asked_ok {R : Ending → World → Prop} (s_b : Nat) (s_o : Nat) (w : World) (h : F_sender_side_asked s_b s_o w fun v w' => R (.returned v) w') : Calls Try.prog N_sender_side_asked #[(.pointer (some ⟨s_b, s_o, none⟩))] w R :=
  calls_of (f := 79) follows_ok Try.func79 (Eq.mpr (F_sender_side_asked_eq s_b s_o w _) h)

def h_slices_Clone_Sapi_Unit_api_Unit : H := (.seq .reg (.seq (.seq .reg (.cond (.seq .reg .leaf) .leaf)) (.seq .reg .leaf)))
def F_slices_Clone_Sapi_Unit_api_Unit (s_a : Option Addr) (s_l : Nat) (s_c : Nat) (w : World) (R : Value → World → Prop) : Prop :=
  (bsplit s_a.isNone
    (R (.slice none 0 0) w)
    ((kAlloc w #[] Ty_api_Unit fun b w1 =>
    (AppP Try.prog #[Ty_S_api_Unit, Ty_S_api_Unit] Ty_S_api_Unit #[(.slice (some ⟨b, 0, none⟩) 0 0), (.slice s_a s_l s_c)] w1 fun x_a x_l x_c w2 =>
    R (.slice x_a x_l x_c) w2))))
theorem F_slices_Clone_Sapi_Unit_api_Unit_eq (s_a : Option Addr) (s_l : Nat) (s_c : Nat) (w : World) (R : Value → World → Prop) : sxFn Try.prog TT h_slices_Clone_Sapi_Unit_api_Unit Try.f80 #[(.slice s_a s_l s_c)] w R = F_slices_Clone_Sapi_Unit_api_Unit s_a s_l s_c w R := by kernel_rfl
theorem F_slices_Clone_Sapi_Unit_api_Unit_ok {R : Ending → World → Prop} (s_a : Option Addr) (s_l : Nat) (s_c : Nat) (w : World) (h : F_slices_Clone_Sapi_Unit_api_Unit s_a s_l s_c w fun v w' => R (.returned v) w') : Calls Try.prog N_slices_Clone_Sapi_Unit_api_Unit #[(.slice s_a s_l s_c)] w R :=
  calls_of (f := 80) follows_ok Try.func80 (Eq.mpr (F_slices_Clone_Sapi_Unit_api_Unit_eq s_a s_l s_c w _) h)

def h_slices_Clone_Sapi_Range_api_Range : H := (.seq .reg (.seq (.seq .reg (.cond (.seq .reg .leaf) .leaf)) (.seq .reg .leaf)))
def F_slices_Clone_Sapi_Range_api_Range (s_a : Option Addr) (s_l : Nat) (s_c : Nat) (w : World) (R : Value → World → Prop) : Prop :=
  (bsplit s_a.isNone
    (R (.slice none 0 0) w)
    ((kAlloc w #[] Ty_api_Range fun b w1 =>
    (AppP Try.prog #[Ty_S_api_Range, Ty_S_api_Range] Ty_S_api_Range #[(.slice (some ⟨b, 0, none⟩) 0 0), (.slice s_a s_l s_c)] w1 fun x_a x_l x_c w2 =>
    R (.slice x_a x_l x_c) w2))))
theorem F_slices_Clone_Sapi_Range_api_Range_eq (s_a : Option Addr) (s_l : Nat) (s_c : Nat) (w : World) (R : Value → World → Prop) : sxFn Try.prog TT h_slices_Clone_Sapi_Range_api_Range Try.f81 #[(.slice s_a s_l s_c)] w R = F_slices_Clone_Sapi_Range_api_Range s_a s_l s_c w R := by kernel_rfl
theorem F_slices_Clone_Sapi_Range_api_Range_ok {R : Ending → World → Prop} (s_a : Option Addr) (s_l : Nat) (s_c : Nat) (w : World) (h : F_slices_Clone_Sapi_Range_api_Range s_a s_l s_c w fun v w' => R (.returned v) w') : Calls Try.prog N_slices_Clone_Sapi_Range_api_Range #[(.slice s_a s_l s_c)] w R :=
  calls_of (f := 81) follows_ok Try.func81 (Eq.mpr (F_slices_Clone_Sapi_Range_api_Range_eq s_a s_l s_c w _) h)

def h_serial_Distance : H := (.seq .reg (.seq .reg .leaf))
def F_serial_Distance (n : Int) (a : Int) (b : Int) (w : World) (R : Value → World → Prop) : Prop :=
  (kW .i64 (b - a) fun x =>
  (Calls Try.prog N_serial_Low #[(.int .i64 n), (.int .i64 x)] w fun e_ w1 =>
  ∃ r : Int, e_ = .returned (.int .i64 r) ∧
  R (.int .i64 r) w1))
theorem F_serial_Distance_eq (n : Int) (a : Int) (b : Int) (w : World) (R : Value → World → Prop) : sxFn Try.prog TT h_serial_Distance Try.f82 #[(.int .i64 n), (.int .i64 a), (.int .i64 b)] w R = F_serial_Distance n a b w R := by kernel_rfl
theorem F_serial_Distance_ok {R : Ending → World → Prop} (n : Int) (a : Int) (b : Int) (w : World) (h : F_serial_Distance n a b w fun v w' => R (.returned v) w') : Calls Try.prog N_serial_Distance #[(.int .i64 n), (.int .i64 a), (.int .i64 b)] w R :=
  calls_of (f := 82) follows_ok Try.func82 (Eq.mpr (F_serial_Distance_eq n a b w _) h)

def h_serial_valid : H := (.seq .reg (.seq .reg .leaf))
def F_serial_valid (n : Int) (w : World) (R : Value → World → Prop) : Prop :=
  (bsplit (decide (n ≥ (1 : Int)))
    ((kLet (decide (n ≤ (32 : Int))) fun x =>
    R (.bool x) w))
    (R (.bool false) w))
theorem F_serial_valid_eq (n : Int) (w : World) (R : Value → World → Prop) : sxFn Try.prog TT h_serial_valid Try.f83 #[(.int .i64 n)] w R = F_serial_valid n w R := by kernel_rfl
theorem F_serial_valid_ok {R : Ending → World → Prop} (n : Int) (w : World) (h : F_serial_valid n w fun v w' => R (.returned v) w') : Calls Try.prog N_serial_valid #[(.int .i64 n)] w R :=
  calls_of (f := 83) follows_ok Try.func83 (Eq.mpr (F_serial_valid_eq n w _) h)

def h_slices_IndexFunc_Sapi_Unit_api_Unit : H := (.seq .reg (.seq (.seq .reg (.block (.loop [(8, .p (.int .i64))] [4, 5, 8, 9, 10, 11, 12, 13, 14, 15, 16, 17, 18] (.seq .reg (.seq (.cond .leaf .leaf) (.seq (.block (.seq .reg (.seq .reg (.cond (.seq .reg .leaf) .leaf)))) .reg)))))) (.seq .reg .leaf)))
def F_slices_IndexFunc_Sapi_Unit_api_Unit (s_a : Option Addr) (s_l : Nat) (_ : Nat) (f_g : Nat) (f_f : Array Value) (f_c : Array Value) (w : World) (R : Value → World → Prop) : Prop :=
  (∃ I : Int → Nat × (World → Prop), (I (0 : Int)).2 w ∧
  (∀ (_junk : Env) (x : Int) (w1 : World), (I x).2 w1 →
    (bsplit (decide (x < (s_l : Int)))
      ((kIx s_a s_l x fun b =>
      (∃ x_0 : Int, ∃ x_1_a : Option Addr, ∃ x_1_l x_1_c : Nat, ∃ x_2 x_3 : Int, ∃ x_4_a : Option Addr, ∃ x_4_l x_4_c : Nat, cellsAt w1 (b.add (x.toNat * 5)) 0 [(.int .i64 x_0), (.slice x_1_a x_1_l x_1_c), (.int .i64 x_2), (.int .i64 x_3), (.slice x_4_a x_4_l x_4_c)] ∧
      (okFn Try.prog f_g = true ∧ Calls Try.prog f_g (f_f ++ #[(.agg #[.int .i64 x_0, .slice x_1_a x_1_l x_1_c, .int .i64 x_2, .int .i64 x_3, .slice x_4_a x_4_l x_4_c])] ++ f_c) w1 fun e_ w2 =>
      ∃ r : Bool, e_ = .returned (.bool r) ∧
      (bsplit r
        (R (.int .i64 x) w2)
        ((kW .i64 (x + (1 : Int)) fun x1 =>
        ((I x1).2 w2 ∧ (I x1).1 < (I x).1))))))))
      (R (.int .i64 (-1 : Int)) w1))))
theorem F_slices_IndexFunc_Sapi_Unit_api_Unit_eq (s_a : Option Addr) (s_l : Nat) (s_c : Nat) (f_g : Nat) (f_f : Array Value) (f_c : Array Value) (w : World) (R : Value → World → Prop) : sxFn Try.prog TT h_slices_IndexFunc_Sapi_Unit_api_Unit Try.f84 #[(.slice s_a s_l s_c), (.func (.func f_g) f_f f_c)] w R = F_slices_IndexFunc_Sapi_Unit_api_Unit s_a s_l s_c f_g f_f f_c w R := by kernel_rfl
theorem F_slices_IndexFunc_Sapi_Unit_api_Unit_ok {R : Ending → World → Prop} (s_a : Option Addr) (s_l : Nat) (s_c : Nat) (f_g : Nat) (f_f : Array Value) (f_c : Array Value) (w : World) (h : F_slices_IndexFunc_Sapi_Unit_api_Unit s_a s_l s_c f_g f_f f_c w fun v w' => R (.returned v) w') : Calls Try.prog N_slices_IndexFunc_Sapi_Unit_api_Unit #[(.slice s_a s_l s_c), (.func (.func f_g) f_f f_c)] w R :=
  calls_of (f := 84) follows_ok Try.func84 (Eq.mpr (F_slices_IndexFunc_Sapi_Unit_api_Unit_eq s_a s_l s_c f_g f_f f_c w _) h)

def h_sender_side_left_1 : H := (.seq .reg (.seq .reg .leaf))
def F_sender_side_left_1 (u_0 : Int) (u_1_a : Option Addr) (u_1_l : Nat) (u_1_c : Nat) (u_2 : Int) (u_3 : Int) (u_4_a : Option Addr) (u_4_l : Nat) (u_4_c : Nat) (w : World) (R : Value → World → Prop) : Prop :=
  (kAlloc w #[(.int .i64 u_0), (.slice u_1_a u_1_l u_1_c), (.int .i64 u_2), (.int .i64 u_3), (.slice u_4_a u_4_l u_4_c)] Ty_api_Unit fun b w1 =>
  (kLdS w1 ⟨b, 4, none⟩ fun _ x_l _ =>
  (kLet (decide ((x_l : Int) > (0 : Int))) fun x =>
  R (.bool x) w1)))
theorem F_sender_side_left_1_eq (u_0 : Int) (u_1_a : Option Addr) (u_1_l : Nat) (u_1_c : Nat) (u_2 : Int) (u_3 : Int) (u_4_a : Option Addr) (u_4_l : Nat) (u_4_c : Nat) (w : World) (R : Value → World → Prop) : sxFn Try.prog TT h_sender_side_left_1 Try.f85 #[(.agg #[.int .i64 u_0, .slice u_1_a u_1_l u_1_c, .int .i64 u_2, .int .i64 u_3, .slice u_4_a u_4_l u_4_c])] w R = F_sender_side_left_1 u_0 u_1_a u_1_l u_1_c u_2 u_3 u_4_a u_4_l u_4_c w R := by kernel_rfl
theorem F_sender_side_left_1_ok {R : Ending → World → Prop} (u_0 : Int) (u_1_a : Option Addr) (u_1_l : Nat) (u_1_c : Nat) (u_2 : Int) (u_3 : Int) (u_4_a : Option Addr) (u_4_l : Nat) (u_4_c : Nat) (w : World) (h : F_sender_side_left_1 u_0 u_1_a u_1_l u_1_c u_2 u_3 u_4_a u_4_l u_4_c w fun v w' => R (.returned v) w') : Calls Try.prog N_sender_side_left_1 #[(.agg #[.int .i64 u_0, .slice u_1_a u_1_l u_1_c, .int .i64 u_2, .int .i64 u_3, .slice u_4_a u_4_l u_4_c])] w R :=
  calls_of (f := 85) follows_ok Try.func85 (Eq.mpr (F_sender_side_left_1_eq u_0 u_1_a u_1_l u_1_c u_2 u_3 u_4_a u_4_l u_4_c w _) h)

def h_sender_side_left_2 : H := (.seq .reg (.seq .reg .leaf))
def F_sender_side_left_2 (u_0 : Int) (u_1_a : Option Addr) (u_1_l : Nat) (u_1_c : Nat) (u_2 : Int) (u_3 : Int) (u_4_a : Option Addr) (u_4_l : Nat) (u_4_c : Nat) (w : World) (R : Value → World → Prop) : Prop :=
  (kAlloc w #[(.int .i64 u_0), (.slice u_1_a u_1_l u_1_c), (.int .i64 u_2), (.int .i64 u_3), (.slice u_4_a u_4_l u_4_c)] Ty_api_Unit fun b w1 =>
  (∃ x_0 : Int, ∃ x_1_a : Option Addr, ∃ x_1_l x_1_c : Nat, ∃ x_2 x_3 : Int, ∃ x_4_a : Option Addr, ∃ x_4_l x_4_c : Nat, cellsAt w1 ⟨b, 0, none⟩ 0 [(.int .i64 x_0), (.slice x_1_a x_1_l x_1_c), (.int .i64 x_2), (.int .i64 x_3), (.slice x_4_a x_4_l x_4_c)] ∧
  (Calls Try.prog N_sender_whole #[(.agg #[.int .i64 x_0, .slice x_1_a x_1_l x_1_c, .int .i64 x_2, .int .i64 x_3, .slice x_4_a x_4_l x_4_c])] w1 fun e_ w2 =>
  ∃ r : Bool, e_ = .returned (.bool r) ∧
  R (.bool (!r)) w2)))
theorem F_sender_side_left_2_eq (u_0 : Int) (u_1_a : Option Addr) (u_1_l : Nat) (u_1_c : Nat) (u_2 : Int) (u_3 : Int) (u_4_a : Option Addr) (u_4_l : Nat) (u_4_c : Nat) (w : World) (R : Value → World → Prop) : sxFn Try.prog TT h_sender_side_left_2 Try.f86 #[(.agg #[.int .i64 u_0, .slice u_1_a u_1_l u_1_c, .int .i64 u_2, .int .i64 u_3, .slice u_4_a u_4_l u_4_c])] w R = F_sender_side_left_2 u_0 u_1_a u_1_l u_1_c u_2 u_3 u_4_a u_4_l u_4_c w R := by kernel_rfl
theorem F_sender_side_left_2_ok {R : Ending → World → Prop} (u_0 : Int) (u_1_a : Option Addr) (u_1_l : Nat) (u_1_c : Nat) (u_2 : Int) (u_3 : Int) (u_4_a : Option Addr) (u_4_l : Nat) (u_4_c : Nat) (w : World) (h : F_sender_side_left_2 u_0 u_1_a u_1_l u_1_c u_2 u_3 u_4_a u_4_l u_4_c w fun v w' => R (.returned v) w') : Calls Try.prog N_sender_side_left_2 #[(.agg #[.int .i64 u_0, .slice u_1_a u_1_l u_1_c, .int .i64 u_2, .int .i64 u_3, .slice u_4_a u_4_l u_4_c])] w R :=
  calls_of (f := 86) follows_ok Try.func86 (Eq.mpr (F_sender_side_left_2_eq u_0 u_1_a u_1_l u_1_c u_2 u_3 u_4_a u_4_l u_4_c w _) h)

def h_segment_head : H := (.seq .reg (.seq (.seq .reg (.cond (.seq .reg .leaf) .leaf)) (.seq .reg .leaf)))
def F_segment_head (part : Int) (w : World) (R : Value → World → Prop) : Prop :=
  (Calls Try.prog N_segment_begins #[(.int .i64 part)] w fun e_ w1 =>
  ∃ r : Bool, e_ = .returned (.bool r) ∧
  (bsplit r
    (R (.int .i64 (2 : Int)) w1)
    (R (.int .i64 (4 : Int)) w1)))
theorem F_segment_head_eq (part : Int) (w : World) (R : Value → World → Prop) : sxFn Try.prog TT h_segment_head Try.f87 #[(.int .i64 part)] w R = F_segment_head part w R := by kernel_rfl
theorem F_segment_head_ok {R : Ending → World → Prop} (part : Int) (w : World) (h : F_segment_head part w fun v w' => R (.returned v) w') : Calls Try.prog N_segment_head #[(.int .i64 part)] w R :=
  calls_of (f := 87) follows_ok Try.func87 (Eq.mpr (F_segment_head_eq part w _) h)

def h_segment_Valid : H := (.seq .reg (.seq (.cut [(39, .p .bool)] [5, 6, 7, 8, 9, 10, 11, 12, 13, 14, 15, 16, 17, 18, 19, 20, 21, 22, 23, 24, 25, 26, 27, 28, 29, 30, 31, 32, 33, 34, 35, 36, 37, 38, 39] (.draw .blk (.one 0 .pre (.one 1 .keep (.one 2 .stable (.one 3 .stable (.one 4 .stable (.one 5 .stable (.one 6 .stable (.one 7 .stable (.one 8 .stable (.one 9 .stable (.one 10 .stable (.one 11 .stable (.one 12 .stable (.one 13 .stable (.one 14 .stable (.one 15 .stable (.one 16 .stable (.one 17 .stable (.one 18 .stable (.one 19 .stable (.one 20 .stable (.one 21 .stable (.one 22 .stable (.one 23 .stable (.one 24 .stable (.one 25 .stable (.one 26 .stable (.one 27 .stable (.one 28 .stable (.one 29 .stable (.one 30 .stable (.one 31 .stable (.one 32 .stable (.one 33 .stable (.one 34 .stable .nil)))))))))))))))))))))))))))))))))))) (.cond (.seq .reg .leaf) .leaf)) (.cut [] [4, 40, 41, 42, 43, 44, 45, 46, 47, 48, 49, 50, 51, 52, 53, 54, 55, 56] (.seq (.draw .blk (.one 0 .pre (.one 1 .pre (.one 3 .stable (.one 4 .stable (.one 5 .stable (.one 2 .keep (.one 6 .stable (.one 7 .stable (.one 8 .stable (.one 9 .stable (.one 10 .stable (.one 11 .stable (.one 12 .stable (.one 13 .stable (.one 14 .stable (.one 15 .stable (.one 16 .stable .nil)))))))))))))))))) (.cond (.seq .reg .leaf) .leaf)) (.seq .reg .leaf))))
def F_segment_Valid (bits : Int) (p_0 : Int) (p_1 : Int) (p_2 : Int) (p_3 : Int) (p_4_a : Option Addr) (p_4_l : Nat) (p_4_c : Nat) (w : World) (R : Value → World → Prop) : Prop :=
  (kAlloc w #[(.int .i64 p_0), (.int .i64 p_1), (.int .i64 p_2), (.int .i64 p_3), (.slice p_4_a p_4_l p_4_c)] Ty_api_Piece fun b w1 =>
  (∃ J : Bool → World → Prop,
  (∀ (_junk : Env) (x7 : Bool) (w4 : World), J x7 w4 →
    (bsplit x7
      (R (.bool false) w4)
      ((∃ J1 : World → Prop,
      (∀ (_junk : Env)  (w7 : World), J1 w7 →
        (kLdS w7 ⟨b, 4, none⟩ fun _ x_l _ =>
        (bsplit (decide ((x_l : Int) ≥ (1 : Int)))
          ((kLdS w7 ⟨b, 4, none⟩ fun _ x_l1 _ =>
          (kLd w7 ⟨b, 3, none⟩ .i64 fun x12 =>
          (kW .i64 ((2054 : Int) - x12) fun x13 =>
          (kLet (decide ((x_l1 : Int) ≤ x13)) fun x14 =>
          R (.bool x14) w7)))))
          (R (.bool false) w7)))) ∧
      (kDrew w4 fun w5 =>
      (∃ S1 : Nat → Prop,
      (kLd w5 ⟨b, 1, none⟩ .i64 fun x8 =>
      (S1 b ∧
      (kLd w5 ⟨b, 3, none⟩ .i64 fun x9 =>
      (Calls Try.prog N_segment_begins #[(.int .i64 x8)] w5 fun e_1 w6 =>
      ∃ r1 : Bool, e_1 = .returned (.bool r1) ∧
      (KeepsB S1 w5 w6 ∧ (bsplit (!(r1 == (decide (x9 = (0 : Int)))))
        (R (.bool false) w6)
        ((S1 b ∧
        (kLd w5 ⟨b, 3, none⟩ .i64 fun x10 =>
        (bsplit (decide (x10 < (0 : Int)))
          (R (.bool false) w6)
          ((S1 b ∧
          (kLd w5 ⟨b, 3, none⟩ .i64 fun x11 =>
          (bsplit (decide (x11 > (2054 : Int)))
            (R (.bool false) w6)
            (J1 w6))))))))))))))))))))) ∧
  (kDrew w1 fun w2 =>
  (∃ S : Nat → Prop,
  (Calls Try.prog N_counter_Bits #[(.int .i64 bits)] w2 fun e_ w3 =>
  ∃ r : Bool, e_ = .returned (.bool r) ∧
  (KeepsB S w2 w3 ∧ (bsplit (!r)
    (J true w3)
    ((S b ∧
    (kLd w2 ⟨b, 0, none⟩ .i64 fun x =>
    (bsplit (decide (x < (0 : Int)))
      (J true w3)
      ((S b ∧
      (kLd w2 ⟨b, 0, none⟩ .i64 fun x1 =>
      (0 ≤ bits ∧ (kW .i64 ((1 : Int) * 2 ^ (min bits.toNat (IntKind.bits .i64))) fun x2 =>
      (bsplit (decide (x1 ≥ x2))
        (J true w3)
        ((S b ∧
        (kLd w2 ⟨b, 1, none⟩ .i64 fun x3 =>
        (bsplit (decide (x3 < (0 : Int)))
          (J true w3)
          ((S b ∧
          (kLd w2 ⟨b, 1, none⟩ .i64 fun x4 =>
          (bsplit (decide (x4 > (3 : Int)))
            (J true w3)
            ((S b ∧
            (kLd w2 ⟨b, 2, none⟩ .i64 fun x5 =>
            (bsplit (decide (x5 < (0 : Int)))
              (J true w3)
              ((S b ∧
              (kLd w2 ⟨b, 2, none⟩ .i64 fun x6 =>
              J (decide (x6 > (1 : Int))) w3))))))))))))))))))))))))))))))))
theorem F_segment_Valid_eq (bits : Int) (p_0 : Int) (p_1 : Int) (p_2 : Int) (p_3 : Int) (p_4_a : Option Addr) (p_4_l : Nat) (p_4_c : Nat) (w : World) (R : Value → World → Prop) : sxFn Try.prog TT h_segment_Valid Try.f88 #[(.int .i64 bits), (.agg #[.int .i64 p_0, .int .i64 p_1, .int .i64 p_2, .int .i64 p_3, .slice p_4_a p_4_l p_4_c])] w R = F_segment_Valid bits p_0 p_1 p_2 p_3 p_4_a p_4_l p_4_c w R := by kernel_rfl
theorem F_segment_Valid_ok {R : Ending → World → Prop} (bits : Int) (p_0 : Int) (p_1 : Int) (p_2 : Int) (p_3 : Int) (p_4_a : Option Addr) (p_4_l : Nat) (p_4_c : Nat) (w : World) (h : F_segment_Valid bits p_0 p_1 p_2 p_3 p_4_a p_4_l p_4_c w fun v w' => R (.returned v) w') : Calls Try.prog N_segment_Valid #[(.int .i64 bits), (.agg #[.int .i64 p_0, .int .i64 p_1, .int .i64 p_2, .int .i64 p_3, .slice p_4_a p_4_l p_4_c])] w R :=
  calls_of (f := 88) follows_ok Try.func88 (Eq.mpr (F_segment_Valid_eq bits p_0 p_1 p_2 p_3 p_4_a p_4_l p_4_c w _) h)

def h_segment_begins : H := (.seq .reg (.seq .reg .leaf))
def F_segment_begins (part : Int) (w : World) (R : Value → World → Prop) : Prop :=
  (bsplit (decide (part = (0 : Int)))
    (R (.bool true) w)
    ((kLet (decide (part = (1 : Int))) fun x =>
    R (.bool x) w)))
theorem F_segment_begins_eq (part : Int) (w : World) (R : Value → World → Prop) : sxFn Try.prog TT h_segment_begins Try.f89 #[(.int .i64 part)] w R = F_segment_begins part w R := by kernel_rfl
theorem F_segment_begins_ok {R : Ending → World → Prop} (part : Int) (w : World) (h : F_segment_begins part w fun v w' => R (.returned v) w') : Calls Try.prog N_segment_begins #[(.int .i64 part)] w R :=
  calls_of (f := 89) follows_ok Try.func89 (Eq.mpr (F_segment_begins_eq part w _) h)

def h_segment_Ends : H := (.seq .reg (.seq .reg .leaf))
def F_segment_Ends (part : Int) (w : World) (R : Value → World → Prop) : Prop :=
  (bsplit (decide (part = (0 : Int)))
    (R (.bool true) w)
    ((kLet (decide (part = (2 : Int))) fun x =>
    R (.bool x) w)))
theorem F_segment_Ends_eq (part : Int) (w : World) (R : Value → World → Prop) : sxFn Try.prog TT h_segment_Ends Try.f90 #[(.int .i64 part)] w R = F_segment_Ends part w R := by kernel_rfl
theorem F_segment_Ends_ok {R : Ending → World → Prop} (part : Int) (w : World) (h : F_segment_Ends part w fun v w' => R (.returned v) w') : Calls Try.prog N_segment_Ends #[(.int .i64 part)] w R :=
  calls_of (f := 90) follows_ok Try.func90 (Eq.mpr (F_segment_Ends_eq part w _) h)

def h_ref18_Cut : H := (.seq .reg (.seq (.seq .reg (.cond (.seq .reg .leaf) .leaf)) (.seq .reg (.seq (.seq .reg (.cond (.seq .reg .leaf) .leaf)) (.seq (.seq .reg (.cond (.seq .reg (.seq .reg .leaf)) .leaf)) (.seq .reg (.cut [(11, .p .addr), (12, .p .addr)] [11, 12, 44, 45] (.draw .blk (.one 0 .stable (.one 1 .stable (.alt 2 (.one 3 .keep (.one 4 .keep (.one 5 .last .nil))) (.alt 3 (.one 2 .keep (.one 4 .keep (.one 5 .last .nil))) .endAlt))))) (.seq .reg (.seq .reg (.seq .reg (.cut [] [63, 64, 65, 66, 67, 68, 69, 70, 71, 72, 73, 74] (.seq .reg (.block (.seq .reg (.cond .reg (.seq .reg (.cond .reg (.seq .reg (.cond .reg .leaf)))))))) (.seq (.draw .blk (.one 0 .pre (.one 1 .stable (.one 2 .keep (.one 3 .keep (.one 4 .stable .nil)))))) .leaf))))))))))))
def F_ref18_Cut (bits : Int) (p_0 : Int) (p_1 : Int) (p_2 : Int) (p_3 : Int) (p_4_a : Option Addr) (p_4_l : Nat) (p_4_c : Nat) (size : Int) (w : World) (R : Value → World → Prop) : Prop :=
  (kAlloc w #[(.int .i64 p_0), (.int .i64 p_1), (.int .i64 p_2), (.int .i64 p_3), (.slice p_4_a p_4_l p_4_c)] Ty_api_Piece fun b w1 =>
  (kAlloc w1 #[.int .i64 (0 : Int), .int .i64 (0 : Int), .int .i64 (0 : Int), .int .i64 (0 : Int), .slice none 0 0] Ty_api_Piece fun b1 w2 =>
  (kAlloc w2 #[.int .i64 (0 : Int), .int .i64 (0 : Int), .int .i64 (0 : Int), .int .i64 (0 : Int), .slice none 0 0] Ty_api_Piece fun b2 w3 =>
  (∃ x_0 x_1 x_2 x_3 : Int, ∃ x_4_a : Option Addr, ∃ x_4_l x_4_c : Nat, cellsAt w3 ⟨b, 0, none⟩ 0 [(.int .i64 x_0), (.int .i64 x_1), (.int .i64 x_2), (.int .i64 x_3), (.slice x_4_a x_4_l x_4_c)] ∧
  (Calls Try.prog N_ref18_Valid #[(.int .i64 bits), (.agg #[.int .i64 x_0, .int .i64 x_1, .int .i64 x_2, .int .i64 x_3, .slice x_4_a x_4_l x_4_c])] w3 fun e_ w4 =>
  ∃ r : Bool, e_ = .returned (.bool r) ∧
  (bsplit (!r)
    ((sxStore w4 ⟨b1, 0, none⟩ 0 [(.int .i64 (0 : Int)), (.int .i64 (0 : Int)), (.int .i64 (0 : Int)), (.int .i64 (0 : Int)), (.slice none 0 0)] fun w5 =>
    (sxStore w5 ⟨b2, 0, none⟩ 0 [(.int .i64 (0 : Int)), (.int .i64 (0 : Int)), (.int .i64 (0 : Int)), (.int .i64 (0 : Int)), (.slice none 0 0)] fun w6 =>
    (∃ r_0 r_1 r_2 r_3 : Int, ∃ r_4_a : Option Addr, ∃ r_4_l r_4_c : Nat, cellsAt w6 ⟨b1, 0, none⟩ 0 [(.int .i64 r_0), (.int .i64 r_1), (.int .i64 r_2), (.int .i64 r_3), (.slice r_4_a r_4_l r_4_c)] ∧
    (∃ r_01 r_11 r_21 r_31 : Int, ∃ r_4_a1 : Option Addr, ∃ r_4_l1 r_4_c1 : Nat, cellsAt w6 ⟨b2, 0, none⟩ 0 [(.int .i64 r_01), (.int .i64 r_11), (.int .i64 r_21), (.int .i64 r_31), (.slice r_4_a1 r_4_l1 r_4_c1)] ∧
    R (.tuple #[(.agg #[.int .i64 r_0, .int .i64 r_1, .int .i64 r_2, .int .i64 r_3, .slice r_4_a r_4_l r_4_c]), (.agg #[.int .i64 r_01, .int .i64 r_11, .int .i64 r_21, .int .i64 r_31, .slice r_4_a1 r_4_l1 r_4_c1]), (.int .i64 (1 : Int))]) w6)))))
    ((kLd w4 ⟨b, 1, none⟩ .i64 fun x =>
    (Calls Try.prog N_ref18_Head #[(.int .i64 x)] w4 fun e_1 w7 =>
    ∃ r1 : Int, e_1 = .returned (.int .i64 r1) ∧
    (kW .i64 (r1 + (1 : Int)) fun x1 =>
    (bsplit (decide (size < x1))
      ((sxStore w7 ⟨b1, 0, none⟩ 0 [(.int .i64 (0 : Int)), (.int .i64 (0 : Int)), (.int .i64 (0 : Int)), (.int .i64 (0 : Int)), (.slice none 0 0)] fun w8 =>
      (sxStore w8 ⟨b2, 0, none⟩ 0 [(.int .i64 (0 : Int)), (.int .i64 (0 : Int)), (.int .i64 (0 : Int)), (.int .i64 (0 : Int)), (.slice none 0 0)] fun w9 =>
      (∃ r_02 r_12 r_22 r_32 : Int, ∃ r_4_a2 : Option Addr, ∃ r_4_l2 r_4_c2 : Nat, cellsAt w9 ⟨b1, 0, none⟩ 0 [(.int .i64 r_02), (.int .i64 r_12), (.int .i64 r_22), (.int .i64 r_32), (.slice r_4_a2 r_4_l2 r_4_c2)] ∧
      (∃ r_03 r_13 r_23 r_33 : Int, ∃ r_4_a3 : Option Addr, ∃ r_4_l3 r_4_c3 : Nat, cellsAt w9 ⟨b2, 0, none⟩ 0 [(.int .i64 r_03), (.int .i64 r_13), (.int .i64 r_23), (.int .i64 r_33), (.slice r_4_a3 r_4_l3 r_4_c3)] ∧
      R (.tuple #[(.agg #[.int .i64 r_02, .int .i64 r_12, .int .i64 r_22, .int .i64 r_32, .slice r_4_a2 r_4_l2 r_4_c2]), (.agg #[.int .i64 r_03, .int .i64 r_13, .int .i64 r_23, .int .i64 r_33, .slice r_4_a3 r_4_l3 r_4_c3]), (.int .i64 (15 : Int))]) w9)))))
      ((kLdS w7 ⟨b, 4, none⟩ fun _ x_l _ =>
      (kW .i64 (r1 + (x_l : Int)) fun x2 =>
      (bsplit (decide (size ≥ x2))
        ((kLdS w7 ⟨b, 4, none⟩ fun x_a1 x_l1 x_c1 =>
        (AppP Try.prog #[Ty_S_uint8, Ty_S_uint8] Ty_S_uint8 #[(.slice none 0 0), (.slice x_a1 x_l1 x_c1)] w7 fun x_a2 x_l2 x_c2 w10 =>
        (kSet w10 ⟨b, 4, none⟩ (.slice x_a2 x_l2 x_c2) fun w11 =>
        (∃ x_01 x_11 x_21 x_31 : Int, ∃ x_4_a1 : Option Addr, ∃ x_4_l1 x_4_c1 : Nat, cellsAt w11 ⟨b, 0, none⟩ 0 [(.int .i64 x_01), (.int .i64 x_11), (.int .i64 x_21), (.int .i64 x_31), (.slice x_4_a1 x_4_l1 x_4_c1)] ∧
        (sxStore w11 ⟨b1, 0, none⟩ 0 [(.int .i64 x_01), (.int .i64 x_11), (.int .i64 x_21), (.int .i64 x_31), (.slice x_4_a1 x_4_l1 x_4_c1)] fun w12 =>
        (sxStore w12 ⟨b2, 0, none⟩ 0 [(.int .i64 (0 : Int)), (.int .i64 (0 : Int)), (.int .i64 (0 : Int)), (.int .i64 (0 : Int)), (.slice none 0 0)] fun w13 =>
        (∃ r_04 r_14 r_24 r_34 : Int, ∃ r_4_a4 : Option Addr, ∃ r_4_l4 r_4_c4 : Nat, cellsAt w13 ⟨b1, 0, none⟩ 0 [(.int .i64 r_04), (.int .i64 r_14), (.int .i64 r_24), (.int .i64 r_34), (.slice r_4_a4 r_4_l4 r_4_c4)] ∧
        (∃ r_05 r_15 r_25 r_35 : Int, ∃ r_4_a5 : Option Addr, ∃ r_4_l5 r_4_c5 : Nat, cellsAt w13 ⟨b2, 0, none⟩ 0 [(.int .i64 r_05), (.int .i64 r_15), (.int .i64 r_25), (.int .i64 r_35), (.slice r_4_a5 r_4_l5 r_4_c5)] ∧
        R (.tuple #[(.agg #[.int .i64 r_04, .int .i64 r_14, .int .i64 r_24, .int .i64 r_34, .slice r_4_a4 r_4_l4 r_4_c4]), (.agg #[.int .i64 r_05, .int .i64 r_15, .int .i64 r_25, .int .i64 r_35, .slice r_4_a5 r_4_l5 r_4_c5]), (.int .i64 (0 : Int))]) w13)))))))))
        ((kW .i64 (size - r1) fun x3 =>
        (∃ J : Addr → Addr → World → Prop,
        (∀ (_junk : Env) (first : Addr) (rest : Addr) (w23 : World), J first rest w23 →
          (kLdS w23 ⟨b, 4, none⟩ fun x_a3 _ x_c3 =>
          ((0 ≤ x3 ∧ x3 ≤ ((x_c3 : Nat) : Int)) ∧ (AppP Try.prog #[Ty_S_uint8, Ty_S_uint8] Ty_S_uint8 #[(.slice none 0 0), (.slice (slAddr x_c3 0 1 x_a3) (x3.toNat - 0) (x_c3 - 0))] w23 fun x_a4 x_l4 x_c4 w24 =>
          (kSet w24 (first.add 4) (.slice x_a4 x_l4 x_c4) fun w25 =>
          (kLdS w25 ⟨b, 4, none⟩ fun x_a5 x_l5 x_c5 =>
          ((0 ≤ x3 ∧ x3 ≤ ((x_l5 : Nat) : Int)) ∧ (AppP Try.prog #[Ty_S_uint8, Ty_S_uint8] Ty_S_uint8 #[(.slice none 0 0), (.slice (slAddr x_c5 (x3.toNat) 1 x_a5) (x_l5 - x3.toNat) (x_c5 - x3.toNat))] w25 fun x_a6 x_l6 x_c6 w26 =>
          (kSet w26 (rest.add 4) (.slice x_a6 x_l6 x_c6) fun w27 =>
          (kLd w27 ⟨b, 3, none⟩ .i64 fun x4 =>
          (kW .i64 (x4 + x3) fun x5 =>
          (kSet w27 (rest.add 3) (.int .i64 x5) fun w28 =>
          (∃ J1 : World → Prop,
          (∀ (_junk : Env)  (w33 : World), J1 w33 →
            (kDrew w33 fun w34 =>
            (∃ S1 : Nat → Prop,
            (∃ x_04 x_14 x_24 x_34 : Int, ∃ x_4_a4 : Option Addr, ∃ x_4_l4 x_4_c4 : Nat, cellsAt w34 first 0 [(.int .i64 x_04), (.int .i64 x_14), (.int .i64 x_24), (.int .i64 x_34), (.slice x_4_a4 x_4_l4 x_4_c4)] ∧
            (S1 rest.block ∧
            (∃ x_05 x_15 x_25 x_35 : Int, ∃ x_4_a5 : Option Addr, ∃ x_4_l5 x_4_c5 : Nat, cellsAt w34 rest 0 [(.int .i64 x_05), (.int .i64 x_15), (.int .i64 x_25), (.int .i64 x_35), (.slice x_4_a5 x_4_l5 x_4_c5)] ∧
            (sxStore w34 ⟨b1, 0, none⟩ 0 [(.int .i64 x_04), (.int .i64 x_14), (.int .i64 x_24), (.int .i64 x_34), (.slice x_4_a4 x_4_l4 x_4_c4)] fun w35 =>
            (KeepsB S1 w34 w35 ∧ (sxStore w35 ⟨b2, 0, none⟩ 0 [(.int .i64 x_05), (.int .i64 x_15), (.int .i64 x_25), (.int .i64 x_35), (.slice x_4_a5 x_4_l5 x_4_c5)] fun w36 =>
            (KeepsB S1 w34 w36 ∧ (∃ r_06 r_16 r_26 r_36 : Int, ∃ r_4_a6 : Option Addr, ∃ r_4_l6 r_4_c6 : Nat, cellsAt w36 ⟨b1, 0, none⟩ 0 [(.int .i64 r_06), (.int .i64 r_16), (.int .i64 r_26), (.int .i64 r_36), (.slice r_4_a6 r_4_l6 r_4_c6)] ∧
            (∃ r_07 r_17 r_27 r_37 : Int, ∃ r_4_a7 : Option Addr, ∃ r_4_l7 r_4_c7 : Nat, cellsAt w36 ⟨b2, 0, none⟩ 0 [(.int .i64 r_07), (.int .i64 r_17), (.int .i64 r_27), (.int .i64 r_37), (.slice r_4_a7 r_4_l7 r_4_c7)] ∧
            R (.tuple #[(.agg #[.int .i64 r_06, .int .i64 r_16, .int .i64 r_26, .int .i64 r_36, .slice r_4_a6 r_4_l6 r_4_c6]), (.agg #[.int .i64 r_07, .int .i64 r_17, .int .i64 r_27, .int .i64 r_37, .slice r_4_a7 r_4_l7 r_4_c7]), (.int .i64 (0 : Int))]) w36)))))))))))) ∧
          (kLd w28 ⟨b, 1, none⟩ .i64 fun x6 =>
          (kLet (decide (x6 = (0 : Int))) fun x7 =>
          (bsplit x7
            ((kSet w28 (first.add 1) (.int .i64 (1 : Int)) fun w29 =>
            (kSet w29 (rest.add 1) (.int .i64 (2 : Int)) fun w30 =>
            J1 w30)))
            ((kLet (decide (x6 = (1 : Int))) fun x8 =>
            (bsplit x8
              ((kSet w28 (rest.add 1) (.int .i64 (3 : Int)) fun w31 =>
              J1 w31))
              ((kLet (decide (x6 = (2 : Int))) fun x9 =>
              (bsplit x9
                ((kSet w28 (first.add 1) (.int .i64 (3 : Int)) fun w32 =>
                J1 w32))
                (J1 w28))))))))))))))))))))))) ∧
        (kDrew w7 fun w14 =>
        (∃ S : Nat → Prop,
        (S b ∧
        (∃ x_02 x_12 x_22 x_32 : Int, ∃ x_4_a2 : Option Addr, ∃ x_4_l2 x_4_c2 : Nat, cellsAt w14 ⟨b, 0, none⟩ 0 [(.int .i64 x_02), (.int .i64 x_12), (.int .i64 x_22), (.int .i64 x_32), (.slice x_4_a2 x_4_l2 x_4_c2)] ∧
        (S b ∧
        (∃ x_03 x_13 x_23 x_33 : Int, ∃ x_4_a3 : Option Addr, ∃ x_4_l3 x_4_c3 : Nat, cellsAt w14 ⟨b, 0, none⟩ 0 [(.int .i64 x_03), (.int .i64 x_13), (.int .i64 x_23), (.int .i64 x_33), (.slice x_4_a3 x_4_l3 x_4_c3)] ∧
        ((kAlloc w14 #[.int .i64 (0 : Int), .int .i64 (0 : Int), .int .i64 (0 : Int), .int .i64 (0 : Int), .slice none 0 0] Ty_api_Piece fun b5 w19 =>
        (KeepsB S w14 w19 ∧ (kAlloc w19 #[.int .i64 (0 : Int), .int .i64 (0 : Int), .int .i64 (0 : Int), .int .i64 (0 : Int), .slice none 0 0] Ty_api_Piece fun b6 w20 =>
        (KeepsB S w14 w20 ∧ (sxStore w20 ⟨b5, 0, none⟩ 0 [(.int .i64 x_02), (.int .i64 x_12), (.int .i64 x_22), (.int .i64 x_32), (.slice x_4_a2 x_4_l2 x_4_c2)] fun w21 =>
        (KeepsB S w14 w21 ∧ (sxStore w21 ⟨b6, 0, none⟩ 0 [(.int .i64 x_03), (.int .i64 x_13), (.int .i64 x_23), (.int .i64 x_33), (.slice x_4_a3 x_4_l3 x_4_c3)] fun w22 =>
        J ⟨b5, 0, none⟩ ⟨b6, 0, none⟩ w22))))))) ∧
        ((kAlloc w14 #[.int .i64 (0 : Int), .int .i64 (0 : Int), .int .i64 (0 : Int), .int .i64 (0 : Int), .slice none 0 0] Ty_api_Piece fun b3 w15 =>
        (KeepsB S w14 w15 ∧ (kAlloc w15 #[.int .i64 (0 : Int), .int .i64 (0 : Int), .int .i64 (0 : Int), .int .i64 (0 : Int), .slice none 0 0] Ty_api_Piece fun b4 w16 =>
        (KeepsB S w14 w16 ∧ (sxStore w16 ⟨b4, 0, none⟩ 0 [(.int .i64 x_02), (.int .i64 x_12), (.int .i64 x_22), (.int .i64 x_32), (.slice x_4_a2 x_4_l2 x_4_c2)] fun w17 =>
        (KeepsB S w14 w17 ∧ (sxStore w17 ⟨b3, 0, none⟩ 0 [(.int .i64 x_03), (.int .i64 x_13), (.int .i64 x_23), (.int .i64 x_33), (.slice x_4_a3 x_4_l3 x_4_c3)] fun w18 =>
        J ⟨b4, 0, none⟩ ⟨b3, 0, none⟩ w18))))))) ∧
        True))))))))))))))))))))))))))
theorem F_ref18_Cut_eq (bits : Int) (p_0 : Int) (p_1 : Int) (p_2 : Int) (p_3 : Int) (p_4_a : Option Addr) (p_4_l : Nat) (p_4_c : Nat) (size : Int) (w : World) (R : Value → World → Prop) : sxFn Try.prog TT h_ref18_Cut Try.f91 #[(.int .i64 bits), (.agg #[.int .i64 p_0, .int .i64 p_1, .int .i64 p_2, .int .i64 p_3, .slice p_4_a p_4_l p_4_c]), (.int .i64 size)] w R = F_ref18_Cut bits p_0 p_1 p_2 p_3 p_4_a p_4_l p_4_c size w R := by kernel_rfl
theorem F_ref18_Cut_ok {R : Ending → World → Prop} (bits : Int) (p_0 : Int) (p_1 : Int) (p_2 : Int) (p_3 : Int) (p_4_a : Option Addr) (p_4_l : Nat) (p_4_c : Nat) (size : Int) (w : World) (h : F_ref18_Cut bits p_0 p_1 p_2 p_3 p_4_a p_4_l p_4_c size w fun v w' => R (.returned v) w') : Calls Try.prog N_ref18_Cut #[(.int .i64 bits), (.agg #[.int .i64 p_0, .int .i64 p_1, .int .i64 p_2, .int .i64 p_3, .slice p_4_a p_4_l p_4_c]), (.int .i64 size)] w R :=
  calls_of (f := 91) follows_ok Try.func91 (Eq.mpr (F_ref18_Cut_eq bits p_0 p_1 p_2 p_3 p_4_a p_4_l p_4_c size w _) h)

def h_ref18_Encode : H := (.seq .reg (.seq (.seq .reg (.cond (.seq .reg .leaf) .leaf)) (.seq .reg (.seq (.seq .reg (.cond .reg .leaf)) (.seq .reg .leaf)))))
def F_ref18_Encode (bits : Int) (p_0 : Int) (p_1 : Int) (p_2 : Int) (p_3 : Int) (p_4_a : Option Addr) (p_4_l : Nat) (p_4_c : Nat) (w : World) (R : Value → World → Prop) : Prop :=
  (kAlloc w #[(.int .i64 p_0), (.int .i64 p_1), (.int .i64 p_2), (.int .i64 p_3), (.slice p_4_a p_4_l p_4_c)] Ty_api_Piece fun b w1 =>
  (∃ x_0 x_1 x_2 x_3 : Int, ∃ x_4_a : Option Addr, ∃ x_4_l x_4_c : Nat, cellsAt w1 ⟨b, 0, none⟩ 0 [(.int .i64 x_0), (.int .i64 x_1), (.int .i64 x_2), (.int .i64 x_3), (.slice x_4_a x_4_l x_4_c)] ∧
  (Calls Try.prog N_ref18_Valid #[(.int .i64 bits), (.agg #[.int .i64 x_0, .int .i64 x_1, .int .i64 x_2, .int .i64 x_3, .slice x_4_a x_4_l x_4_c])] w1 fun e_ w2 =>
  ∃ r : Bool, e_ = .returned (.bool r) ∧
  (bsplit (!r)
    (R (.tuple #[(.slice none 0 0), (.int .i64 (1 : Int))]) w2)
    ((kLd w2 ⟨b, 2, none⟩ .i64 fun x =>
    (kW .i64 ((16384 : Int) * x) fun x1 =>
    (kW .i64 ((32768 : Int) + x1) fun x2 =>
    (kLd w2 ⟨b, 1, none⟩ .i64 fun x3 =>
    (kW .i64 ((4096 : Int) * x3) fun x4 =>
    (kW .i64 (x2 + x4) fun x5 =>
    (kLd w2 ⟨b, 0, none⟩ .i64 fun x6 =>
    (kW .i64 (x5 + x6) fun x7 =>
    (Calls Try.prog N_ref01_Put #[(.slice none 0 0), (.int .i64 (2 : Int)), (.int .i64 x7)] w2 fun e_1 w3 =>
    ∃ r_a : Option Addr, ∃ r_l r_c : Nat, e_1 = .returned (.slice r_a r_l r_c) ∧
    (kLd w3 ⟨b, 1, none⟩ .i64 fun x8 =>
    (Calls Try.prog N_ref18_Head #[(.int .i64 x8)] w3 fun e_2 w4 =>
    ∃ r1 : Int, e_2 = .returned (.int .i64 r1) ∧
    (bsplit (decide (r1 = (4 : Int)))
      ((kLd w4 ⟨b, 3, none⟩ .i64 fun x9 =>
      (Calls Try.prog N_ref01_Put #[(.slice r_a r_l r_c), (.int .i64 (2 : Int)), (.int .i64 x9)] w4 fun e_3 w5 =>
      ∃ r_a1 : Option Addr, ∃ r_l1 r_c1 : Nat, e_3 = .returned (.slice r_a1 r_l1 r_c1) ∧
      (kLdS w5 ⟨b, 4, none⟩ fun x_a x_l x_c =>
      (AppP Try.prog #[Ty_S_uint8, Ty_S_uint8] Ty_S_uint8 #[(.slice r_a1 r_l1 r_c1), (.slice x_a x_l x_c)] w5 fun x_a1 x_l1 x_c1 w6 =>
      R (.tuple #[(.slice x_a1 x_l1 x_c1), (.int .i64 (0 : Int))]) w6)))))
      ((kLdS w4 ⟨b, 4, none⟩ fun x_a2 x_l2 x_c2 =>
      (AppP Try.prog #[Ty_S_uint8, Ty_S_uint8] Ty_S_uint8 #[(.slice r_a r_l r_c), (.slice x_a2 x_l2 x_c2)] w4 fun x_a3 x_l3 x_c3 w7 =>
      R (.tuple #[(.slice x_a3 x_l3 x_c3), (.int .i64 (0 : Int))]) w7))))))))))))))))))))
theorem F_ref18_Encode_eq (bits : Int) (p_0 : Int) (p_1 : Int) (p_2 : Int) (p_3 : Int) (p_4_a : Option Addr) (p_4_l : Nat) (p_4_c : Nat) (w : World) (R : Value → World → Prop) : sxFn Try.prog TT h_ref18_Encode Try.f92 #[(.int .i64 bits), (.agg #[.int .i64 p_0, .int .i64 p_1, .int .i64 p_2, .int .i64 p_3, .slice p_4_a p_4_l p_4_c])] w R = F_ref18_Encode bits p_0 p_1 p_2 p_3 p_4_a p_4_l p_4_c w R := by kernel_rfl
theorem F_ref18_Encode_ok {R : Ending → World → Prop} (bits : Int) (p_0 : Int) (p_1 : Int) (p_2 : Int) (p_3 : Int) (p_4_a : Option Addr) (p_4_l : Nat) (p_4_c : Nat) (w : World) (h : F_ref18_Encode bits p_0 p_1 p_2 p_3 p_4_a p_4_l p_4_c w fun v w' => R (.returned v) w') : Calls Try.prog N_ref18_Encode #[(.int .i64 bits), (.agg #[.int .i64 p_0, .int .i64 p_1, .int .i64 p_2, .int .i64 p_3, .slice p_4_a p_4_l p_4_c])] w R :=
  calls_of (f := 92) follows_ok Try.func92 (Eq.mpr (F_ref18_Encode_eq bits p_0 p_1 p_2 p_3 p_4_a p_4_l p_4_c w _) h)

def h_ref02_valid : H := (.seq .reg (.seq .reg .leaf))
def F_ref02_valid (n : Int) (w : World) (R : Value → World → Prop) : Prop :=
  (bsplit (decide (n ≥ (1 : Int)))
    ((kLet (decide (n ≤ (32 : Int))) fun x =>
    R (.bool x) w))
    (R (.bool false) w))
theorem F_ref02_valid_eq (n : Int) (w : World) (R : Value → World → Prop) : sxFn Try.prog TT h_ref02_valid Try.f93 #[(.int .i64 n)] w R = F_ref02_valid n w R := by kernel_rfl
theorem F_ref02_valid_ok {R : Ending → World → Prop} (n : Int) (w : World) (h : F_ref02_valid n w fun v w' => R (.returned v) w') : Calls Try.prog N_ref02_valid #[(.int .i64 n)] w R :=
  calls_of (f := 93) follows_ok Try.func93 (Eq.mpr (F_ref02_valid_eq n w _) h)

def h_status_Whole : H := (.seq .reg (.seq .reg .leaf))
def F_status_Whole (r_0 : Int) (r_1 : Int) (r_2 : Int) (w : World) (R : Value → World → Prop) : Prop :=
  (kAlloc w #[(.int .i64 r_0), (.int .i64 r_1), (.int .i64 r_2)] Ty_api_Range fun b w1 =>
  (kLd w1 ⟨b, 1, none⟩ .i64 fun x =>
  (bsplit (decide (x = (0 : Int)))
    ((kLd w1 ⟨b, 2, none⟩ .i64 fun x1 =>
    (kLet (decide (x1 = (0 : Int))) fun x2 =>
    R (.bool x2) w1)))
    (R (.bool false) w1))))
theorem F_status_Whole_eq (r_0 : Int) (r_1 : Int) (r_2 : Int) (w : World) (R : Value → World → Prop) : sxFn Try.prog TT h_status_Whole Try.f94 #[(.agg #[.int .i64 r_0, .int .i64 r_1, .int .i64 r_2])] w R = F_status_Whole r_0 r_1 r_2 w R := by kernel_rfl
theorem F_status_Whole_ok {R : Ending → World → Prop} (r_0 : Int) (r_1 : Int) (r_2 : Int) (w : World) (h : F_status_Whole r_0 r_1 r_2 w fun v w' => R (.returned v) w') : Calls Try.prog N_status_Whole #[(.agg #[.int .i64 r_0, .int .i64 r_1, .int .i64 r_2])] w R :=
  calls_of (f := 94) follows_ok Try.func94 (Eq.mpr (F_status_Whole_eq r_0 r_1 r_2 w _) h)

def h_status_part : H := (.seq .reg (.seq .reg .leaf))
def F_status_part (r_0 : Int) (r_1 : Int) (r_2 : Int) (w : World) (R : Value → World → Prop) : Prop :=
  (kAlloc w #[(.int .i64 r_0), (.int .i64 r_1), (.int .i64 r_2)] Ty_api_Range fun b w1 =>
  (kLd w1 ⟨b, 1, none⟩ .i64 fun x =>
  (bsplit (decide (x ≥ (0 : Int)))
    ((kLd w1 ⟨b, 1, none⟩ .i64 fun x1 =>
    (kLd w1 ⟨b, 2, none⟩ .i64 fun x2 =>
    (bsplit (decide (x1 < x2))
      ((kLd w1 ⟨b, 2, none⟩ .i64 fun x3 =>
      (kLet (decide (x3 ≤ (65535 : Int))) fun x4 =>
      R (.bool x4) w1)))
      (R (.bool false) w1)))))
    (R (.bool false) w1))))
theorem F_status_part_eq (r_0 : Int) (r_1 : Int) (r_2 : Int) (w : World) (R : Value → World → Prop) : sxFn Try.prog TT h_status_part Try.f95 #[(.agg #[.int .i64 r_0, .int .i64 r_1, .int .i64 r_2])] w R = F_status_part r_0 r_1 r_2 w R := by kernel_rfl
theorem F_status_part_ok {R : Ending → World → Prop} (r_0 : Int) (r_1 : Int) (r_2 : Int) (w : World) (h : F_status_part r_0 r_1 r_2 w fun v w' => R (.returned v) w') : Calls Try.prog N_status_part #[(.agg #[.int .i64 r_0, .int .i64 r_1, .int .i64 r_2])] w R :=
  calls_of (f := 95) follows_ok Try.func95 (Eq.mpr (F_status_part_eq r_0 r_1 r_2 w _) h)

def h_ref20_unit : H := (.seq .reg (.seq (.cut [(62, .p .bool)] [6, 7, 8, 9, 10, 11, 12, 13, 14, 15, 16, 17, 18, 19, 20, 21, 22, 23, 24, 25, 26, 27, 28, 29, 30, 31, 32, 33, 34, 35, 36, 37, 38, 39, 40, 41, 42, 43, 44, 45, 46, 47, 48, 49, 50, 51, 52, 53, 54, 55, 56, 57, 58, 59, 60, 61, 62] .reg (.cond (.seq .reg .leaf) .leaf)) (.seq (.seq .reg (.block (.loop [(5, .p (.int .i64))] [4, 5, 63, 64, 65, 66, 67, 68, 69, 70, 71, 72, 73, 74, 75, 76, 77, 78, 79, 80, 81, 82, 83, 84, 85, 86, 87, 88, 89] (.seq (.seq .reg (.cond .leaf .leaf)) (.seq (.block (.seq (.draw .no (.one 0 .stable (.one 1 .stable (.one 2 .stable (.one 3 .stable (.one 4 .stable (.one 5 .stable (.one 6 .stable (.one 7 .stable (.one 8 .stable (.one 9 .stable (.one 10 .stable (.one 11 .stable (.one 12 .stable (.one 13 .stable (.one 14 .stable (.one 15 .stable (.one 16 .stable (.one 17 .stable (.one 18 .stable (.one 19 .stable .nil))))))))))))))))))))) (.cond (.seq .reg .leaf) .leaf))) .reg))))) (.seq .reg .leaf))))
def F_ref20_unit (s_0 : Int) (s_1 : Int) (s_2 : Int) (s_3 : Int) (s_4 : Int) (s_5 : Int) (s_6 : Int) (s_7 : Int) (s_8_a : Option Addr) (s_8_l : Nat) (s_8_c : Nat) (s_9 : Int) (s_10 : Int) (s_11 : Int) (s_12 : Bool) (u_0 : Int) (u_1_a : Option Addr) (u_1_l : Nat) (u_1_c : Nat) (u_2 : Int) (u_3 : Int) (u_4_a : Option Addr) (u_4_l : Nat) (u_4_c : Nat) (w : World) (R : Value → World → Prop) : Prop :=
  (kAlloc w #[(.int .i64 s_0), (.int .i64 s_1), (.int .i64 s_2), (.int .i64 s_3), (.int .i64 s_4), (.int .i64 s_5), (.int .i64 s_6), (.int .i64 s_7), (.slice s_8_a s_8_l s_8_c), (.int .i64 s_9), (.int .i64 s_10), (.int .i64 s_11), (.bool s_12)] Ty_api_Sender fun b w1 =>
  (kAlloc w1 #[(.int .i64 u_0), (.slice u_1_a u_1_l u_1_c), (.int .i64 u_2), (.int .i64 u_3), (.slice u_4_a u_4_l u_4_c)] Ty_api_Unit fun b1 w2 =>
  (∃ J : Bool → World → Prop,
  (∀ (_junk : Env) (x10 : Bool) (w4 : World), J x10 w4 →
    (bsplit x10
      (R (.bool false) w4)
      ((∃ I : Int → Nat × (World → Prop), (I (0 : Int)).2 w4 ∧
      (∀ (_junk : Env) (i : Int) (w5 : World), (I i).2 w5 →
        (kLdS w5 ⟨b1, 4, none⟩ fun _ x_l4 _ =>
        (bsplit (decide (i < (x_l4 : Int)))
          ((kDrew w5 fun w6 =>
          (kLdS w6 ⟨b1, 4, none⟩ fun x_a5 x_l5 _ =>
          (kIx x_a5 x_l5 i fun b2 =>
          (kLd w6 (b2.add (i.toNat * 3)) .i64 fun x11 =>
          (kLd w6 ⟨b1, 0, none⟩ .i64 fun x12 =>
          (bsplit (!decide (x11 = x12))
            (R (.bool false) w6)
            ((kLdS w6 ⟨b1, 4, none⟩ fun x_a6 x_l6 _ =>
            (kIx x_a6 x_l6 i fun b3 =>
            (kLd w6 ((b3.add (i.toNat * 3)).add 2) .i64 fun x14 =>
            (kLd w6 ⟨b1, 2, none⟩ .i64 fun x15 =>
            (bsplit (decide (x14 > x15))
              (R (.bool false) w6)
              ((kW .i64 (i + (1 : Int)) fun x16 =>
              ((I x16).2 w6 ∧ (I x16).1 < (I i).1))))))))))))))))
          (R (.bool true) w5)))))))) ∧
  (kLdS w2 ⟨b1, 1, none⟩ fun _ x_l _ =>
  (bsplit (decide ((x_l : Int) < (1 : Int)))
    (J true w2)
    ((kLdS w2 ⟨b1, 1, none⟩ fun _ x_l1 _ =>
    (bsplit (decide ((x_l1 : Int) > (2054 : Int)))
      (J true w2)
      ((kLd w2 ⟨b1, 2, none⟩ .i64 fun x =>
      (bsplit (decide (x < (0 : Int)))
        (J true w2)
        ((kLd w2 ⟨b1, 2, none⟩ .i64 fun x1 =>
        (kLdS w2 ⟨b1, 1, none⟩ fun _ x_l2 _ =>
        (bsplit (decide (x1 > (x_l2 : Int)))
          (J true w2)
          ((kLd w2 ⟨b1, 3, none⟩ .i64 fun x2 =>
          (bsplit (decide (x2 < (0 : Int)))
            (J true w2)
            ((kLd w2 ⟨b1, 3, none⟩ .i64 fun x3 =>
            (kLd w2 ⟨b, 5, none⟩ .i64 fun x4 =>
            (bsplit (decide (x3 > x4))
              (J true w2)
              ((kLd w2 ⟨b1, 0, none⟩ .i64 fun x5 =>
              (bsplit (decide (x5 < (0 : Int)))
                (J true w2)
                ((kLd w2 ⟨b1, 0, none⟩ .i64 fun x6 =>
                (kLd w2 ⟨b, 0, none⟩ .i64 fun x7 =>
                (kW .u64 (x7) fun x8 =>
                (0 ≤ x8 ∧ (kW .i64 ((1 : Int) * 2 ^ (min x8.toNat (IntKind.bits .i64))) fun x9 =>
                (bsplit (decide (x6 ≥ x9))
                  (J true w2)
                  ((kLdS w2 ⟨b1, 4, none⟩ fun x_a3 x_l3 x_c3 =>
                  (Calls Try.prog N_ref18_Normal #[(.slice x_a3 x_l3 x_c3)] w2 fun e_ w3 =>
                  ∃ r : Bool, e_ = .returned (.bool r) ∧
                  J (!r) w3)))))))))))))))))))))))))))))))))))
theorem F_ref20_unit_eq (s_0 : Int) (s_1 : Int) (s_2 : Int) (s_3 : Int) (s_4 : Int) (s_5 : Int) (s_6 : Int) (s_7 : Int) (s_8_a : Option Addr) (s_8_l : Nat) (s_8_c : Nat) (s_9 : Int) (s_10 : Int) (s_11 : Int) (s_12 : Bool) (u_0 : Int) (u_1_a : Option Addr) (u_1_l : Nat) (u_1_c : Nat) (u_2 : Int) (u_3 : Int) (u_4_a : Option Addr) (u_4_l : Nat) (u_4_c : Nat) (w : World) (R : Value → World → Prop) : sxFn Try.prog TT h_ref20_unit Try.f96 #[(.agg #[.int .i64 s_0, .int .i64 s_1, .int .i64 s_2, .int .i64 s_3, .int .i64 s_4, .int .i64 s_5, .int .i64 s_6, .int .i64 s_7, .slice s_8_a s_8_l s_8_c, .int .i64 s_9, .int .i64 s_10, .int .i64 s_11, .bool s_12]), (.agg #[.int .i64 u_0, .slice u_1_a u_1_l u_1_c, .int .i64 u_2, .int .i64 u_3, .slice u_4_a u_4_l u_4_c])] w R = F_ref20_unit s_0 s_1 s_2 s_3 s_4 s_5 s_6 s_7 s_8_a s_8_l s_8_c s_9 s_10 s_11 s_12 u_0 u_1_a u_1_l u_1_c u_2 u_3 u_4_a u_4_l u_4_c w R := by kernel_rfl
theorem F_ref20_unit_ok {R : Ending → World → Prop} (s_0 : Int) (s_1 : Int) (s_2 : Int) (s_3 : Int) (s_4 : Int) (s_5 : Int) (s_6 : Int) (s_7 : Int) (s_8_a : Option Addr) (s_8_l : Nat) (s_8_c : Nat) (s_9 : Int) (s_10 : Int) (s_11 : Int) (s_12 : Bool) (u_0 : Int) (u_1_a : Option Addr) (u_1_l : Nat) (u_1_c : Nat) (u_2 : Int) (u_3 : Int) (u_4_a : Option Addr) (u_4_l : Nat) (u_4_c : Nat) (w : World) (h : F_ref20_unit s_0 s_1 s_2 s_3 s_4 s_5 s_6 s_7 s_8_a s_8_l s_8_c s_9 s_10 s_11 s_12 u_0 u_1_a u_1_l u_1_c u_2 u_3 u_4_a u_4_l u_4_c w fun v w' => R (.returned v) w') : Calls Try.prog N_ref20_unit #[(.agg #[.int .i64 s_0, .int .i64 s_1, .int .i64 s_2, .int .i64 s_3, .int .i64 s_4, .int .i64 s_5, .int .i64 s_6, .int .i64 s_7, .slice s_8_a s_8_l s_8_c, .int .i64 s_9, .int .i64 s_10, .int .i64 s_11, .bool s_12]), (.agg #[.int .i64 u_0, .slice u_1_a u_1_l u_1_c, .int .i64 u_2, .int .i64 u_3, .slice u_4_a u_4_l u_4_c])] w R :=
  calls_of (f := 96) follows_ok Try.func96 (Eq.mpr (F_ref20_unit_eq s_0 s_1 s_2 s_3 s_4 s_5 s_6 s_7 s_8_a s_8_l s_8_c s_9 s_10 s_11 s_12 u_0 u_1_a u_1_l u_1_c u_2 u_3 u_4_a u_4_l u_4_c w _) h)

def h_sender_side_unit : H := (.seq .reg (.seq (.cut [(43, .p .bool)] [5, 6, 7, 8, 9, 10, 11, 12, 13, 14, 15, 16, 17, 18, 19, 20, 21, 22, 23, 24, 25, 26, 27, 28, 29, 30, 31, 32, 33, 34, 35, 36, 37, 38, 39, 40, 41, 42, 43] (.draw .blk (.one 0 .pre (.one 1 .pre (.one 2 .pre (.one 3 .keep (.one 4 .stable (.one 5 .stable (.one 6 .stable (.one 7 .stable (.one 8 .stable (.one 9 .keep (.one 10 .stable (.one 11 .stable (.one 12 .stable (.one 13 .stable (.one 14 .stable (.one 15 .stable (.one 16 .stable (.one 17 .stable (.one 18 .keep (.one 19 .stable (.one 20 .stable (.one 21 .stable (.one 22 .stable (.one 23 .stable (.one 24 .stable (.one 25 .stable (.one 26 .stable (.one 27 .stable (.one 28 .stable (.one 29 .stable (.one 30 .keep (.one 31 .stable (.one 32 .stable (.one 33 .stable (.one 34 .stable (.one 35 .stable (.one 36 .keep (.one 37 .stable (.one 38 .stable .nil)))))))))))))))))))))))))))))))))))))))) (.cond (.seq .reg .leaf) .leaf)) (.seq .reg .leaf)))
def F_sender_side_unit (s_b : Nat) (s_o : Nat) (u_0 : Int) (u_1_a : Option Addr) (u_1_l : Nat) (u_1_c : Nat) (u_2 : Int) (u_3 : Int) (u_4_a : Option Addr) (u_4_l : Nat) (u_4_c : Nat) (w : World) (R : Value → World → Prop) : Prop :=
  (kAlloc w #[(.int .i64 u_0), (.slice u_1_a u_1_l u_1_c), (.int .i64 u_2), (.int .i64 u_3), (.slice u_4_a u_4_l u_4_c)] Ty_api_Unit fun b w1 =>
  (∃ J : Bool → World → Prop,
  (∀ (_junk : Env) (x4 : Bool) (w8 : World), J x4 w8 →
    (bsplit x4
      (R (.bool false) w8)
      ((kLdS w8 ⟨b, 4, none⟩ fun x_a3 x_l3 x_c3 =>
      (Calls Try.prog N_slices_ContainsFunc_Sapi_Range_api_Range #[(.slice x_a3 x_l3 x_c3), (.func (.func N_sender_side_unit_1) #[] #[(.pointer (some ⟨b, 0, none⟩))])] w8 fun e_5 w9 =>
      ∃ r5 : Bool, e_5 = .returned (.bool r5) ∧
      R (.bool (!r5)) w9))))) ∧
  (kDrew w1 fun w2 =>
  (∃ S : Nat → Prop,
  (kLd w2 ⟨b, 0, none⟩ .i64 fun x =>
  (Calls Try.prog N_sender_side_number #[(.pointer (some ⟨s_b, s_o, none⟩)), (.int .i64 x)] w2 fun e_ w3 =>
  ∃ r : Bool, e_ = .returned (.bool r) ∧
  (KeepsB S w2 w3 ∧ (bsplit (!r)
    (J true w3)
    ((S b ∧
    (kLdS w2 ⟨b, 1, none⟩ fun _ x_l _ =>
    (Calls Try.prog N_sender_between #[(.int .i64 (x_l : Int)), (.int .i64 (1 : Int)), (.int .i64 (2054 : Int))] w3 fun e_1 w4 =>
    ∃ r1 : Bool, e_1 = .returned (.bool r1) ∧
    (KeepsB S w2 w4 ∧ (bsplit (!r1)
      (J true w4)
      ((S b ∧
      (kLd w2 ⟨b, 2, none⟩ .i64 fun x1 =>
      (S b ∧
      (kLdS w2 ⟨b, 1, none⟩ fun _ x_l1 _ =>
      (Calls Try.prog N_sender_between #[(.int .i64 x1), (.int .i64 (0 : Int)), (.int .i64 (x_l1 : Int))] w4 fun e_2 w5 =>
      ∃ r2 : Bool, e_2 = .returned (.bool r2) ∧
      (KeepsB S w2 w5 ∧ (bsplit (!r2)
        (J true w5)
        ((S b ∧
        (kLd w2 ⟨b, 3, none⟩ .i64 fun x2 =>
        (S s_b ∧
        (kLd w2 ⟨s_b, s_o + 5, none⟩ .i64 fun x3 =>
        (Calls Try.prog N_sender_between #[(.int .i64 x2), (.int .i64 (0 : Int)), (.int .i64 x3)] w5 fun e_3 w6 =>
        ∃ r3 : Bool, e_3 = .returned (.bool r3) ∧
        (KeepsB S w2 w6 ∧ (bsplit (!r3)
          (J true w6)
          ((S b ∧
          (kLdS w2 ⟨b, 4, none⟩ fun x_a2 x_l2 x_c2 =>
          (Calls Try.prog N_segment_Normal #[(.slice x_a2 x_l2 x_c2)] w6 fun e_4 w7 =>
          ∃ r4 : Bool, e_4 = .returned (.bool r4) ∧
          (KeepsB S w2 w7 ∧ J (!r4) w7)))))))))))))))))))))))))))))))))))
theorem F_sender_side_unit_eq (s_b : Nat) (s_o : Nat) (u_0 : Int) (u_1_a : Option Addr) (u_1_l : Nat) (u_1_c : Nat) (u_2 : Int) (u_3 : Int) (u_4_a : Option Addr) (u_4_l : Nat) (u_4_c : Nat) (w : World) (R : Value → World → Prop) : sxFn Try.prog TT h_sender_side_unit Try.f97 #[(.pointer (some ⟨s_b, s_o, none⟩)), (.agg #[.int .i64 u_0, .slice u_1_a u_1_l u_1_c, .int .i64 u_2, .int .i64 u_3, .slice u_4_a u_4_l u_4_c])] w R = F_sender_side_unit s_b s_o u_0 u_1_a u_1_l u_1_c u_2 u_3 u_4_a u_4_l u_4_c w R := by kernel_rfl
theorem F_sender_side_unit_ok {R : Ending → World → Prop} (s_b : Nat) (s_o : Nat) (u_0 : Int) (u_1_a : Option Addr) (u_1_l : Nat) (u_1_c : Nat) (u_2 : Int) (u_3 : Int) (u_4_a : Option Addr) (u_4_l : Nat) (u_4_c : Nat) (w : World) (h : F_sender_side_unit s_b s_o u_0 u_1_a u_1_l u_1_c u_2 u_3 u_4_a u_4_l u_4_c w fun v w' => R (.returned v) w') : Calls Try.prog N_sender_side_unit #[(.pointer (some ⟨s_b, s_o, none⟩)), (.agg #[.int .i64 u_0, .slice u_1_a u_1_l u_1_c, .int .i64 u_2, .int .i64 u_3, .slice u_4_a u_4_l u_4_c])] w R :=
  calls_of (f := 97) follows_ok Try.func97 (Eq.mpr (F_sender_side_unit_eq s_b s_o u_0 u_1_a u_1_l u_1_c u_2 u_3 u_4_a u_4_l u_4_c w _) h)

def h_slices_ContainsFunc_Sapi_Unit_api_Unit : H := (.seq .reg (.seq .reg .leaf))
def F_slices_ContainsFunc_Sapi_Unit_api_Unit (s_a : Option Addr) (s_l : Nat) (s_c : Nat) (f_g : Nat) (f_f : Array Value) (f_c : Array Value) (w : World) (R : Value → World → Prop) : Prop :=
  (Calls Try.prog N_slices_IndexFunc_Sapi_Unit_api_Unit #[(.slice s_a s_l s_c), (.func (.func f_g) f_f f_c)] w fun e_ w1 =>
  ∃ r : Int, e_ = .returned (.int .i64 r) ∧
  (kLet (decide (r ≥ (0 : Int))) fun x =>
  R (.bool x) w1))
theorem F_slices_ContainsFunc_Sapi_Unit_api_Unit_eq (s_a : Option Addr) (s_l : Nat) (s_c : Nat) (f_g : Nat) (f_f : Array Value) (f_c : Array Value) (w : World) (R : Value → World → Prop) : sxFn Try.prog TT h_slices_ContainsFunc_Sapi_Unit_api_Unit Try.f98 #[(.slice s_a s_l s_c), (.func (.func f_g) f_f f_c)] w R = F_slices_ContainsFunc_Sapi_Unit_api_Unit s_a s_l s_c f_g f_f f_c w R := by kernel_rfl
theorem F_slices_ContainsFunc_Sapi_Unit_api_Unit_ok {R : Ending → World → Prop} (s_a : Option Addr) (s_l : Nat) (s_c : Nat) (f_g : Nat) (f_f : Array Value) (f_c : Array Value) (w : World) (h : F_slices_ContainsFunc_Sapi_Unit_api_Unit s_a s_l s_c f_g f_f f_c w fun v w' => R (.returned v) w') : Calls Try.prog N_slices_ContainsFunc_Sapi_Unit_api_Unit #[(.slice s_a s_l s_c), (.func (.func f_g) f_f f_c)] w R :=
  calls_of (f := 98) follows_ok Try.func98 (Eq.mpr (F_slices_ContainsFunc_Sapi_Unit_api_Unit_eq s_a s_l s_c f_g f_f f_c w _) h)

def h_sender_side_asked_1 : H := (.seq .reg (.seq (.draw .no (.one 0 .stable (.one 1 .stable (.one 2 .stable (.one 3 .stable (.one 4 .stable (.one 5 .stable (.one 6 .stable (.one 7 .stable (.one 8 .stable (.one 9 .stable (.one 10 .stable (.one 11 .stable (.one 12 .stable (.one 13 .stable .nil))))))))))))))) .leaf))
def F_sender_side_asked_1 (u_0 : Int) (u_1_a : Option Addr) (u_1_l : Nat) (u_1_c : Nat) (u_2 : Int) (u_3 : Int) (u_4_a : Option Addr) (u_4_l : Nat) (u_4_c : Nat) (cap0_b : Nat) (cap0_o : Nat) (w : World) (R : Value → World → Prop) : Prop :=
  (kAlloc w #[(.int .i64 u_0), (.slice u_1_a u_1_l u_1_c), (.int .i64 u_2), (.int .i64 u_3), (.slice u_4_a u_4_l u_4_c)] Ty_api_Unit fun b w1 =>
  (kDrew w1 fun w2 =>
  (kLd w2 ⟨b, 0, none⟩ .i64 fun x =>
  (∃ x1 : Option Addr, w2.cell? ⟨cap0_b, cap0_o, none⟩ = some (.pointer x1) ∧
  (kNil x1 fun x2 =>
  (kLd w2 (x2.add 10) .i64 fun x3 =>
  (bsplit (decide (x = x3))
    ((kLd w2 ⟨b, 2, none⟩ .i64 fun x4 =>
    (kLet (decide (x4 > (0 : Int))) fun x5 =>
    R (.bool x5) w2)))
    (R (.bool false) w2))))))))
theorem F_sender_side_asked_1_eq (u_0 : Int) (u_1_a : Option Addr) (u_1_l : Nat) (u_1_c : Nat) (u_2 : Int) (u_3 : Int) (u_4_a : Option Addr) (u_4_l : Nat) (u_4_c : Nat) (cap0_b : Nat) (cap0_o : Nat) (w : World) (R : Value → World → Prop) : sxFn Try.prog TT h_sender_side_asked_1 Try.f99 #[(.agg #[.int .i64 u_0, .slice u_1_a u_1_l u_1_c, .int .i64 u_2, .int .i64 u_3, .slice u_4_a u_4_l u_4_c]), (.pointer (some ⟨cap0_b, cap0_o, none⟩))] w R = F_sender_side_asked_1 u_0 u_1_a u_1_l u_1_c u_2 u_3 u_4_a u_4_l u_4_c cap0_b cap0_o w R := by kernel_rfl
theorem F_sender_side_asked_1_ok {R : Ending → World → Prop} (u_0 : Int) (u_1_a : Option Addr) (u_1_l : Nat) (u_1_c : Nat) (u_2 : Int) (u_3 : Int) (u_4_a : Option Addr) (u_4_l : Nat) (u_4_c : Nat) (cap0_b : Nat) (cap0_o : Nat) (w : World) (h : F_sender_side_asked_1 u_0 u_1_a u_1_l u_1_c u_2 u_3 u_4_a u_4_l u_4_c cap0_b cap0_o w fun v w' => R (.returned v) w') : Calls Try.prog N_sender_side_asked_1 #[(.agg #[.int .i64 u_0, .slice u_1_a u_1_l u_1_c, .int .i64 u_2, .int .i64 u_3, .slice u_4_a u_4_l u_4_c]), (.pointer (some ⟨cap0_b, cap0_o, none⟩))] w R :=
  calls_of (f := 99) follows_ok Try.func99 (Eq.mpr (F_sender_side_asked_1_eq u_0 u_1_a u_1_l u_1_c u_2 u_3 u_4_a u_4_l u_4_c cap0_b cap0_o w _) h)

def h_ref01_Put : H := (.seq .reg (.seq (.seq .reg (.block (.loop [(0, .p .slice), (7, .p (.int .i64))] [0, 7, 10, 11, 12, 13, 14, 15, 16, 17, 18, 19, 20, 21, 22] (.seq (.seq .reg (.cond .leaf .leaf)) (.seq (.block .reg) .reg))))) (.seq .reg .leaf)))
def F_ref01_Put (b_a : Option Addr) (b_l : Nat) (b_c : Nat) (bytes : Int) (v : Int) (w : World) (R : Value → World → Prop) : Prop :=
  (kW .i64 (bytes - (1 : Int)) fun x =>
  (∃ I : Option Addr → Nat → Nat → Int → Nat × (World → Prop), (I b_a b_l b_c x).2 w ∧
  (∀ (_junk : Env) (b_a1 : Option Addr) (b_l1 : Nat) (b_c1 : Nat) (i : Int) (w1 : World), (I b_a1 b_l1 b_c1 i).2 w1 →
    (bsplit (decide (i ≥ (0 : Int)))
      ((kW .i64 ((8 : Int) * i) fun x1 =>
      (kW .u64 (x1) fun x2 =>
      (0 ≤ x2 ∧ (kLet (Int.fdiv v (2 ^ (min x2.toNat (IntKind.bits .i64)))) fun x3 =>
      (kW .u8 (x3) fun x4 =>
      (kAlloc w1 #[(.int .u8 x4)] Ty_uint8 fun b w2 =>
      (AppP Try.prog #[Ty_S_uint8, Ty_S_uint8] Ty_S_uint8 #[(.slice b_a1 b_l1 b_c1), (.slice (some ⟨b, 0, none⟩) 1 1)] w2 fun x_a x_l x_c w3 =>
      (kW .i64 (i - (1 : Int)) fun x5 =>
      ((I x_a x_l x_c x5).2 w3 ∧ (I x_a x_l x_c x5).1 < (I b_a1 b_l1 b_c1 i).1))))))))))
      (R (.slice b_a1 b_l1 b_c1) w1)))))
theorem F_ref01_Put_eq (b_a : Option Addr) (b_l : Nat) (b_c : Nat) (bytes : Int) (v : Int) (w : World) (R : Value → World → Prop) : sxFn Try.prog TT h_ref01_Put Try.f100 #[(.slice b_a b_l b_c), (.int .i64 bytes), (.int .i64 v)] w R = F_ref01_Put b_a b_l b_c bytes v w R := by kernel_rfl
theorem F_ref01_Put_ok {R : Ending → World → Prop} (b_a : Option Addr) (b_l : Nat) (b_c : Nat) (bytes : Int) (v : Int) (w : World) (h : F_ref01_Put b_a b_l b_c bytes v w fun v w' => R (.returned v) w') : Calls Try.prog N_ref01_Put #[(.slice b_a b_l b_c), (.int .i64 bytes), (.int .i64 v)] w R :=
  calls_of (f := 100) follows_ok Try.func100 (Eq.mpr (F_ref01_Put_eq b_a b_l b_c bytes v w _) h)

def h_ref18_Normal : H := (.seq .reg (.seq (.seq .reg (.block (.loop [(3, .p (.int .i64))] [2, 3, 4, 5, 6, 7, 8, 9, 10, 11, 12, 13, 14, 15, 16, 17, 18, 19, 20, 21, 22, 23, 24, 25, 26, 27, 28, 29, 30, 31, 32, 33, 34, 35, 36, 37, 38, 39, 40, 41, 42, 43, 44, 45, 46] (.seq (.seq .reg (.cond .leaf .leaf)) (.seq (.block (.seq (.draw .no (.one 0 .stable (.one 1 .stable (.one 2 .stable (.one 3 .stable (.one 4 .stable (.one 5 .stable (.one 6 .stable (.one 7 .stable (.one 8 .stable (.one 9 .stable (.one 10 .stable (.one 11 .stable (.one 12 .stable (.one 13 .stable (.one 14 .stable (.one 15 .stable (.one 16 .stable (.one 17 .stable (.one 18 .stable (.one 19 .stable (.one 20 .stable (.one 21 .stable (.one 22 .stable (.one 23 .stable (.one 24 .stable (.one 25 .stable (.one 26 .stable (.one 27 .stable (.one 28 .stable (.one 29 .stable (.one 30 .stable (.one 31 .stable (.one 32 .stable (.one 33 .stable (.one 34 .stable (.one 35 .stable (.one 36 .stable .nil)))))))))))))))))))))))))))))))))))))) (.cond (.seq .reg .leaf) .leaf))) .reg))))) (.seq .reg .leaf)))
def F_ref18_Normal (l_a : Option Addr) (l_l : Nat) (_ : Nat) (w : World) (R : Value → World → Prop) : Prop :=
  (∃ I : Int → Nat × (World → Prop), (I (0 : Int)).2 w ∧
  (∀ (_junk : Env) (i : Int) (w1 : World), (I i).2 w1 →
    (bsplit (decide (i < (l_l : Int)))
      ((kDrew w1 fun w2 =>
      (kIx l_a l_l i fun b =>
      (kLd w2 ((b.add (i.toNat * 3)).add 1) .i64 fun x =>
      (bsplit (decide (x < (0 : Int)))
        (R (.bool false) w2)
        ((kIx l_a l_l i fun b1 =>
        (kLd w2 ((b1.add (i.toNat * 3)).add 1) .i64 fun x2 =>
        (kIx l_a l_l i fun b2 =>
        (kLd w2 ((b2.add (i.toNat * 3)).add 2) .i64 fun x3 =>
        (bsplit (decide (x2 ≥ x3))
          (R (.bool false) w2)
          ((bsplit (decide (i > (0 : Int)))
            ((kIx l_a l_l i fun b3 =>
            (kLd w2 ((b3.add (i.toNat * 3)).add 1) .i64 fun x5 =>
            (kW .i64 (i - (1 : Int)) fun x6 =>
            (kIx l_a l_l x6 fun b4 =>
            (kLd w2 ((b4.add (x6.toNat * 3)).add 2) .i64 fun x7 =>
            (bsplit (decide (x5 ≤ x7))
              (R (.bool false) w2)
              ((kW .i64 (i + (1 : Int)) fun x8 =>
              ((I x8).2 w2 ∧ (I x8).1 < (I i).1))))))))))
            ((kW .i64 (i + (1 : Int)) fun x9 =>
              ((I x9).2 w2 ∧ (I x9).1 < (I i).1))))))))))))))))
      (R (.bool true) w1))))
theorem F_ref18_Normal_eq (l_a : Option Addr) (l_l : Nat) (l_c : Nat) (w : World) (R : Value → World → Prop) : sxFn Try.prog TT h_ref18_Normal Try.f101 #[(.slice l_a l_l l_c)] w R = F_ref18_Normal l_a l_l l_c w R := by kernel_rfl
theorem F_ref18_Normal_ok {R : Ending → World → Prop} (l_a : Option Addr) (l_l : Nat) (l_c : Nat) (w : World) (h : F_ref18_Normal l_a l_l l_c w fun v w' => R (.returned v) w') : Calls Try.prog N_ref18_Normal #[(.slice l_a l_l l_c)] w R :=
  calls_of (f := 101) follows_ok Try.func101 (Eq.mpr (F_ref18_Normal_eq l_a l_l l_c w _) h)

def h_segment_Normal : H := (.seq .reg (.seq (.seq .reg (.block (.loop [(7, .p (.int .i64))] [2, 3, 4, 7, 8, 9, 10, 11, 12, 13, 14, 15, 16, 17, 18, 19, 20, 21, 22, 23, 24, 25, 26, 27, 28, 29, 30, 31, 32, 33, 34, 35, 36, 37] (.seq .reg (.seq (.cond .leaf .leaf) (.seq (.block (.seq .reg (.seq (.draw .no (.one 0 .stable (.one 1 .stable (.one 2 .stable (.one 3 .stable (.one 4 .stable (.one 5 .stable (.one 6 .stable (.one 7 .stable (.one 8 .stable (.one 9 .stable (.one 10 .stable (.one 11 .stable (.one 12 .stable (.one 13 .stable (.one 14 .stable (.one 15 .stable (.one 16 .stable (.one 17 .stable (.one 18 .stable (.one 19 .stable (.one 20 .stable (.one 21 .stable (.one 22 .stable (.one 23 .stable (.one 24 .stable .nil)))))))))))))))))))))))))) (.cond (.seq .reg .leaf) .leaf)))) .reg)))))) (.seq .reg .leaf)))
def F_segment_Normal (l_a : Option Addr) (l_l : Nat) (_ : Nat) (w : World) (R : Value → World → Prop) : Prop :=
  (∃ I : Int → Nat × (World → Prop), (I (0 : Int)).2 w ∧
  (∀ (_junk : Env) (x : Int) (w1 : World), (I x).2 w1 →
    (bsplit (decide (x < (l_l : Int)))
      ((kIx l_a l_l x fun b =>
      (∃ x_0 x_1 x_2 : Int, cellsAt w1 (b.add (x.toNat * 3)) 0 [(.int .i64 x_0), (.int .i64 x_1), (.int .i64 x_2)] ∧
      (kAlloc w1 #[.int .i64 (0 : Int), .int .i64 (0 : Int), .int .i64 (0 : Int)] Ty_api_Range fun b1 w2 =>
      (sxStore w2 ⟨b1, 0, none⟩ 0 [(.int .i64 x_0), (.int .i64 x_1), (.int .i64 x_2)] fun w3 =>
      (kDrew w3 fun w4 =>
      (kLd w4 ⟨b1, 1, none⟩ .i64 fun x1 =>
      (bsplit (decide (x1 < (0 : Int)))
        (R (.bool false) w4)
        ((kLd w4 ⟨b1, 1, none⟩ .i64 fun x3 =>
        (kLd w4 ⟨b1, 2, none⟩ .i64 fun x4 =>
        (bsplit (decide (x3 ≥ x4))
          (R (.bool false) w4)
          ((bsplit (decide (x > (0 : Int)))
            ((kLd w4 ⟨b1, 1, none⟩ .i64 fun x6 =>
            (kW .i64 (x - (1 : Int)) fun x7 =>
            (kIx l_a l_l x7 fun b2 =>
            (kLd w4 ((b2.add (x7.toNat * 3)).add 2) .i64 fun x8 =>
            (bsplit (decide (x6 ≤ x8))
              (R (.bool false) w4)
              ((kW .i64 (x + (1 : Int)) fun x9 =>
              ((I x9).2 w4 ∧ (I x9).1 < (I x).1)))))))))
            ((kW .i64 (x + (1 : Int)) fun x10 =>
              ((I x10).2 w4 ∧ (I x10).1 < (I x).1)))))))))))))))))
      (R (.bool true) w1))))
theorem F_segment_Normal_eq (l_a : Option Addr) (l_l : Nat) (l_c : Nat) (w : World) (R : Value → World → Prop) : sxFn Try.prog TT h_segment_Normal Try.f102 #[(.slice l_a l_l l_c)] w R = F_segment_Normal l_a l_l l_c w R := by kernel_rfl
theorem F_segment_Normal_ok {R : Ending → World → Prop} (l_a : Option Addr) (l_l : Nat) (l_c : Nat) (w : World) (h : F_segment_Normal l_a l_l l_c w fun v w' => R (.returned v) w') : Calls Try.prog N_segment_Normal #[(.slice l_a l_l l_c)] w R :=
  calls_of (f := 102) follows_ok Try.func102 (Eq.mpr (F_segment_Normal_eq l_a l_l l_c w _) h)

def h_slices_ContainsFunc_Sapi_Range_api_Range : H := (.seq .reg (.seq .reg .leaf))
def F_slices_ContainsFunc_Sapi_Range_api_Range (s_a : Option Addr) (s_l : Nat) (s_c : Nat) (f_g : Nat) (f_f : Array Value) (f_c : Array Value) (w : World) (R : Value → World → Prop) : Prop :=
  (Calls Try.prog N_slices_IndexFunc_Sapi_Range_api_Range #[(.slice s_a s_l s_c), (.func (.func f_g) f_f f_c)] w fun e_ w1 =>
  ∃ r : Int, e_ = .returned (.int .i64 r) ∧
  (kLet (decide (r ≥ (0 : Int))) fun x =>
  R (.bool x) w1))
theorem F_slices_ContainsFunc_Sapi_Range_api_Range_eq (s_a : Option Addr) (s_l : Nat) (s_c : Nat) (f_g : Nat) (f_f : Array Value) (f_c : Array Value) (w : World) (R : Value → World → Prop) : sxFn Try.prog TT h_slices_ContainsFunc_Sapi_Range_api_Range Try.f103 #[(.slice s_a s_l s_c), (.func (.func f_g) f_f f_c)] w R = F_slices_ContainsFunc_Sapi_Range_api_Range s_a s_l s_c f_g f_f f_c w R := by kernel_rfl
theorem F_slices_ContainsFunc_Sapi_Range_api_Range_ok {R : Ending → World → Prop} (s_a : Option Addr) (s_l : Nat) (s_c : Nat) (f_g : Nat) (f_f : Array Value) (f_c : Array Value) (w : World) (h : F_slices_ContainsFunc_Sapi_Range_api_Range s_a s_l s_c f_g f_f f_c w fun v w' => R (.returned v) w') : Calls Try.prog N_slices_ContainsFunc_Sapi_Range_api_Range #[(.slice s_a s_l s_c), (.func (.func f_g) f_f f_c)] w R :=
  calls_of (f := 103) follows_ok Try.func103 (Eq.mpr (F_slices_ContainsFunc_Sapi_Range_api_Range_eq s_a s_l s_c f_g f_f f_c w _) h)

def h_sender_side_unit_1 : H := (.seq .reg (.seq .reg .leaf))
def F_sender_side_unit_1 (r_0 : Int) (r_1 : Int) (r_2 : Int) (cap0_b : Nat) (cap0_o : Nat) (w : World) (R : Value → World → Prop) : Prop :=
  (kAlloc w #[(.int .i64 r_0), (.int .i64 r_1), (.int .i64 r_2)] Ty_api_Range fun b w1 =>
  (kLd w1 ⟨b, 0, none⟩ .i64 fun x =>
  (kLd w1 ⟨cap0_b, cap0_o, none⟩ .i64 fun x1 =>
  (bsplit (!decide (x = x1))
    (R (.bool true) w1)
    ((kLd w1 ⟨b, 2, none⟩ .i64 fun x2 =>
    (kLd w1 ⟨cap0_b, cap0_o + 2, none⟩ .i64 fun x3 =>
    (kLet (decide (x2 > x3)) fun x4 =>
    R (.bool x4) w1))))))))
theorem F_sender_side_unit_1_eq (r_0 : Int) (r_1 : Int) (r_2 : Int) (cap0_b : Nat) (cap0_o : Nat) (w : World) (R : Value → World → Prop) : sxFn Try.prog TT h_sender_side_unit_1 Try.f104 #[(.agg #[.int .i64 r_0, .int .i64 r_1, .int .i64 r_2]), (.pointer (some ⟨cap0_b, cap0_o, none⟩))] w R = F_sender_side_unit_1 r_0 r_1 r_2 cap0_b cap0_o w R := by kernel_rfl
theorem F_sender_side_unit_1_ok {R : Ending → World → Prop} (r_0 : Int) (r_1 : Int) (r_2 : Int) (cap0_b : Nat) (cap0_o : Nat) (w : World) (h : F_sender_side_unit_1 r_0 r_1 r_2 cap0_b cap0_o w fun v w' => R (.returned v) w') : Calls Try.prog N_sender_side_unit_1 #[(.agg #[.int .i64 r_0, .int .i64 r_1, .int .i64 r_2]), (.pointer (some ⟨cap0_b, cap0_o, none⟩))] w R :=
  calls_of (f := 104) follows_ok Try.func104 (Eq.mpr (F_sender_side_unit_1_eq r_0 r_1 r_2 cap0_b cap0_o w _) h)

def h_slices_IndexFunc_Sapi_Range_api_Range : H := (.seq .reg (.seq (.seq .reg (.block (.loop [(8, .p (.int .i64))] [4, 5, 8, 9, 10, 11, 12, 13, 14, 15, 16, 17, 18] (.seq .reg (.seq (.cond .leaf .leaf) (.seq (.block (.seq .reg (.seq .reg (.cond (.seq .reg .leaf) .leaf)))) .reg)))))) (.seq .reg .leaf)))
def F_slices_IndexFunc_Sapi_Range_api_Range (s_a : Option Addr) (s_l : Nat) (_ : Nat) (f_g : Nat) (f_f : Array Value) (f_c : Array Value) (w : World) (R : Value → World → Prop) : Prop :=
  (∃ I : Int → Nat × (World → Prop), (I (0 : Int)).2 w ∧
  (∀ (_junk : Env) (x : Int) (w1 : World), (I x).2 w1 →
    (bsplit (decide (x < (s_l : Int)))
      ((kIx s_a s_l x fun b =>
      (∃ x_0 x_1 x_2 : Int, cellsAt w1 (b.add (x.toNat * 3)) 0 [(.int .i64 x_0), (.int .i64 x_1), (.int .i64 x_2)] ∧
      (okFn Try.prog f_g = true ∧ Calls Try.prog f_g (f_f ++ #[(.agg #[.int .i64 x_0, .int .i64 x_1, .int .i64 x_2])] ++ f_c) w1 fun e_ w2 =>
      ∃ r : Bool, e_ = .returned (.bool r) ∧
      (bsplit r
        (R (.int .i64 x) w2)
        ((kW .i64 (x + (1 : Int)) fun x1 =>
        ((I x1).2 w2 ∧ (I x1).1 < (I x).1))))))))
      (R (.int .i64 (-1 : Int)) w1))))
theorem F_slices_IndexFunc_Sapi_Range_api_Range_eq (s_a : Option Addr) (s_l : Nat) (s_c : Nat) (f_g : Nat) (f_f : Array Value) (f_c : Array Value) (w : World) (R : Value → World → Prop) : sxFn Try.prog TT h_slices_IndexFunc_Sapi_Range_api_Range Try.f105 #[(.slice s_a s_l s_c), (.func (.func f_g) f_f f_c)] w R = F_slices_IndexFunc_Sapi_Range_api_Range s_a s_l s_c f_g f_f f_c w R := by kernel_rfl
theorem F_slices_IndexFunc_Sapi_Range_api_Range_ok {R : Ending → World → Prop} (s_a : Option Addr) (s_l : Nat) (s_c : Nat) (f_g : Nat) (f_f : Array Value) (f_c : Array Value) (w : World) (h : F_slices_IndexFunc_Sapi_Range_api_Range s_a s_l s_c f_g f_f f_c w fun v w' => R (.returned v) w') : Calls Try.prog N_slices_IndexFunc_Sapi_Range_api_Range #[(.slice s_a s_l s_c), (.func (.func f_g) f_f f_c)] w R :=
  calls_of (f := 105) follows_ok Try.func105 (Eq.mpr (F_slices_IndexFunc_Sapi_Range_api_Range_eq s_a s_l s_c f_g f_f f_c w _) h)

end Go.Proofs.Ytmhggobilcmdmaa
