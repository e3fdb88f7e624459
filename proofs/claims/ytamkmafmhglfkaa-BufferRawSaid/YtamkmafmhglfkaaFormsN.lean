import Derived.Test.YtamkmafmhglfkaaBase
import Derived.KernelRfl
namespace Go.Proofs.Ytamkmafmhglfkaa
open Go.Sx Go.RowKit
set_option maxRecDepth 100000

def h_law26_BufferRaw : H := (.seq .reg (.cut [] [12, 25, 26, 27, 28, 29, 30, 31, 32, 33, 34, 35, 36, 37] (.seq .reg (.cond (.seq .reg .leaf) .leaf)) (.seq .reg (.seq .reg (.seq .reg (.seq .reg (.seq .reg (.seq .reg (.seq .reg .leaf)))))))))
def F_law26_BufferRaw (n : Int) (waiting_a : Option Addr) (waiting_l : Nat) (waiting_c : Nat) (groups_a : Option Addr) (groups_l : Nat) (groups_c : Nat) (w_0 : Int) (w_1 : Int) (w_2 : Int) (w_3 : Int) (room : Int) (s_0 : Int) (s_1_a : Option Addr) (s_1_l : Nat) (s_1_c : Nat) (w : World) (R : Value → World → Prop) : Prop :=
  (kAlloc w #[(.int .i64 w_0), (.int .i64 w_1), (.int .i64 w_2), (.int .i64 w_3)] Ty_api_Waiting fun b w1 =>
  (kAlloc w1 #[(.int .i64 s_0), (.slice s_1_a s_1_l s_1_c)] Ty_api_Section fun b1 w2 =>
  (∃ J : World → Prop,
  (∀ (_junk : Env)  (w5 : World), J w5 →
    (Calls Try.prog N_buffer_Of #[(.slice waiting_a waiting_l waiting_c), (.slice groups_a groups_l groups_c)] w5 fun e_2 w6 =>
    ∃ r_0 : Int, ∃ r_1 : Int, ∃ r_2 : Int, ∃ r_3 : Int, ∃ r2 : Int, e_2 = .returned (.tuple #[(.agg #[.int .i64 r_0, .int .i64 r_1, .int .i64 r_2, .int .i64 r_3]), (.int .i64 r2)]) ∧
    (kAlloc w6 #[.int .i64 (0 : Int), .int .i64 (0 : Int), .int .i64 (0 : Int), .int .i64 (0 : Int)] Ty_api_Waiting fun b2 w7 =>
    (sxStore w7 ⟨b2, 0, none⟩ 0 [(.int .i64 r_0), (.int .i64 r_1), (.int .i64 r_2), (.int .i64 r_3)] fun w8 =>
    (Calls Try.prog N_ref26_Of #[(.slice waiting_a waiting_l waiting_c), (.slice groups_a groups_l groups_c)] w8 fun e_3 w9 =>
    ∃ r_01 : Int, ∃ r_11 : Int, ∃ r_21 : Int, ∃ r_31 : Int, ∃ r3 : Int, e_3 = .returned (.tuple #[(.agg #[.int .i64 r_01, .int .i64 r_11, .int .i64 r_21, .int .i64 r_31]), (.int .i64 r3)]) ∧
    (kAlloc w9 #[.int .i64 (0 : Int), .int .i64 (0 : Int), .int .i64 (0 : Int), .int .i64 (0 : Int)] Ty_api_Waiting fun b3 w10 =>
    (sxStore w10 ⟨b3, 0, none⟩ 0 [(.int .i64 r_01), (.int .i64 r_11), (.int .i64 r_21), (.int .i64 r_31)] fun w11 =>
    (∃ x_0 : Int, ∃ x_1 : Int, ∃ x_2 : Int, ∃ x_3 : Int, cellsAt w11 ⟨b, 0, none⟩ 0 [(.int .i64 x_0), (.int .i64 x_1), (.int .i64 x_2), (.int .i64 x_3)] ∧
    (Calls Try.prog N_buffer_Encode #[(.agg #[.int .i64 x_0, .int .i64 x_1, .int .i64 x_2, .int .i64 x_3]), (.int .i64 room)] w11 fun e_4 w12 =>
    ∃ r_02 : Int, ∃ r_1_a : Option Addr, ∃ r_1_l : Nat, ∃ r_1_c : Nat, ∃ r4 : Int, e_4 = .returned (.tuple #[(.agg #[.int .i64 r_02, .slice r_1_a r_1_l r_1_c]), (.int .i64 r4)]) ∧
    (kAlloc w12 #[.int .i64 (0 : Int), .slice none 0 0] Ty_api_Section fun b4 w13 =>
    (sxStore w13 ⟨b4, 0, none⟩ 0 [(.int .i64 r_02), (.slice r_1_a r_1_l r_1_c)] fun w14 =>
    (∃ x_01 : Int, ∃ x_11 : Int, ∃ x_21 : Int, ∃ x_31 : Int, cellsAt w14 ⟨b, 0, none⟩ 0 [(.int .i64 x_01), (.int .i64 x_11), (.int .i64 x_21), (.int .i64 x_31)] ∧
    (Calls Try.prog N_ref26_Encode #[(.agg #[.int .i64 x_01, .int .i64 x_11, .int .i64 x_21, .int .i64 x_31]), (.int .i64 room)] w14 fun e_5 w15 =>
    ∃ r_03 : Int, ∃ r_1_a1 : Option Addr, ∃ r_1_l1 : Nat, ∃ r_1_c1 : Nat, ∃ r5 : Int, e_5 = .returned (.tuple #[(.agg #[.int .i64 r_03, .slice r_1_a1 r_1_l1 r_1_c1]), (.int .i64 r5)]) ∧
    (kAlloc w15 #[.int .i64 (0 : Int), .slice none 0 0] Ty_api_Section fun b5 w16 =>
    (sxStore w16 ⟨b5, 0, none⟩ 0 [(.int .i64 r_03), (.slice r_1_a1 r_1_l1 r_1_c1)] fun w17 =>
    (∃ x_02 : Int, ∃ x_1_a : Option Addr, ∃ x_1_l : Nat, ∃ x_1_c : Nat, cellsAt w17 ⟨b1, 0, none⟩ 0 [(.int .i64 x_02), (.slice x_1_a x_1_l x_1_c)] ∧
    (Calls Try.prog N_buffer_Decode #[(.agg #[.int .i64 x_02, .slice x_1_a x_1_l x_1_c])] w17 fun e_6 w18 =>
    ∃ r_04 : Int, ∃ r_12 : Int, ∃ r_22 : Int, ∃ r_32 : Int, ∃ r6 : Int, e_6 = .returned (.tuple #[(.agg #[.int .i64 r_04, .int .i64 r_12, .int .i64 r_22, .int .i64 r_32]), (.int .i64 r6)]) ∧
    (kAlloc w18 #[.int .i64 (0 : Int), .int .i64 (0 : Int), .int .i64 (0 : Int), .int .i64 (0 : Int)] Ty_api_Waiting fun b6 w19 =>
    (sxStore w19 ⟨b6, 0, none⟩ 0 [(.int .i64 r_04), (.int .i64 r_12), (.int .i64 r_22), (.int .i64 r_32)] fun w20 =>
    (∃ x_03 : Int, ∃ x_1_a1 : Option Addr, ∃ x_1_l1 : Nat, ∃ x_1_c1 : Nat, cellsAt w20 ⟨b1, 0, none⟩ 0 [(.int .i64 x_03), (.slice x_1_a1 x_1_l1 x_1_c1)] ∧
    (Calls Try.prog N_ref26_Decode #[(.agg #[.int .i64 x_03, .slice x_1_a1 x_1_l1 x_1_c1])] w20 fun e_7 w21 =>
    ∃ r_05 : Int, ∃ r_13 : Int, ∃ r_23 : Int, ∃ r_33 : Int, ∃ r7 : Int, e_7 = .returned (.tuple #[(.agg #[.int .i64 r_05, .int .i64 r_13, .int .i64 r_23, .int .i64 r_33]), (.int .i64 r7)]) ∧
    (kAlloc w21 #[.int .i64 (0 : Int), .int .i64 (0 : Int), .int .i64 (0 : Int), .int .i64 (0 : Int)] Ty_api_Waiting fun b7 w22 =>
    (sxStore w22 ⟨b7, 0, none⟩ 0 [(.int .i64 r_05), (.int .i64 r_13), (.int .i64 r_23), (.int .i64 r_33)] fun w23 =>
    (∃ x_04 : Int, ∃ x_12 : Int, ∃ x_22 : Int, ∃ x_32 : Int, cellsAt w23 ⟨b2, 0, none⟩ 0 [(.int .i64 x_04), (.int .i64 x_12), (.int .i64 x_22), (.int .i64 x_32)] ∧
    (∃ x_05 : Int, ∃ x_13 : Int, ∃ x_23 : Int, ∃ x_33 : Int, cellsAt w23 ⟨b3, 0, none⟩ 0 [(.int .i64 x_05), (.int .i64 x_13), (.int .i64 x_23), (.int .i64 x_33)] ∧
    (EqP Try.prog .eql Ty_api_Waiting (.tmp 72) (.tmp 73) (.agg #[.int .i64 x_04, .int .i64 x_12, .int .i64 x_22, .int .i64 x_32]) (.agg #[.int .i64 x_05, .int .i64 x_13, .int .i64 x_23, .int .i64 x_33]) fun r8 =>
    (bsplit r8
      ((bsplit (decide (r2 = r3))
        ((∃ x_06 : Int, ∃ x_1_a2 : Option Addr, ∃ x_1_l2 : Nat, ∃ x_1_c2 : Nat, cellsAt w23 ⟨b4, 0, none⟩ 0 [(.int .i64 x_06), (.slice x_1_a2 x_1_l2 x_1_c2)] ∧
        (∃ x_07 : Int, ∃ x_1_a3 : Option Addr, ∃ x_1_l3 : Nat, ∃ x_1_c3 : Nat, cellsAt w23 ⟨b5, 0, none⟩ 0 [(.int .i64 x_07), (.slice x_1_a3 x_1_l3 x_1_c3)] ∧
        (Calls Try.prog N_law26_same #[(.agg #[.int .i64 x_06, .slice x_1_a2 x_1_l2 x_1_c2]), (.agg #[.int .i64 x_07, .slice x_1_a3 x_1_l3 x_1_c3])] w23 fun e_8 w24 =>
        ∃ r9 : Bool, e_8 = .returned (.bool r9) ∧
        (bsplit r9
          ((bsplit (decide (r4 = r5))
            ((∃ x_08 : Int, ∃ x_14 : Int, ∃ x_24 : Int, ∃ x_34 : Int, cellsAt w24 ⟨b6, 0, none⟩ 0 [(.int .i64 x_08), (.int .i64 x_14), (.int .i64 x_24), (.int .i64 x_34)] ∧
            (∃ x_09 : Int, ∃ x_15 : Int, ∃ x_25 : Int, ∃ x_35 : Int, cellsAt w24 ⟨b7, 0, none⟩ 0 [(.int .i64 x_09), (.int .i64 x_15), (.int .i64 x_25), (.int .i64 x_35)] ∧
            (EqP Try.prog .eql Ty_api_Waiting (.tmp 91) (.tmp 92) (.agg #[.int .i64 x_08, .int .i64 x_14, .int .i64 x_24, .int .i64 x_34]) (.agg #[.int .i64 x_09, .int .i64 x_15, .int .i64 x_25, .int .i64 x_35]) fun r10 =>
            (bsplit r10
              ((bsplit (decide (r6 = r7))
                ((Calls Try.prog N_buffer_Level #[(.int .i64 n)] w24 fun e_9 w25 =>
                ∃ r11 : Int, e_9 = .returned (.int .i64 r11) ∧
                (Calls Try.prog N_ref26_Level #[(.int .i64 n)] w25 fun e_10 w26 =>
                ∃ r12 : Int, e_10 = .returned (.int .i64 r12) ∧
                (bsplit (decide (r11 = r12))
                  ((Calls Try.prog N_buffer_Bound #[(.int .i64 n)] w26 fun e_11 w27 =>
                  ∃ r13 : Int, e_11 = .returned (.int .i64 r13) ∧
                  (Calls Try.prog N_ref26_Bound #[(.int .i64 n)] w27 fun e_12 w28 =>
                  ∃ r14 : Int, e_12 = .returned (.int .i64 r14) ∧
                  (bsplit (decide (r13 = r14))
                    ((Calls Try.prog N_law26_awake #[] w28 fun e_13 w29 =>
                    ∃ r15 : Bool, e_13 = .returned (.bool r15) ∧
                    R (.bool r15) w29))
                    (R (.bool false) w28)))))
                  (R (.bool false) w26)))))
                (R (.bool false) w24)))
              (R (.bool false) w24))))))
            (R (.bool false) w24)))
          (R (.bool false) w24))))))
        (R (.bool false) w23)))
      (R (.bool false) w23)))))))))))))))))))))))))))) ∧
  (kW .i64 ((waiting_l : Int) + (groups_l : Int)) fun x =>
  (bsplit (decide (x > (60 : Int)))
    ((Calls Try.prog N_law26_awake #[] w2 fun e_ w3 =>
      ∃ r : Bool, e_ = .returned (.bool r) ∧
      R (.bool r) w3))
    ((kLdS w2 ⟨b1, 1, none⟩ fun x_a x_l x_c =>
    (bsplit (decide ((x_l : Int) > (60 : Int)))
      ((Calls Try.prog N_law26_awake #[] w2 fun e_1 w4 =>
      ∃ r1 : Bool, e_1 = .returned (.bool r1) ∧
      R (.bool r1) w4))
      (J w2)))))))))
theorem F_law26_BufferRaw_eq (n : Int) (waiting_a : Option Addr) (waiting_l : Nat) (waiting_c : Nat) (groups_a : Option Addr) (groups_l : Nat) (groups_c : Nat) (w_0 : Int) (w_1 : Int) (w_2 : Int) (w_3 : Int) (room : Int) (s_0 : Int) (s_1_a : Option Addr) (s_1_l : Nat) (s_1_c : Nat) (w : World) (R : Value → World → Prop) : sxFn Try.prog TT h_law26_BufferRaw Try.f6 #[(.int .i64 n), (.slice waiting_a waiting_l waiting_c), (.slice groups_a groups_l groups_c), (.agg #[.int .i64 w_0, .int .i64 w_1, .int .i64 w_2, .int .i64 w_3]), (.int .i64 room), (.agg #[.int .i64 s_0, .slice s_1_a s_1_l s_1_c])] w R = F_law26_BufferRaw n waiting_a waiting_l waiting_c groups_a groups_l groups_c w_0 w_1 w_2 w_3 room s_0 s_1_a s_1_l s_1_c w R := by kernel_rfl
theorem F_law26_BufferRaw_ok {R : Ending → World → Prop} (n : Int) (waiting_a : Option Addr) (waiting_l : Nat) (waiting_c : Nat) (groups_a : Option Addr) (groups_l : Nat) (groups_c : Nat) (w_0 : Int) (w_1 : Int) (w_2 : Int) (w_3 : Int) (room : Int) (s_0 : Int) (s_1_a : Option Addr) (s_1_l : Nat) (s_1_c : Nat) (w : World) (h : F_law26_BufferRaw n waiting_a waiting_l waiting_c groups_a groups_l groups_c w_0 w_1 w_2 w_3 room s_0 s_1_a s_1_l s_1_c w fun v w' => R (.returned v) w') : Calls Try.prog N_law26_BufferRaw #[(.int .i64 n), (.slice waiting_a waiting_l waiting_c), (.slice groups_a groups_l groups_c), (.agg #[.int .i64 w_0, .int .i64 w_1, .int .i64 w_2, .int .i64 w_3]), (.int .i64 room), (.agg #[.int .i64 s_0, .slice s_1_a s_1_l s_1_c])] w R :=
  calls_of (f := 6) follows_ok Try.func6 (Eq.mpr (F_law26_BufferRaw_eq n waiting_a waiting_l waiting_c groups_a groups_l groups_c w_0 w_1 w_2 w_3 room s_0 s_1_a s_1_l s_1_c w _) h)

def h_ref26_Of : H := (.seq .reg (.cut [] [5, 10, 11, 12, 13, 14, 15, 16, 17, 18, 19, 20] (.seq .reg (.cond (.seq .reg .leaf) .leaf)) (.seq .reg (.seq (.seq .reg (.block (.loop [(7, .p (.int .i64))] [5, 7, 21, 22, 23, 24, 25, 26, 27, 28, 29, 30, 31, 32, 33, 34, 35, 36, 37, 38, 39, 40, 41, 42, 43, 44, 45, 46, 47, 48, 49, 50, 51, 52, 53, 54, 55, 56, 57, 58, 59, 60, 61, 62, 63, 64, 65] (.seq (.seq .reg (.cond .leaf .leaf)) (.seq (.block (.seq (.cut [(52, .p .bool)] [27, 28, 29, 30, 31, 32, 33, 34, 35, 36, 37, 38, 39, 40, 41, 42, 43, 44, 45, 46, 47, 48, 49, 50, 51, 52] .reg (.cond (.seq .reg .leaf) .leaf)) (.draw .no (.one 0 .pre (.one 1 .pre (.one 2 .pre (.one 3 .pre (.one 4 .pre (.one 5 .pre (.one 6 .pre (.one 7 .pre (.one 8 .pre (.one 9 .pre (.one 10 .pre (.one 11 .pre (.one 12 .last .nil)))))))))))))))) .reg))))) (.seq .reg (.seq (.seq .reg (.block (.loop [(9, .p (.int .i64))] [9, 67, 68, 69, 70, 71, 72, 73, 74, 75, 76, 77] (.seq (.seq .reg (.cond .leaf .leaf)) (.seq (.block .reg) .reg))))) (.seq .reg .leaf)))))))
def F_ref26_Of (waiting_a : Option Addr) (waiting_l : Nat) (waiting_c : Nat) (groups_a : Option Addr) (groups_l : Nat) (groups_c : Nat) (w : World) (R : Value → World → Prop) : Prop :=
  (kAlloc w #[.int .i64 (0 : Int), .int .i64 (0 : Int), .int .i64 (0 : Int), .int .i64 (0 : Int)] Ty_api_Waiting fun b w1 =>
  (∃ J : World → Prop,
  (∀ (_junk : Env)  (w4 : World), J w4 →
    (kAlloc w4 #[.int .i64 (0 : Int), .int .i64 (0 : Int), .int .i64 (0 : Int), .int .i64 (0 : Int)] Ty_4_int fun b1 w5 =>
    (∃ I : Int → Nat × (World → Prop), (I (0 : Int)).2 w5 ∧
    (∀ (_junk : Env) (i : Int) (w6 : World), (I i).2 w6 →
      (bsplit (decide (i < (waiting_l : Int)))
        ((∃ J1 : Bool → World → Prop,
        (∀ (_junk : Env) (x4 : Bool) (w7 : World), J1 x4 w7 →
          (bsplit x4
            ((sxStore w7 ⟨b, 0, none⟩ 0 [(.int .i64 (0 : Int)), (.int .i64 (0 : Int)), (.int .i64 (0 : Int)), (.int .i64 (0 : Int))] fun w8 =>
            (∃ r_02 : Int, ∃ r_12 : Int, ∃ r_22 : Int, ∃ r_32 : Int, cellsAt w8 ⟨b, 0, none⟩ 0 [(.int .i64 r_02), (.int .i64 r_12), (.int .i64 r_22), (.int .i64 r_32)] ∧
            R (.tuple #[(.agg #[.int .i64 r_02, .int .i64 r_12, .int .i64 r_22, .int .i64 r_32]), (.int .i64 (3 : Int))]) w8)))
            ((kDrew w7 fun w9 =>
            (kIx groups_a groups_l i fun b6 =>
            (kLd w9 (b6.add (i.toNat * 1)) .i64 fun x5 =>
            ((0 ≤ x5 ∧ x5 < (4 : Int)) ∧
            (kLd w9 ((⟨b1, 0, none⟩ : Addr).add (x5.toNat * 1)) .i64 fun x6 =>
            (kIx waiting_a waiting_l i fun b7 =>
            (kLd w9 (b7.add (i.toNat * 1)) .i64 fun x7 =>
            (kW .i64 (x6 + x7) fun x8 =>
            ((0 ≤ x5 ∧ x5 < (4 : Int)) ∧
            (kSet w9 ((⟨b1, 0, none⟩ : Addr).add (x5.toNat * 1)) (.int .i64 x8) fun w10 =>
            (kW .i64 (i + (1 : Int)) fun x9 =>
            ((I x9).2 w10 ∧ (I x9).1 < (I i).1))))))))))))))) ∧
        (kIx groups_a groups_l i fun b2 =>
        (kLd w6 (b2.add (i.toNat * 1)) .i64 fun x =>
        (bsplit (decide (x < (0 : Int)))
          (J1 true w6)
          ((kIx groups_a groups_l i fun b3 =>
          (kLd w6 (b3.add (i.toNat * 1)) .i64 fun x1 =>
          (bsplit (decide (x1 > (3 : Int)))
            (J1 true w6)
            ((kIx waiting_a waiting_l i fun b4 =>
            (kLd w6 (b4.add (i.toNat * 1)) .i64 fun x2 =>
            (bsplit (decide (x2 < (0 : Int)))
              (J1 true w6)
              ((kIx waiting_a waiting_l i fun b5 =>
              (kLd w6 (b5.add (i.toNat * 1)) .i64 fun x3 =>
              J1 (decide (x3 > (1048576 : Int))) w6))))))))))))))))
        ((kAlloc w6 #[.int .i64 (0 : Int), .int .i64 (0 : Int), .int .i64 (0 : Int), .int .i64 (0 : Int)] Ty_api_Waiting fun b8 w11 =>
        (sxStore w11 ⟨b8, 0, none⟩ 0 [(.int .i64 (0 : Int)), (.int .i64 (0 : Int)), (.int .i64 (0 : Int)), (.int .i64 (0 : Int))] fun w12 =>
        (∃ I1 : Int → Nat × (World → Prop), (I1 (0 : Int)).2 w12 ∧
        (∀ (_junk : Env) (i1 : Int) (w13 : World), (I1 i1).2 w13 →
          (bsplit (decide (i1 < (4 : Int)))
            (((0 ≤ i1 ∧ i1 < (4 : Int)) ∧
            (kLd w13 ((⟨b1, 0, none⟩ : Addr).add (i1.toNat * 1)) .i64 fun x10 =>
            (Calls Try.prog N_ref26_Level #[(.int .i64 x10)] w13 fun e_ w14 =>
            ∃ r : Int, e_ = .returned (.int .i64 r) ∧
            ((0 ≤ i1 ∧ i1 < (4 : Int)) ∧
            (kSet w14 ((⟨b8, 0, none⟩ : Addr).add (i1.toNat * 1)) (.int .i64 r) fun w15 =>
            (kW .i64 (i1 + (1 : Int)) fun x11 =>
            ((I1 x11).2 w15 ∧ (I1 x11).1 < (I1 i1).1))))))))
            ((∃ x_0 : Int, ∃ x_1 : Int, ∃ x_2 : Int, ∃ x_3 : Int, cellsAt w13 ⟨b8, 0, none⟩ 0 [(.int .i64 x_0), (.int .i64 x_1), (.int .i64 x_2), (.int .i64 x_3)] ∧
            (sxStore w13 ⟨b, 0, none⟩ 0 [(.int .i64 x_0), (.int .i64 x_1), (.int .i64 x_2), (.int .i64 x_3)] fun w16 =>
            (∃ r_03 : Int, ∃ r_13 : Int, ∃ r_23 : Int, ∃ r_33 : Int, cellsAt w16 ⟨b, 0, none⟩ 0 [(.int .i64 r_03), (.int .i64 r_13), (.int .i64 r_23), (.int .i64 r_33)] ∧
            R (.tuple #[(.agg #[.int .i64 r_03, .int .i64 r_13, .int .i64 r_23, .int .i64 r_33]), (.int .i64 (0 : Int))]) w16))))))))))))))) ∧
  (bsplit (decide ((waiting_l : Int) > (8 : Int)))
    ((sxStore w1 ⟨b, 0, none⟩ 0 [(.int .i64 (0 : Int)), (.int .i64 (0 : Int)), (.int .i64 (0 : Int)), (.int .i64 (0 : Int))] fun w2 =>
      (∃ r_0 : Int, ∃ r_1 : Int, ∃ r_2 : Int, ∃ r_3 : Int, cellsAt w2 ⟨b, 0, none⟩ 0 [(.int .i64 r_0), (.int .i64 r_1), (.int .i64 r_2), (.int .i64 r_3)] ∧
      R (.tuple #[(.agg #[.int .i64 r_0, .int .i64 r_1, .int .i64 r_2, .int .i64 r_3]), (.int .i64 (2 : Int))]) w2)))
    ((bsplit (!decide ((waiting_l : Int) = (groups_l : Int)))
      ((sxStore w1 ⟨b, 0, none⟩ 0 [(.int .i64 (0 : Int)), (.int .i64 (0 : Int)), (.int .i64 (0 : Int)), (.int .i64 (0 : Int))] fun w3 =>
      (∃ r_01 : Int, ∃ r_11 : Int, ∃ r_21 : Int, ∃ r_31 : Int, cellsAt w3 ⟨b, 0, none⟩ 0 [(.int .i64 r_01), (.int .i64 r_11), (.int .i64 r_21), (.int .i64 r_31)] ∧
      R (.tuple #[(.agg #[.int .i64 r_01, .int .i64 r_11, .int .i64 r_21, .int .i64 r_31]), (.int .i64 (2 : Int))]) w3)))
      (J w1))))))
theorem F_ref26_Of_eq (waiting_a : Option Addr) (waiting_l : Nat) (waiting_c : Nat) (groups_a : Option Addr) (groups_l : Nat) (groups_c : Nat) (w : World) (R : Value → World → Prop) : sxFn Try.prog TT h_ref26_Of Try.f14 #[(.slice waiting_a waiting_l waiting_c), (.slice groups_a groups_l groups_c)] w R = F_ref26_Of waiting_a waiting_l waiting_c groups_a groups_l groups_c w R := by kernel_rfl
theorem F_ref26_Of_ok {R : Ending → World → Prop} (waiting_a : Option Addr) (waiting_l : Nat) (waiting_c : Nat) (groups_a : Option Addr) (groups_l : Nat) (groups_c : Nat) (w : World) (h : F_ref26_Of waiting_a waiting_l waiting_c groups_a groups_l groups_c w fun v w' => R (.returned v) w') : Calls Try.prog N_ref26_Of #[(.slice waiting_a waiting_l waiting_c), (.slice groups_a groups_l groups_c)] w R :=
  calls_of (f := 14) follows_ok Try.func14 (Eq.mpr (F_ref26_Of_eq waiting_a waiting_l waiting_c groups_a groups_l groups_c w _) h)

def h_ref26_Encode : H := (.seq .reg (.seq .reg (.seq (.seq .reg (.block (.loop [(6, .p (.int .i64)), (7, .p (.int .i64))] [5, 6, 7, 9, 10, 11, 12, 13, 14, 15, 16, 17, 18, 19, 20, 21, 22, 23, 24, 25, 26, 27, 28, 29, 30, 31, 32, 33, 34, 35] (.seq (.seq .reg (.cond .leaf .leaf)) (.seq (.block (.cut [] [5, 13, 14, 15, 16, 17, 18, 19, 20, 21, 22, 23, 24, 25] (.seq .reg (.cond (.seq .reg .leaf) .leaf)) (.seq (.draw .no (.one 0 .stable (.one 1 .stable (.one 2 .stable (.one 3 .stable (.one 4 .stable (.one 5 .stable (.one 6 .stable (.one 7 .stable (.one 8 .stable .nil)))))))))) (.cond .reg .leaf)))) .reg))))) (.seq .reg (.seq (.block (.seq .reg (.cond (.seq .reg .leaf) (.seq .reg (.cond (.seq .reg .leaf) .leaf))))) (.seq .reg .leaf))))))
def F_ref26_Encode (w_0 : Int) (w_1 : Int) (w_2 : Int) (w_3 : Int) (room : Int) (w : World) (R : Value → World → Prop) : Prop :=
  (kAlloc w #[(.int .i64 w_0), (.int .i64 w_1), (.int .i64 w_2), (.int .i64 w_3)] Ty_api_Waiting fun b w1 =>
  (kAlloc w1 #[.int .i64 (0 : Int), .slice none 0 0] Ty_api_Section fun b1 w2 =>
  (∃ I : Int → Int → Nat × (World → Prop), (I (0 : Int) (0 : Int)).2 w2 ∧
  (∀ (_junk : Env) (g : Int) (i : Int) (w3 : World), (I g i).2 w3 →
    (bsplit (decide (i < (4 : Int)))
      ((∃ J : World → Prop,
      (∀ (_junk : Env)  (w6 : World), J w6 →
        (kDrew w6 fun w7 =>
        ((0 ≤ i ∧ i < (4 : Int)) ∧
        (kLd w7 ((⟨b, 0, none⟩ : Addr).add (i.toNat * 1)) .i64 fun x2 =>
        ((0 ≤ g ∧ g < (4 : Int)) ∧
        (kLd w7 ((⟨b, 0, none⟩ : Addr).add (g.toNat * 1)) .i64 fun x3 =>
        (bsplit (decide (x2 > x3))
          ((kW .i64 (i + (1 : Int)) fun x4 =>
          ((I i x4).2 w7 ∧ (I i x4).1 < (I g i).1)))
          ((kW .i64 (i + (1 : Int)) fun x5 =>
          ((I g x5).2 w7 ∧ (I g x5).1 < (I g i).1)))))))))) ∧
      ((0 ≤ i ∧ i < (4 : Int)) ∧
      (kLd w3 ((⟨b, 0, none⟩ : Addr).add (i.toNat * 1)) .i64 fun x =>
      (bsplit (decide (x < (0 : Int)))
        ((sxStore w3 ⟨b1, 0, none⟩ 0 [(.int .i64 (0 : Int)), (.slice none 0 0)] fun w4 =>
          (∃ r_0 : Int, ∃ r_1_a : Option Addr, ∃ r_1_l : Nat, ∃ r_1_c : Nat, cellsAt w4 ⟨b1, 0, none⟩ 0 [(.int .i64 r_0), (.slice r_1_a r_1_l r_1_c)] ∧
          R (.tuple #[(.agg #[.int .i64 r_0, .slice r_1_a r_1_l r_1_c]), (.int .i64 (1 : Int))]) w4)))
        (((0 ≤ i ∧ i < (4 : Int)) ∧
        (kLd w3 ((⟨b, 0, none⟩ : Addr).add (i.toNat * 1)) .i64 fun x1 =>
        (bsplit (decide (x1 > (15 : Int)))
          ((sxStore w3 ⟨b1, 0, none⟩ 0 [(.int .i64 (0 : Int)), (.slice none 0 0)] fun w5 =>
          (∃ r_01 : Int, ∃ r_1_a1 : Option Addr, ∃ r_1_l1 : Nat, ∃ r_1_c1 : Nat, cellsAt w5 ⟨b1, 0, none⟩ 0 [(.int .i64 r_01), (.slice r_1_a1 r_1_l1 r_1_c1)] ∧
          R (.tuple #[(.agg #[.int .i64 r_01, .slice r_1_a1 r_1_l1 r_1_c1]), (.int .i64 (1 : Int))]) w5)))
          (J w3))))))))))
      ((∃ x_0 : Int, ∃ x_1 : Int, ∃ x_2 : Int, ∃ x_3 : Int, cellsAt w3 ⟨b, 0, none⟩ 0 [(.int .i64 x_0), (.int .i64 x_1), (.int .i64 x_2), (.int .i64 x_3)] ∧
      (kAlloc w3 #[.int .i64 (0 : Int), .int .i64 (0 : Int), .int .i64 (0 : Int), .int .i64 (0 : Int)] Ty_4_int fun b2 w8 =>
      (sxStore w8 ⟨b2, 0, none⟩ 0 [(.int .i64 x_0), (.int .i64 x_1), (.int .i64 x_2), (.int .i64 x_3)] fun w9 =>
      (kLet (decide (room ≥ (4 : Int))) fun x6 =>
      (bsplit x6
        ((kLd w9 ⟨b2, 0, none⟩ .i64 fun x7 =>
        (kW .i64 ((16 : Int) * x7) fun x8 =>
        (kLd w9 ⟨b2, 1, none⟩ .i64 fun x9 =>
        (kW .i64 (x8 + x9) fun x10 =>
        (kW .u8 (x10) fun x11 =>
        (kLd w9 ⟨b2, 2, none⟩ .i64 fun x12 =>
        (kW .i64 ((16 : Int) * x12) fun x13 =>
        (kLd w9 ⟨b2, 3, none⟩ .i64 fun x14 =>
        (kW .i64 (x13 + x14) fun x15 =>
        (kW .u8 (x15) fun x16 =>
        (kAlloc w9 #[(.int .u8 x11), (.int .u8 x16)] Ty_uint8 fun b3 w10 =>
        (sxStore w10 ⟨b1, 0, none⟩ 0 [(.int .i64 (9 : Int)), (.slice (some ⟨b3, 0, none⟩) 2 2)] fun w11 =>
        (∃ r_02 : Int, ∃ r_1_a2 : Option Addr, ∃ r_1_l2 : Nat, ∃ r_1_c2 : Nat, cellsAt w11 ⟨b1, 0, none⟩ 0 [(.int .i64 r_02), (.slice r_1_a2 r_1_l2 r_1_c2)] ∧
        R (.tuple #[(.agg #[.int .i64 r_02, .slice r_1_a2 r_1_l2 r_1_c2]), (.int .i64 (0 : Int))]) w11))))))))))))))
        ((kLet (decide (room = (3 : Int))) fun x17 =>
        (bsplit x17
          ((kW .i64 ((64 : Int) * g) fun x18 =>
          ((0 ≤ g ∧ g < (4 : Int)) ∧
          (kLd w9 ((⟨b2, 0, none⟩ : Addr).add (g.toNat * 1)) .i64 fun x19 =>
          (kW .i64 (x18 + x19) fun x20 =>
          (kW .u8 (x20) fun x21 =>
          (kAlloc w9 #[(.int .u8 x21)] Ty_uint8 fun b4 w12 =>
          (sxStore w12 ⟨b1, 0, none⟩ 0 [(.int .i64 (8 : Int)), (.slice (some ⟨b4, 0, none⟩) 1 1)] fun w13 =>
          (∃ r_03 : Int, ∃ r_1_a3 : Option Addr, ∃ r_1_l3 : Nat, ∃ r_1_c3 : Nat, cellsAt w13 ⟨b1, 0, none⟩ 0 [(.int .i64 r_03), (.slice r_1_a3 r_1_l3 r_1_c3)] ∧
          R (.tuple #[(.agg #[.int .i64 r_03, .slice r_1_a3 r_1_l3 r_1_c3]), (.int .i64 (0 : Int))]) w13)))))))))
          ((sxStore w9 ⟨b1, 0, none⟩ 0 [(.int .i64 (0 : Int)), (.slice none 0 0)] fun w14 =>
          (∃ r_04 : Int, ∃ r_1_a4 : Option Addr, ∃ r_1_l4 : Nat, ∃ r_1_c4 : Nat, cellsAt w14 ⟨b1, 0, none⟩ 0 [(.int .i64 r_04), (.slice r_1_a4 r_1_l4 r_1_c4)] ∧
          R (.tuple #[(.agg #[.int .i64 r_04, .slice r_1_a4 r_1_l4 r_1_c4]), (.int .i64 (15 : Int))]) w14)))))))))))))))))
theorem F_ref26_Encode_eq (w_0 : Int) (w_1 : Int) (w_2 : Int) (w_3 : Int) (room : Int) (w : World) (R : Value → World → Prop) : sxFn Try.prog TT h_ref26_Encode Try.f15 #[(.agg #[.int .i64 w_0, .int .i64 w_1, .int .i64 w_2, .int .i64 w_3]), (.int .i64 room)] w R = F_ref26_Encode w_0 w_1 w_2 w_3 room w R := by kernel_rfl
theorem F_ref26_Encode_ok {R : Ending → World → Prop} (w_0 : Int) (w_1 : Int) (w_2 : Int) (w_3 : Int) (room : Int) (w : World) (h : F_ref26_Encode w_0 w_1 w_2 w_3 room w fun v w' => R (.returned v) w') : Calls Try.prog N_ref26_Encode #[(.agg #[.int .i64 w_0, .int .i64 w_1, .int .i64 w_2, .int .i64 w_3]), (.int .i64 room)] w R :=
  calls_of (f := 15) follows_ok Try.func15 (Eq.mpr (F_ref26_Encode_eq w_0 w_1 w_2 w_3 room w _) h)

def h_ref26_Decode : H := (.seq .reg (.seq .reg (.seq (.block (.cut [(32, .p .bool)] [32, 33, 34, 35, 36, 37, 38, 39, 40] .reg (.cond (.seq .reg .leaf) (.cut [(42, .p .bool)] [42, 43, 44, 45, 46, 47, 48, 49, 50, 51, 52, 53, 54, 55, 56, 57, 58, 59, 60] (.seq .reg (.cond .leaf .reg)) (.cond (.seq .reg .leaf) (.cut [(62, .p .bool)] [62, 63, 64, 65, 66, 67, 68, 69, 70, 71, 72, 73] .reg (.cond (.seq .reg .leaf) (.seq .reg (.cond (.draw .no (.one 0 .pre (.one 1 .pre (.one 2 .pre (.one 3 .pre (.one 4 .pre (.one 5 .pre (.one 6 .pre (.one 7 .pre (.one 8 .pre (.one 9 .pre (.one 10 .pre (.one 11 .pre (.one 12 .pre (.one 13 .last .nil))))))))))))))) (.draw .blk (.one 0 .pre (.one 1 .pre (.one 2 .pre (.one 3 .pre (.one 4 .pre (.one 5 .pre (.one 6 .pre (.one 7 .pre (.one 8 .pre (.one 9 .pre (.one 10 .pre (.one 11 .pre (.one 12 .pre (.one 13 .pre (.one 14 .pre (.one 15 .pre (.one 16 .pre (.one 17 .pre (.one 18 .pre (.one 19 .pre (.one 20 .pre (.one 21 .pre (.one 22 .pre (.one 23 .pre (.one 24 .keep (.one 25 .stable (.one 26 .last .nil))))))))))))))))))))))))))))))))))))) (.seq .reg .leaf))))
def F_ref26_Decode (s_0 : Int) (s_1_a : Option Addr) (s_1_l : Nat) (s_1_c : Nat) (w : World) (R : Value → World → Prop) : Prop :=
  (kAlloc w #[(.int .i64 s_0), (.slice s_1_a s_1_l s_1_c)] Ty_api_Section fun b w1 =>
  (kAlloc w1 #[.int .i64 (0 : Int), .int .i64 (0 : Int), .int .i64 (0 : Int), .int .i64 (0 : Int)] Ty_api_Waiting fun b1 w2 =>
  (kAlloc w2 #[.int .i64 (0 : Int), .int .i64 (0 : Int), .int .i64 (0 : Int), .int .i64 (0 : Int)] Ty_api_Waiting fun b2 w3 =>
  (sxStore w3 ⟨b2, 0, none⟩ 0 [(.int .i64 (0 : Int)), (.int .i64 (0 : Int)), (.int .i64 (0 : Int)), (.int .i64 (0 : Int))] fun w4 =>
  (∃ J : Bool → World → Prop,
  (∀ (_junk : Env) (x3 : Bool) (w5 : World), J x3 w5 →
    (bsplit x3
      ((∃ x_0 : Int, ∃ x_1 : Int, ∃ x_2 : Int, ∃ x_3 : Int, cellsAt w5 ⟨b2, 0, none⟩ 0 [(.int .i64 x_0), (.int .i64 x_1), (.int .i64 x_2), (.int .i64 x_3)] ∧
      (sxStore w5 ⟨b1, 0, none⟩ 0 [(.int .i64 x_0), (.int .i64 x_1), (.int .i64 x_2), (.int .i64 x_3)] fun w6 =>
      (∃ r_0 : Int, ∃ r_1 : Int, ∃ r_2 : Int, ∃ r_3 : Int, cellsAt w6 ⟨b1, 0, none⟩ 0 [(.int .i64 r_0), (.int .i64 r_1), (.int .i64 r_2), (.int .i64 r_3)] ∧
      R (.tuple #[(.agg #[.int .i64 r_0, .int .i64 r_1, .int .i64 r_2, .int .i64 r_3]), (.int .i64 (7 : Int))]) w6))))
      ((∃ J1 : Bool → World → Prop,
      (∀ (_junk : Env) (x10 : Bool) (w7 : World), J1 x10 w7 →
        (bsplit x10
          ((∃ x_01 : Int, ∃ x_11 : Int, ∃ x_21 : Int, ∃ x_31 : Int, cellsAt w7 ⟨b2, 0, none⟩ 0 [(.int .i64 x_01), (.int .i64 x_11), (.int .i64 x_21), (.int .i64 x_31)] ∧
          (sxStore w7 ⟨b1, 0, none⟩ 0 [(.int .i64 x_01), (.int .i64 x_11), (.int .i64 x_21), (.int .i64 x_31)] fun w8 =>
          (∃ r_01 : Int, ∃ r_11 : Int, ∃ r_21 : Int, ∃ r_31 : Int, cellsAt w8 ⟨b1, 0, none⟩ 0 [(.int .i64 r_01), (.int .i64 r_11), (.int .i64 r_21), (.int .i64 r_31)] ∧
          R (.tuple #[(.agg #[.int .i64 r_01, .int .i64 r_11, .int .i64 r_21, .int .i64 r_31]), (.int .i64 (2 : Int))]) w8))))
          ((∃ J2 : Bool → World → Prop,
          (∀ (_junk : Env) (x15 : Bool) (w9 : World), J2 x15 w9 →
            (bsplit x15
              ((∃ x_02 : Int, ∃ x_12 : Int, ∃ x_22 : Int, ∃ x_32 : Int, cellsAt w9 ⟨b2, 0, none⟩ 0 [(.int .i64 x_02), (.int .i64 x_12), (.int .i64 x_22), (.int .i64 x_32)] ∧
              (sxStore w9 ⟨b1, 0, none⟩ 0 [(.int .i64 x_02), (.int .i64 x_12), (.int .i64 x_22), (.int .i64 x_32)] fun w10 =>
              (∃ r_02 : Int, ∃ r_12 : Int, ∃ r_22 : Int, ∃ r_32 : Int, cellsAt w10 ⟨b1, 0, none⟩ 0 [(.int .i64 r_02), (.int .i64 r_12), (.int .i64 r_22), (.int .i64 r_32)] ∧
              R (.tuple #[(.agg #[.int .i64 r_02, .int .i64 r_12, .int .i64 r_22, .int .i64 r_32]), (.int .i64 (4 : Int))]) w10))))
              ((kLd w9 ⟨b, 0, none⟩ .i64 fun x16 =>
              (kLet (decide (x16 = (8 : Int))) fun x17 =>
              (bsplit x17
                ((kDrew w9 fun w11 =>
                (kLdS w11 ⟨b, 1, none⟩ fun x_a4 x_l4 x_c4 =>
                (kIx x_a4 x_l4 (0 : Int) fun b4 =>
                (kLd w11 (b4.add ((0 : Int).toNat * 1)) .u8 fun x18 =>
                (kLet (Int.fdiv x18 (2 ^ 6)) fun x19 =>
                (kLdS w11 ⟨b, 1, none⟩ fun x_a5 x_l5 x_c5 =>
                (kIx x_a5 x_l5 (0 : Int) fun b5 =>
                (kLd w11 (b5.add ((0 : Int).toNat * 1)) .u8 fun x20 =>
                (kLet (bAnd .u8 x20 (15 : Int)) fun x21 =>
                (kW .i64 (x21) fun x22 =>
                ((0 ≤ x19 ∧ x19 < (4 : Int)) ∧
                (kSet w11 ((⟨b2, 0, none⟩ : Addr).add (x19.toNat * 1)) (.int .i64 x22) fun w12 =>
                (∃ x_03 : Int, ∃ x_13 : Int, ∃ x_23 : Int, ∃ x_33 : Int, cellsAt w12 ⟨b2, 0, none⟩ 0 [(.int .i64 x_03), (.int .i64 x_13), (.int .i64 x_23), (.int .i64 x_33)] ∧
                (sxStore w12 ⟨b1, 0, none⟩ 0 [(.int .i64 x_03), (.int .i64 x_13), (.int .i64 x_23), (.int .i64 x_33)] fun w13 =>
                (∃ r_03 : Int, ∃ r_13 : Int, ∃ r_23 : Int, ∃ r_33 : Int, cellsAt w13 ⟨b1, 0, none⟩ 0 [(.int .i64 r_03), (.int .i64 r_13), (.int .i64 r_23), (.int .i64 r_33)] ∧
                R (.tuple #[(.agg #[.int .i64 r_03, .int .i64 r_13, .int .i64 r_23, .int .i64 r_33]), (.int .i64 (0 : Int))]) w13))))))))))))))))
                ((kDrew w9 fun w14 =>
                (∃ S : Nat → Prop,
                (kLdS w14 ⟨b, 1, none⟩ fun x_a6 x_l6 x_c6 =>
                (kIx x_a6 x_l6 (0 : Int) fun b6 =>
                (kLd w14 (b6.add ((0 : Int).toNat * 1)) .u8 fun x23 =>
                (kLet (Int.fdiv x23 (2 ^ 4)) fun x24 =>
                (kW .i64 (x24) fun x25 =>
                (kLdS w14 ⟨b, 1, none⟩ fun x_a7 x_l7 x_c7 =>
                (kIx x_a7 x_l7 (0 : Int) fun b7 =>
                (kLd w14 (b7.add ((0 : Int).toNat * 1)) .u8 fun x26 =>
                (kLet (bAnd .u8 x26 (15 : Int)) fun x27 =>
                (kW .i64 (x27) fun x28 =>
                (kLdS w14 ⟨b, 1, none⟩ fun x_a8 x_l8 x_c8 =>
                (kIx x_a8 x_l8 (1 : Int) fun b8 =>
                (kLd w14 (b8.add ((1 : Int).toNat * 1)) .u8 fun x29 =>
                (kLet (Int.fdiv x29 (2 ^ 4)) fun x30 =>
                (kW .i64 (x30) fun x31 =>
                (kLdS w14 ⟨b, 1, none⟩ fun x_a9 x_l9 x_c9 =>
                (kIx x_a9 x_l9 (1 : Int) fun b9 =>
                (kLd w14 (b9.add ((1 : Int).toNat * 1)) .u8 fun x32 =>
                (kLet (bAnd .u8 x32 (15 : Int)) fun x33 =>
                (kW .i64 (x33) fun x34 =>
                (KeepsB S w14 w14 ∧ (sxStore w14 ⟨b2, 0, none⟩ 0 [(.int .i64 x25), (.int .i64 x28), (.int .i64 x31), (.int .i64 x34)] fun w15 =>
                (∃ x_04 : Int, ∃ x_14 : Int, ∃ x_24 : Int, ∃ x_34 : Int, cellsAt w15 ⟨b2, 0, none⟩ 0 [(.int .i64 x_04), (.int .i64 x_14), (.int .i64 x_24), (.int .i64 x_34)] ∧
                (sxStore w15 ⟨b1, 0, none⟩ 0 [(.int .i64 x_04), (.int .i64 x_14), (.int .i64 x_24), (.int .i64 x_34)] fun w16 =>
                (∃ r_04 : Int, ∃ r_14 : Int, ∃ r_24 : Int, ∃ r_34 : Int, cellsAt w16 ⟨b1, 0, none⟩ 0 [(.int .i64 r_04), (.int .i64 r_14), (.int .i64 r_24), (.int .i64 r_34)] ∧
                R (.tuple #[(.agg #[.int .i64 r_04, .int .i64 r_14, .int .i64 r_24, .int .i64 r_34]), (.int .i64 (0 : Int))]) w16)))))))))))))))))))))))))))))))))) ∧
          (kLd w7 ⟨b, 0, none⟩ .i64 fun x11 =>
          (bsplit (decide (x11 = (8 : Int)))
            ((kLdS w7 ⟨b, 1, none⟩ fun x_a3 x_l3 x_c3 =>
            (kIx x_a3 x_l3 (0 : Int) fun b3 =>
            (kLd w7 (b3.add ((0 : Int).toNat * 1)) .u8 fun x12 =>
            (kLet (bAnd .u8 x12 (48 : Int)) fun x13 =>
            (kLet (!decide (x13 = (0 : Int))) fun x14 =>
            J2 x14 w7))))))
            (J2 false w7))))))) ∧
      (kLd w5 ⟨b, 0, none⟩ .i64 fun x4 =>
      (bsplit (decide (x4 = (9 : Int)))
        ((kLdS w5 ⟨b, 1, none⟩ fun x_a x_l x_c =>
        (kLet (!decide ((x_l : Int) = (2 : Int))) fun x5 =>
        (bsplit x5
          (J1 x5 w5)
          ((kLd w5 ⟨b, 0, none⟩ .i64 fun x6 =>
          (bsplit (decide (x6 = (8 : Int)))
            ((kLdS w5 ⟨b, 1, none⟩ fun x_a1 x_l1 x_c1 =>
            (kLet (!decide ((x_l1 : Int) = (1 : Int))) fun x7 =>
            J1 x7 w5)))
            (J1 false w5))))))))
        ((kLd w5 ⟨b, 0, none⟩ .i64 fun x8 =>
          (bsplit (decide (x8 = (8 : Int)))
            ((kLdS w5 ⟨b, 1, none⟩ fun x_a2 x_l2 x_c2 =>
            (kLet (!decide ((x_l2 : Int) = (1 : Int))) fun x9 =>
            J1 x9 w5)))
            (J1 false w5)))))))))) ∧
  (kLd w4 ⟨b, 0, none⟩ .i64 fun x =>
  (bsplit (!decide (x = (9 : Int)))
    ((kLd w4 ⟨b, 0, none⟩ .i64 fun x1 =>
    (kLet (!decide (x1 = (8 : Int))) fun x2 =>
    J x2 w4)))
    (J false w4))))))))
theorem F_ref26_Decode_eq (s_0 : Int) (s_1_a : Option Addr) (s_1_l : Nat) (s_1_c : Nat) (w : World) (R : Value → World → Prop) : sxFn Try.prog TT h_ref26_Decode Try.f16 #[(.agg #[.int .i64 s_0, .slice s_1_a s_1_l s_1_c])] w R = F_ref26_Decode s_0 s_1_a s_1_l s_1_c w R := by kernel_rfl
theorem F_ref26_Decode_ok {R : Ending → World → Prop} (s_0 : Int) (s_1_a : Option Addr) (s_1_l : Nat) (s_1_c : Nat) (w : World) (h : F_ref26_Decode s_0 s_1_a s_1_l s_1_c w fun v w' => R (.returned v) w') : Calls Try.prog N_ref26_Decode #[(.agg #[.int .i64 s_0, .slice s_1_a s_1_l s_1_c])] w R :=
  calls_of (f := 16) follows_ok Try.func16 (Eq.mpr (F_ref26_Decode_eq s_0 s_1_a s_1_l s_1_c w _) h)

def h_law26_same : H := (.seq .reg (.seq .reg .leaf))
def F_law26_same (a_0 : Int) (a_1_a : Option Addr) (a_1_l : Nat) (a_1_c : Nat) (b_0 : Int) (b_1_a : Option Addr) (b_1_l : Nat) (b_1_c : Nat) (w : World) (R : Value → World → Prop) : Prop :=
  (kAlloc w #[(.int .i64 a_0), (.slice a_1_a a_1_l a_1_c)] Ty_api_Section fun b w1 =>
  (kAlloc w1 #[(.int .i64 b_0), (.slice b_1_a b_1_l b_1_c)] Ty_api_Section fun b1 w2 =>
  (kLd w2 ⟨b, 0, none⟩ .i64 fun x =>
  (kLd w2 ⟨b1, 0, none⟩ .i64 fun x1 =>
  (bsplit (decide (x = x1))
    ((kLdS w2 ⟨b, 1, none⟩ fun x_a x_l x_c =>
    (kLdS w2 ⟨b1, 1, none⟩ fun x_a1 x_l1 x_c1 =>
    (Calls Try.prog N_ref24_SameBytes #[(.slice x_a x_l x_c), (.slice x_a1 x_l1 x_c1)] w2 fun e_ w3 =>
    ∃ r : Bool, e_ = .returned (.bool r) ∧
    R (.bool r) w3))))
    (R (.bool false) w2))))))
theorem F_law26_same_eq (a_0 : Int) (a_1_a : Option Addr) (a_1_l : Nat) (a_1_c : Nat) (b_0 : Int) (b_1_a : Option Addr) (b_1_l : Nat) (b_1_c : Nat) (w : World) (R : Value → World → Prop) : sxFn Try.prog TT h_law26_same Try.f17 #[(.agg #[.int .i64 a_0, .slice a_1_a a_1_l a_1_c]), (.agg #[.int .i64 b_0, .slice b_1_a b_1_l b_1_c])] w R = F_law26_same a_0 a_1_a a_1_l a_1_c b_0 b_1_a b_1_l b_1_c w R := by kernel_rfl
theorem F_law26_same_ok {R : Ending → World → Prop} (a_0 : Int) (a_1_a : Option Addr) (a_1_l : Nat) (a_1_c : Nat) (b_0 : Int) (b_1_a : Option Addr) (b_1_l : Nat) (b_1_c : Nat) (w : World) (h : F_law26_same a_0 a_1_a a_1_l a_1_c b_0 b_1_a b_1_l b_1_c w fun v w' => R (.returned v) w') : Calls Try.prog N_law26_same #[(.agg #[.int .i64 a_0, .slice a_1_a a_1_l a_1_c]), (.agg #[.int .i64 b_0, .slice b_1_a b_1_l b_1_c])] w R :=
  calls_of (f := 17) follows_ok Try.func17 (Eq.mpr (F_law26_same_eq a_0 a_1_a a_1_l a_1_c b_0 b_1_a b_1_l b_1_c w _) h)

def h_ref26_Level : H := (.seq .reg (.seq (.seq .reg (.block (.loop [(3, .p (.int .i64))] [2, 3, 4, 5, 6, 7, 8, 9, 10, 11, 12] (.seq (.seq .reg (.cond .leaf .leaf)) (.seq (.block (.seq .reg (.cond (.seq .reg .leaf) .leaf))) .reg))))) (.seq .reg .leaf)))
def F_ref26_Level (n : Int) (w : World) (R : Value → World → Prop) : Prop :=
  (∃ I : Int → Nat × (World → Prop), (I (0 : Int)).2 w ∧
  (∀ (_junk : Env) (i : Int) (w1 : World), (I i).2 w1 →
    (bsplit (decide (i < (15 : Int)))
      ((Calls Try.prog N_ref26_Bound #[(.int .i64 i)] w1 fun e_ w2 =>
      ∃ r : Int, e_ = .returned (.int .i64 r) ∧
      (bsplit (decide (r ≥ n))
        (R (.int .i64 i) w2)
        ((kW .i64 (i + (1 : Int)) fun x =>
        ((I x).2 w2 ∧ (I x).1 < (I i).1))))))
      (R (.int .i64 (15 : Int)) w1))))
theorem F_ref26_Level_eq (n : Int) (w : World) (R : Value → World → Prop) : sxFn Try.prog TT h_ref26_Level Try.f18 #[(.int .i64 n)] w R = F_ref26_Level n w R := by kernel_rfl
theorem F_ref26_Level_ok {R : Ending → World → Prop} (n : Int) (w : World) (h : F_ref26_Level n w fun v w' => R (.returned v) w') : Calls Try.prog N_ref26_Level #[(.int .i64 n)] w R :=
  calls_of (f := 18) follows_ok Try.func18 (Eq.mpr (F_ref26_Level_eq n w _) h)

def h_ref26_Bound : H := (.seq .reg (.seq (.block (.cut [(5, .p .bool)] [5, 6, 7, 8, 9, 10, 11] .reg (.cond (.seq .reg .leaf) (.seq .reg (.cond (.seq .reg .leaf) (.seq .reg (.cond (.seq .reg .leaf) .leaf))))))) (.seq .reg (.seq (.seq .reg (.block (.loop [(3, .p (.int .i64)), (4, .p (.int .i64))] [3, 4, 18, 19, 20, 21, 22, 23, 24] (.seq (.seq .reg (.cond .leaf .leaf)) (.seq (.block .reg) .reg))))) (.seq .reg .leaf)))))
def F_ref26_Bound (level : Int) (w : World) (R : Value → World → Prop) : Prop :=
  (∃ J : Bool → World → Prop,
  (∀ (_junk : Env) (x1 : Bool) (w1 : World), J x1 w1 →
    (bsplit x1
      (R (.int .i64 (-1 : Int)) w1)
      ((kLet (decide (level = (0 : Int))) fun x2 =>
      (bsplit x2
        (R (.int .i64 (0 : Int)) w1)
        ((kLet (decide (level = (15 : Int))) fun x3 =>
        (bsplit x3
          (R (.int .i64 (1048576 : Int)) w1)
          ((∃ I : Int → Int → Nat × (World → Prop), (I (8 : Int) (1 : Int)).2 w1 ∧
          (∀ (_junk : Env) (n : Int) (i : Int) (w2 : World), (I n i).2 w2 →
            (bsplit (decide (i < level))
              ((kW .i64 ((2 : Int) * n) fun x4 =>
              (kW .i64 (i + (1 : Int)) fun x5 =>
              ((I x4 x5).2 w2 ∧ (I x4 x5).1 < (I n i).1))))
              (R (.int .i64 n) w2))))))))))))) ∧
  (bsplit (decide (level < (0 : Int)))
    (J true w)
    ((kLet (decide (level > (15 : Int))) fun x =>
    J x w))))
theorem F_ref26_Bound_eq (level : Int) (w : World) (R : Value → World → Prop) : sxFn Try.prog TT h_ref26_Bound Try.f19 #[(.int .i64 level)] w R = F_ref26_Bound level w R := by kernel_rfl
theorem F_ref26_Bound_ok {R : Ending → World → Prop} (level : Int) (w : World) (h : F_ref26_Bound level w fun v w' => R (.returned v) w') : Calls Try.prog N_ref26_Bound #[(.int .i64 level)] w R :=
  calls_of (f := 19) follows_ok Try.func19 (Eq.mpr (F_ref26_Bound_eq level w _) h)

def h_ref24_SameBytes : H := (.seq .reg (.seq (.seq .reg (.cond (.seq .reg .leaf) .leaf)) (.seq (.seq .reg (.block (.loop [(5, .p (.int .i64))] [4, 5, 11, 12, 13, 14, 15, 16, 17, 18, 19, 20, 21, 22, 23, 24, 25] (.seq (.seq .reg (.cond .leaf .leaf)) (.seq (.block (.seq (.draw .no (.one 0 .stable (.one 1 .stable (.one 2 .stable (.one 3 .stable (.one 4 .stable (.one 5 .stable (.one 6 .stable (.one 7 .stable (.one 8 .stable .nil)))))))))) (.cond (.seq .reg .leaf) .leaf))) .reg))))) (.seq .reg .leaf))))
def F_ref24_SameBytes (a_a : Option Addr) (a_l : Nat) (a_c : Nat) (b_a : Option Addr) (b_l : Nat) (b_c : Nat) (w : World) (R : Value → World → Prop) : Prop :=
  (bsplit (!decide ((a_l : Int) = (b_l : Int)))
    (R (.bool false) w)
    ((∃ I : Int → Nat × (World → Prop), (I (0 : Int)).2 w ∧
    (∀ (_junk : Env) (i : Int) (w1 : World), (I i).2 w1 →
      (bsplit (decide (i < (a_l : Int)))
        ((kDrew w1 fun w2 =>
        (kIx a_a a_l i fun b =>
        (kLd w2 (b.add (i.toNat * 1)) .u8 fun x =>
        (kIx b_a b_l i fun b1 =>
        (kLd w2 (b1.add (i.toNat * 1)) .u8 fun x1 =>
        (bsplit (!decide (x = x1))
          (R (.bool false) w2)
          ((kW .i64 (i + (1 : Int)) fun x2 =>
          ((I x2).2 w2 ∧ (I x2).1 < (I i).1))))))))))
        (R (.bool true) w1))))))
theorem F_ref24_SameBytes_eq (a_a : Option Addr) (a_l : Nat) (a_c : Nat) (b_a : Option Addr) (b_l : Nat) (b_c : Nat) (w : World) (R : Value → World → Prop) : sxFn Try.prog TT h_ref24_SameBytes Try.f23 #[(.slice a_a a_l a_c), (.slice b_a b_l b_c)] w R = F_ref24_SameBytes a_a a_l a_c b_a b_l b_c w R := by kernel_rfl
theorem F_ref24_SameBytes_ok {R : Ending → World → Prop} (a_a : Option Addr) (a_l : Nat) (a_c : Nat) (b_a : Option Addr) (b_l : Nat) (b_c : Nat) (w : World) (h : F_ref24_SameBytes a_a a_l a_c b_a b_l b_c w fun v w' => R (.returned v) w') : Calls Try.prog N_ref24_SameBytes #[(.slice a_a a_l a_c), (.slice b_a b_l b_c)] w R :=
  calls_of (f := 23) follows_ok Try.func23 (Eq.mpr (F_ref24_SameBytes_eq a_a a_l a_c b_a b_l b_c w _) h)

end Go.Proofs.Ytamkmafmhglfkaa
