import Derived.Test.YthceaojjeokclaaBase
import Derived.KernelRfl
namespace Go.Proofs.Ythceaojjeokclaa
open Go.Sx Go.RowKit
set_option maxRecDepth 100000

def h_receiver_piece_known : H := (.seq .reg (.seq .reg (.seq .reg .leaf)))
def F_receiver_piece_known (p_0 : Int) (p_1 : Int) (p_2 : Int) (p_3 : Int) (p_4_a : Option Addr) (p_4_l : Nat) (p_4_c : Nat) (p_5 : Int) (p_6 : Bool) (x_0 : Int) (x_1 : Bool) (x_2 : Int) (x_3_a : Option Addr) (x_3_l : Nat) (x_3_c : Nat) (x_4_a : Option Addr) (x_4_l : Nat) (x_4_c : Nat) (w : World) (R : Value → World → Prop) : Prop :=
  (kAlloc w #[(.int .i64 p_0), (.int .i64 p_1), (.int .i64 p_2), (.int .i64 p_3), (.slice p_4_a p_4_l p_4_c), (.int .i64 p_5), (.bool p_6)] Ty_receiver_piece fun b w1 =>
  (kAlloc w1 #[(.int .i64 x_0), (.bool x_1), (.int .i64 x_2), (.slice x_3_a x_3_l x_3_c), (.slice x_4_a x_4_l x_4_c)] Ty_api_Partial fun b1 w2 =>
  (kLdS w2 ⟨b1, 4, none⟩ fun x_a x_l x_c =>
  (Calls Try.prog N_slices_ContainsFunc_Sapi_Range_api_Range #[(.slice x_a x_l x_c), (.func (.func N_receiver_piece_known_1) #[] #[(.pointer (some ⟨b, 0, none⟩))])] w2 fun e_ w3 =>
  ∃ r : Bool, e_ = .returned (.bool r) ∧
  (bsplit r
    ((kLdB w3 ⟨b, 6, none⟩ fun x =>
    (bsplit (!x)
      (R (.bool true) w3)
      ((kLd w3 ⟨b1, 2, none⟩ .i64 fun x1 =>
      (kLet (!decide (x1 = (-1 : Int))) fun x2 =>
      R (.bool x2) w3))))))
    (R (.bool false) w3))))))
theorem F_receiver_piece_known_eq (p_0 : Int) (p_1 : Int) (p_2 : Int) (p_3 : Int) (p_4_a : Option Addr) (p_4_l : Nat) (p_4_c : Nat) (p_5 : Int) (p_6 : Bool) (x_0 : Int) (x_1 : Bool) (x_2 : Int) (x_3_a : Option Addr) (x_3_l : Nat) (x_3_c : Nat) (x_4_a : Option Addr) (x_4_l : Nat) (x_4_c : Nat) (w : World) (R : Value → World → Prop) : sxFn Try.prog TT h_receiver_piece_known Try.f57 #[(.agg #[.int .i64 p_0, .int .i64 p_1, .int .i64 p_2, .int .i64 p_3, .slice p_4_a p_4_l p_4_c, .int .i64 p_5, .bool p_6]), (.agg #[.int .i64 x_0, .bool x_1, .int .i64 x_2, .slice x_3_a x_3_l x_3_c, .slice x_4_a x_4_l x_4_c])] w R = F_receiver_piece_known p_0 p_1 p_2 p_3 p_4_a p_4_l p_4_c p_5 p_6 x_0 x_1 x_2 x_3_a x_3_l x_3_c x_4_a x_4_l x_4_c w R := by kernel_rfl
theorem F_receiver_piece_known_ok {R : Ending → World → Prop} (p_0 : Int) (p_1 : Int) (p_2 : Int) (p_3 : Int) (p_4_a : Option Addr) (p_4_l : Nat) (p_4_c : Nat) (p_5 : Int) (p_6 : Bool) (x_0 : Int) (x_1 : Bool) (x_2 : Int) (x_3_a : Option Addr) (x_3_l : Nat) (x_3_c : Nat) (x_4_a : Option Addr) (x_4_l : Nat) (x_4_c : Nat) (w : World) (h : F_receiver_piece_known p_0 p_1 p_2 p_3 p_4_a p_4_l p_4_c p_5 p_6 x_0 x_1 x_2 x_3_a x_3_l x_3_c x_4_a x_4_l x_4_c w fun v w' => R (.returned v) w') : Calls Try.prog N_receiver_piece_known #[(.agg #[.int .i64 p_0, .int .i64 p_1, .int .i64 p_2, .int .i64 p_3, .slice p_4_a p_4_l p_4_c, .int .i64 p_5, .bool p_6]), (.agg #[.int .i64 x_0, .bool x_1, .int .i64 x_2, .slice x_3_a x_3_l x_3_c, .slice x_4_a x_4_l x_4_c])] w R :=
  calls_of (f := 57) follows_ok Try.func57 (Eq.mpr (F_receiver_piece_known_eq p_0 p_1 p_2 p_3 p_4_a p_4_l p_4_c p_5 p_6 x_0 x_1 x_2 x_3_a x_3_l x_3_c x_4_a x_4_l x_4_c w _) h)

def h_slices_rotateRight_api_Partial : H := .reg
def F_slices_rotateRight_api_Partial (s_a : Option Addr) (s_l : Nat) (s_c : Nat) (r : Int) (w : World) (R : Value → World → Prop) : Prop :=
  (kW .i64 ((s_l : Int) - r) fun x =>
  (Calls Try.prog N_slices_rotateLeft_api_Partial #[(.slice s_a s_l s_c), (.int .i64 x)] w fun e_ w1 =>
  e_ = .returned (.tuple #[]) ∧
  R (.tuple #[]) w1))
theorem F_slices_rotateRight_api_Partial_eq (s_a : Option Addr) (s_l : Nat) (s_c : Nat) (r : Int) (w : World) (R : Value → World → Prop) : sxFn Try.prog TT h_slices_rotateRight_api_Partial Try.f59 #[(.slice s_a s_l s_c), (.int .i64 r)] w R = F_slices_rotateRight_api_Partial s_a s_l s_c r w R := by kernel_rfl
theorem F_slices_rotateRight_api_Partial_ok {R : Ending → World → Prop} (s_a : Option Addr) (s_l : Nat) (s_c : Nat) (r : Int) (w : World) (h : F_slices_rotateRight_api_Partial s_a s_l s_c r w fun v w' => R (.returned v) w') : Calls Try.prog N_slices_rotateRight_api_Partial #[(.slice s_a s_l s_c), (.int .i64 r)] w R :=
  calls_of (f := 59) follows_ok Try.func59 (Eq.mpr (F_slices_rotateRight_api_Partial_eq s_a s_l s_c r w _) h)

def h_serial_Low : H := (.seq .reg (.seq (.seq .reg (.cond (.seq .reg .leaf) .leaf)) (.seq .reg .leaf)))
def F_serial_Low (n : Int) (x : Int) (w : World) (R : Value → World → Prop) : Prop :=
  (Calls Try.prog N_serial_valid #[(.int .i64 n)] w fun e_ w1 =>
  ∃ r : Bool, e_ = .returned (.bool r) ∧
  (bsplit (!r)
    (R (.int .i64 (-1 : Int)) w1)
    ((0 ≤ n ∧ (kW .i64 ((1 : Int) * 2 ^ (min n.toNat (IntKind.bits .i64))) fun x1 =>
    (kW .i64 (x1 - (1 : Int)) fun x2 =>
    (kLet (bAnd .i64 x x2) fun x3 =>
    R (.int .i64 x3) w1)))))))
theorem F_serial_Low_eq (n : Int) (x : Int) (w : World) (R : Value → World → Prop) : sxFn Try.prog TT h_serial_Low Try.f60 #[(.int .i64 n), (.int .i64 x)] w R = F_serial_Low n x w R := by kernel_rfl
theorem F_serial_Low_ok {R : Ending → World → Prop} (n : Int) (x : Int) (w : World) (h : F_serial_Low n x w fun v w' => R (.returned v) w') : Calls Try.prog N_serial_Low #[(.int .i64 n), (.int .i64 x)] w R :=
  calls_of (f := 60) follows_ok Try.func60 (Eq.mpr (F_serial_Low_eq n x w _) h)

def h_segment_Union : H := (.seq .reg (.cut [] [4, 5, 10, 11, 12, 13, 14, 15, 16, 17, 18] (.seq .reg (.cond (.seq .reg .leaf) .leaf)) (.seq .reg (.seq (.seq .reg (.block (.loop [(6, .p .slice), (7, .p .slice), (21, .p (.int .i64))] [6, 7, 9, 21, 22, 23, 24, 25, 26, 27, 28, 29, 30, 31, 32, 33, 34, 35, 36, 37, 38, 39, 40, 41, 42, 43, 44, 45, 46, 47, 48, 49, 50, 51, 52, 53, 54, 55, 56, 57, 58, 59, 60] (.seq .reg (.seq (.cond .leaf .leaf) (.seq (.block (.seq .reg (.seq .reg (.block (.seq .reg (.cond .reg (.seq .reg (.cond .reg (.draw .blk (.one 0 .pre (.one 1 .pre (.one 2 .pre (.one 3 .pre (.one 4 .pre (.one 5 .pre (.one 6 .pre (.one 7 .stable (.one 8 .stable (.one 9 .stable (.one 10 .pre (.one 11 .keep (.one 12 .stable (.one 13 .last .nil))))))))))))))))))))))) .reg)))))) (.seq .reg .leaf)))))
def F_segment_Union (l_a : Option Addr) (l_l : Nat) (l_c : Nat) (r_0 : Int) (r_1 : Int) (r_2 : Int) (w : World) (R : Value → World → Prop) : Prop :=
  (kAlloc w #[(.int .i64 r_0), (.int .i64 r_1), (.int .i64 r_2)] Ty_api_Range fun b w1 =>
  (∃ J : World → Prop,
  (∀ (_junk : Env)  (w5 : World), J w5 →
    (∃ I : Option Addr → Nat → Nat → Option Addr → Nat → Nat → Int → Nat × (World → Prop), (I none 0 0 none 0 0 (0 : Int)).2 w5 ∧
    (∀ (_junk : Env) (before_a : Option Addr) (before_l : Nat) (before_c : Nat) (behind_a : Option Addr) (behind_l : Nat) (behind_c : Nat) (x : Int) (w6 : World), (I before_a before_l before_c behind_a behind_l behind_c x).2 w6 →
      (bsplit (decide (x < (l_l : Int)))
        ((kIx l_a l_l x fun b2 =>
        (∃ x_01 x_11 x_21 : Int, cellsAt w6 (b2.add (x.toNat * 3)) 0 [(.int .i64 x_01), (.int .i64 x_11), (.int .i64 x_21)] ∧
        (kAlloc w6 #[.int .i64 (0 : Int), .int .i64 (0 : Int), .int .i64 (0 : Int)] Ty_api_Range fun b3 w7 =>
        (sxStore w7 ⟨b3, 0, none⟩ 0 [(.int .i64 x_01), (.int .i64 x_11), (.int .i64 x_21)] fun w8 =>
        (kLd w8 ⟨b, 0, none⟩ .i64 fun x1 =>
        (kSet w8 ⟨b3, 0, none⟩ (.int .i64 x1) fun w9 =>
        (kLd w9 ⟨b3, 2, none⟩ .i64 fun x2 =>
        (kLd w9 ⟨b, 1, none⟩ .i64 fun x3 =>
        (kLet (decide (x2 < x3)) fun x4 =>
        (bsplit x4
          ((∃ x_02 x_12 x_22 : Int, cellsAt w9 ⟨b3, 0, none⟩ 0 [(.int .i64 x_02), (.int .i64 x_12), (.int .i64 x_22)] ∧
          (kAlloc w9 #[(.int .i64 x_02), (.int .i64 x_12), (.int .i64 x_22)] Ty_api_Range fun b4 w10 =>
          (AppP Try.prog #[Ty_S_api_Range, Ty_S_api_Range] Ty_S_api_Range #[(.slice before_a before_l before_c), (.slice (some ⟨b4, 0, none⟩) 1 1)] w10 fun x_a x_l x_c w11 =>
          (kW .i64 (x + (1 : Int)) fun x5 =>
          ((I x_a x_l x_c behind_a behind_l behind_c x5).2 w11 ∧ (I x_a x_l x_c behind_a behind_l behind_c x5).1 < (I before_a before_l before_c behind_a behind_l behind_c x).1))))))
          ((kLd w9 ⟨b3, 1, none⟩ .i64 fun x6 =>
          (kLd w9 ⟨b, 2, none⟩ .i64 fun x7 =>
          (kLet (decide (x6 > x7)) fun x8 =>
          (bsplit x8
            ((∃ x_03 x_13 x_23 : Int, cellsAt w9 ⟨b3, 0, none⟩ 0 [(.int .i64 x_03), (.int .i64 x_13), (.int .i64 x_23)] ∧
            (kAlloc w9 #[(.int .i64 x_03), (.int .i64 x_13), (.int .i64 x_23)] Ty_api_Range fun b5 w12 =>
            (AppP Try.prog #[Ty_S_api_Range, Ty_S_api_Range] Ty_S_api_Range #[(.slice behind_a behind_l behind_c), (.slice (some ⟨b5, 0, none⟩) 1 1)] w12 fun x_a1 x_l1 x_c1 w13 =>
            (kW .i64 (x + (1 : Int)) fun x9 =>
            ((I before_a before_l before_c x_a1 x_l1 x_c1 x9).2 w13 ∧ (I before_a before_l before_c x_a1 x_l1 x_c1 x9).1 < (I before_a before_l before_c behind_a behind_l behind_c x).1))))))
            ((kDrew w9 fun w14 =>
            (∃ S : Nat → Prop,
            (kLd w14 ⟨b, 1, none⟩ .i64 fun x10 =>
            (kLd w14 ⟨b3, 1, none⟩ .i64 fun x11 =>
            (kLd w14 ⟨b, 2, none⟩ .i64 fun x12 =>
            (S b3 ∧
            (kLd w14 ⟨b3, 2, none⟩ .i64 fun x13 =>
            (kSet w14 ⟨b, 1, none⟩ (.int .i64 (if x11 < x10 then x11 else x10)) fun w15 =>
            (KeepsB S w14 w15 ∧ (kSet w15 ⟨b, 2, none⟩ (.int .i64 (if x13 > x12 then x13 else x12)) fun w16 =>
            (kW .i64 (x + (1 : Int)) fun x14 =>
            ((I before_a before_l before_c behind_a behind_l behind_c x14).2 w16 ∧ (I before_a before_l before_c behind_a behind_l behind_c x14).1 < (I before_a before_l before_c behind_a behind_l behind_c x).1)))))))))))))))))))))))))))))
        ((∃ x_04 x_14 x_24 : Int, cellsAt w6 ⟨b, 0, none⟩ 0 [(.int .i64 x_04), (.int .i64 x_14), (.int .i64 x_24)] ∧
        (kAlloc w6 #[(.int .i64 x_04), (.int .i64 x_14), (.int .i64 x_24)] Ty_api_Range fun b6 w17 =>
        (kAlloc w17 #[(.slice before_a before_l before_c), (.slice (some ⟨b6, 0, none⟩) 1 1), (.slice behind_a behind_l behind_c)] Ty_S_api_Range fun b7 w18 =>
        (Calls Try.prog N_slices_Concat_Sapi_Range_api_Range #[(.slice (some ⟨b7, 0, none⟩) 3 3)] w18 fun e_2 w19 =>
        ∃ r_a : Option Addr, ∃ r_l r_c : Nat, e_2 = .returned (.slice r_a r_l r_c) ∧
        R (.tuple #[(.slice r_a r_l r_c), (.int .i64 (0 : Int))]) w19))))))))) ∧
  (Calls Try.prog N_segment_Normal #[(.slice l_a l_l l_c)] w1 fun e_ w2 =>
  ∃ r : Bool, e_ = .returned (.bool r) ∧
  (bsplit (!r)
    (R (.tuple #[(.slice none 0 0), (.int .i64 (4 : Int))]) w2)
    ((∃ x_0 x_1 x_2 : Int, cellsAt w2 ⟨b, 0, none⟩ 0 [(.int .i64 x_0), (.int .i64 x_1), (.int .i64 x_2)] ∧
    (kAlloc w2 #[(.int .i64 x_0), (.int .i64 x_1), (.int .i64 x_2)] Ty_api_Range fun b1 w3 =>
    (Calls Try.prog N_segment_Normal #[(.slice (some ⟨b1, 0, none⟩) 1 1)] w3 fun e_1 w4 =>
    ∃ r1 : Bool, e_1 = .returned (.bool r1) ∧
    (bsplit (!r1)
      (R (.tuple #[(.slice none 0 0), (.int .i64 (4 : Int))]) w4)
      (J w4))))))))))
theorem F_segment_Union_eq (l_a : Option Addr) (l_l : Nat) (l_c : Nat) (r_0 : Int) (r_1 : Int) (r_2 : Int) (w : World) (R : Value → World → Prop) : sxFn Try.prog TT h_segment_Union Try.f61 #[(.slice l_a l_l l_c), (.agg #[.int .i64 r_0, .int .i64 r_1, .int .i64 r_2])] w R = F_segment_Union l_a l_l l_c r_0 r_1 r_2 w R := by kernel_rfl
theorem F_segment_Union_ok {R : Ending → World → Prop} (l_a : Option Addr) (l_l : Nat) (l_c : Nat) (r_0 : Int) (r_1 : Int) (r_2 : Int) (w : World) (h : F_segment_Union l_a l_l l_c r_0 r_1 r_2 w fun v w' => R (.returned v) w') : Calls Try.prog N_segment_Union #[(.slice l_a l_l l_c), (.agg #[.int .i64 r_0, .int .i64 r_1, .int .i64 r_2])] w R :=
  calls_of (f := 61) follows_ok Try.func61 (Eq.mpr (F_segment_Union_eq l_a l_l l_c r_0 r_1 r_2 w _) h)

def h_receiver_partial : H := (.seq .reg (.seq (.seq .reg (.cond (.seq .reg .leaf) .leaf)) (.cut [] [2, 25, 26, 27, 28, 29, 30, 31, 32, 33, 34, 35, 36, 37, 38, 39, 40, 41, 42, 43, 44, 45] (.seq .reg (.cond (.seq .reg .leaf) .leaf)) (.seq .reg (.seq (.cut [(81, .p .bool)] [47, 48, 49, 50, 51, 52, 53, 54, 55, 56, 57, 58, 59, 60, 61, 62, 63, 64, 65, 66, 67, 68, 69, 70, 71, 72, 73, 74, 75, 76, 77, 78, 79, 80, 81] (.draw .blk (.one 0 .pre (.one 1 .pre (.one 2 .pre (.one 3 .pre (.one 4 .pre (.one 5 .pre (.one 6 .pre (.one 7 .keep (.one 8 .stable (.one 9 .stable (.one 10 .stable (.one 11 .stable (.one 12 .stable (.one 13 .stable (.one 14 .keep (.one 15 .stable (.one 16 .stable (.one 17 .stable (.one 18 .stable (.one 19 .stable (.one 20 .stable (.one 21 .stable (.one 22 .keep (.one 23 .stable (.one 24 .stable (.one 25 .stable (.one 26 .stable (.one 27 .stable (.one 28 .stable (.one 29 .stable (.one 30 .stable (.one 31 .stable (.one 32 .stable (.one 33 .keep (.one 34 .stable .nil)))))))))))))))))))))))))))))))))))) (.cond (.seq .reg .leaf) .leaf)) (.seq .reg (.seq (.seq .reg (.block (.loop [(95, .p (.int .i64))] [2, 7, 95, 96, 97, 98, 99, 100, 101, 102, 103, 104, 105, 106, 107] (.seq .reg (.seq (.cond .leaf .leaf) (.seq (.block (.seq .reg (.seq .reg (.cond (.seq .reg .leaf) .leaf)))) .reg)))))) (.seq .reg .leaf))))))))
def F_receiver_partial (p_0 : Int) (p_1 : Bool) (p_2 : Int) (p_3_a : Option Addr) (p_3_l : Nat) (p_3_c : Nat) (p_4_a : Option Addr) (p_4_l : Nat) (p_4_c : Nat) (w : World) (R : Value → World → Prop) : Prop :=
  (kAlloc w #[(.int .i64 p_0), (.bool p_1), (.int .i64 p_2), (.slice p_3_a p_3_l p_3_c), (.slice p_4_a p_4_l p_4_c)] Ty_api_Partial fun b w1 =>
  (kLdB w1 ⟨b, 1, none⟩ fun x =>
  (bsplit x
    ((kLd w1 ⟨b, 2, none⟩ .i64 fun x1 =>
    (bsplit (decide (x1 = (0 : Int)))
      ((kLdS w1 ⟨b, 3, none⟩ fun _ x_l _ =>
      (bsplit (decide ((x_l : Int) = (0 : Int)))
        ((kLdS w1 ⟨b, 4, none⟩ fun _ x_l1 _ =>
        (kLet (decide ((x_l1 : Int) = (0 : Int))) fun x2 =>
        R (.bool x2) w1)))
        (R (.bool false) w1))))
      (R (.bool false) w1))))
    ((∃ J : World → Prop,
    (∀ (_junk : Env)  (w2 : World), J w2 →
      (∃ J1 : Bool → World → Prop,
      (∀ (_junk : Env) (x7 : Bool) (w8 : World), J1 x7 w8 →
        (bsplit x7
          (R (.bool false) w8)
          ((kLdS w8 ⟨b, 4, none⟩ fun x_a9 x_l9 x_c9 =>
          (kLd w8 ⟨b, 0, none⟩ .i64 fun x8 =>
          (kLdS w8 ⟨b, 3, none⟩ fun _ x_l10 _ =>
          (Calls Try.prog N_segment_Gaps #[(.slice x_a9 x_l9 x_c9), (.int .i64 x8), (.int .i64 (x_l10 : Int))] w8 fun e_4 w9 =>
          ∃ r_a : Option Addr, ∃ r_l r_c : Nat, ∃ r4 : Int, e_4 = .returned (.tuple #[(.slice r_a r_l r_c), (.int .i64 r4)]) ∧
          (∃ I : Int → Nat × (World → Prop), (I (0 : Int)).2 w9 ∧
          (∀ (_junk : Env) (x9 : Int) (w10 : World), (I x9).2 w10 →
            (bsplit (decide (x9 < (r_l : Int)))
              ((kIx r_a r_l x9 fun b1 =>
              (∃ x_01 x_11 x_21 : Int, cellsAt w10 (b1.add (x9.toNat * 3)) 0 [(.int .i64 x_01), (.int .i64 x_11), (.int .i64 x_21)] ∧
              (kAlloc w10 #[.int .i64 (0 : Int), .int .i64 (0 : Int), .int .i64 (0 : Int)] Ty_api_Range fun b2 w11 =>
              (sxStore w11 ⟨b2, 0, none⟩ 0 [(.int .i64 x_01), (.int .i64 x_11), (.int .i64 x_21)] fun w12 =>
              (kLdS w12 ⟨b, 3, none⟩ fun x_a11 _ x_c11 =>
              (kLd w12 ⟨b2, 1, none⟩ .i64 fun x10 =>
              (kLd w12 ⟨b2, 2, none⟩ .i64 fun x11 =>
              ((0 ≤ x11 ∧ x11 ≤ ((x_c11 : Nat) : Int)) ∧ ((0 ≤ x10 ∧ x10 ≤ ((x11.toNat : Nat) : Int)) ∧ (Calls Try.prog N_slices_ContainsFunc_Sbyte_byte #[(.slice (slAddr x_c11 (x10.toNat) 1 x_a11) (x11.toNat - x10.toNat) (x_c11 - x10.toNat)), (.func (.func N_receiver_partial_2) #[] #[])] w12 fun e_5 w13 =>
              ∃ r5 : Bool, e_5 = .returned (.bool r5) ∧
              (bsplit r5
                (R (.bool false) w13)
                ((kW .i64 (x9 + (1 : Int)) fun x12 =>
                ((I x12).2 w13 ∧ (I x12).1 < (I x9).1)))))))))))))))
              (R (.bool true) w10))))))))))) ∧
      (kDrew w2 fun w3 =>
      (∃ S : Nat → Prop,
      (kLdS w3 ⟨b, 4, none⟩ fun _ x_l3 _ =>
      (bsplit (decide ((x_l3 : Int) = (0 : Int)))
        (J1 true w3)
        ((kLdS w3 ⟨b, 4, none⟩ fun x_a4 x_l4 x_c4 =>
        (Calls Try.prog N_segment_Normal #[(.slice x_a4 x_l4 x_c4)] w3 fun e_ w4 =>
        ∃ r : Bool, e_ = .returned (.bool r) ∧
        (KeepsB S w3 w4 ∧ (bsplit (!r)
          (J1 true w4)
          ((S b ∧
          (kLdS w3 ⟨b, 4, none⟩ fun x_a5 x_l5 x_c5 =>
          (Calls Try.prog N_slices_ContainsFunc_Sapi_Range_api_Range #[(.slice x_a5 x_l5 x_c5), (.func (.func N_receiver_partial_1) #[] #[(.pointer (some ⟨b, 0, none⟩))])] w4 fun e_1 w5 =>
          ∃ r1 : Bool, e_1 = .returned (.bool r1) ∧
          (KeepsB S w3 w5 ∧ (bsplit r1
            (J1 true w5)
            ((S b ∧
            (kLdS w3 ⟨b, 3, none⟩ fun _ x_l6 _ =>
            (S b ∧
            (kLdS w3 ⟨b, 4, none⟩ fun x_a7 x_l7 x_c7 =>
            (Calls Try.prog N_receiver_end #[(.slice x_a7 x_l7 x_c7)] w5 fun e_2 w6 =>
            ∃ r2 : Int, e_2 = .returned (.int .i64 r2) ∧
            (KeepsB S w3 w6 ∧ (bsplit (!decide ((x_l6 : Int) = r2))
              (J1 true w6)
              ((S b ∧
              (kLdS w3 ⟨b, 3, none⟩ fun _ x_l8 _ =>
              (bsplit (decide ((x_l8 : Int) > (2054 : Int)))
                (J1 true w6)
                ((S b ∧
                (∃ x_0 : Int, ∃ x_1 : Bool, ∃ x_2 : Int, ∃ x_3_a : Option Addr, ∃ x_3_l x_3_c : Nat, ∃ x_4_a : Option Addr, ∃ x_4_l x_4_c : Nat, cellsAt w3 ⟨b, 0, none⟩ 0 [(.int .i64 x_0), (.bool x_1), (.int .i64 x_2), (.slice x_3_a x_3_l x_3_c), (.slice x_4_a x_4_l x_4_c)] ∧
                (Calls Try.prog N_receiver_complete #[(.agg #[.int .i64 x_0, .bool x_1, .int .i64 x_2, .slice x_3_a x_3_l x_3_c, .slice x_4_a x_4_l x_4_c])] w6 fun e_3 w7 =>
                ∃ r3 : Bool, e_3 = .returned (.bool r3) ∧
                (KeepsB S w3 w7 ∧ J1 r3 w7)))))))))))))))))))))))))))))))))) ∧
    (kLd w1 ⟨b, 2, none⟩ .i64 fun x3 =>
    (bsplit (!decide (x3 = (-1 : Int)))
      ((kLd w1 ⟨b, 2, none⟩ .i64 fun x4 =>
      (bsplit (decide (x4 < (1 : Int)))
        (R (.bool false) w1)
        ((kLd w1 ⟨b, 2, none⟩ .i64 fun x5 =>
        (bsplit (decide (x5 > (2054 : Int)))
          (R (.bool false) w1)
          ((kLdS w1 ⟨b, 3, none⟩ fun _ x_l2 _ =>
          (kLd w1 ⟨b, 2, none⟩ .i64 fun x6 =>
          (bsplit (decide ((x_l2 : Int) > x6))
            (R (.bool false) w1)
            (J w1)))))))))))
      (J w1))))))))
theorem F_receiver_partial_eq (p_0 : Int) (p_1 : Bool) (p_2 : Int) (p_3_a : Option Addr) (p_3_l : Nat) (p_3_c : Nat) (p_4_a : Option Addr) (p_4_l : Nat) (p_4_c : Nat) (w : World) (R : Value → World → Prop) : sxFn Try.prog TT h_receiver_partial Try.f62 #[(.agg #[.int .i64 p_0, .bool p_1, .int .i64 p_2, .slice p_3_a p_3_l p_3_c, .slice p_4_a p_4_l p_4_c])] w R = F_receiver_partial p_0 p_1 p_2 p_3_a p_3_l p_3_c p_4_a p_4_l p_4_c w R := by kernel_rfl
theorem F_receiver_partial_ok {R : Ending → World → Prop} (p_0 : Int) (p_1 : Bool) (p_2 : Int) (p_3_a : Option Addr) (p_3_l : Nat) (p_3_c : Nat) (p_4_a : Option Addr) (p_4_l : Nat) (p_4_c : Nat) (w : World) (h : F_receiver_partial p_0 p_1 p_2 p_3_a p_3_l p_3_c p_4_a p_4_l p_4_c w fun v w' => R (.returned v) w') : Calls Try.prog N_receiver_partial #[(.agg #[.int .i64 p_0, .bool p_1, .int .i64 p_2, .slice p_3_a p_3_l p_3_c, .slice p_4_a p_4_l p_4_c])] w R :=
  calls_of (f := 62) follows_ok Try.func62 (Eq.mpr (F_receiver_partial_eq p_0 p_1 p_2 p_3_a p_3_l p_3_c p_4_a p_4_l p_4_c w _) h)

def h_slices_IndexFunc_Sapi_Partial_api_Partial : H := (.seq .reg (.seq (.seq .reg (.block (.loop [(8, .p (.int .i64))] [4, 5, 8, 9, 10, 11, 12, 13, 14, 15, 16, 17, 18] (.seq .reg (.seq (.cond .leaf .leaf) (.seq (.block (.seq .reg (.seq .reg (.cond (.seq .reg .leaf) .leaf)))) .reg)))))) (.seq .reg .leaf)))
def F_slices_IndexFunc_Sapi_Partial_api_Partial (s_a : Option Addr) (s_l : Nat) (_ : Nat) (f_g : Nat) (f_f : Array Value) (f_c : Array Value) (w : World) (R : Value → World → Prop) : Prop :=
  (∃ I : Int → Nat × (World → Prop), (I (0 : Int)).2 w ∧
  (∀ (_junk : Env) (x : Int) (w1 : World), (I x).2 w1 →
    (bsplit (decide (x < (s_l : Int)))
      ((kIx s_a s_l x fun b =>
      (∃ x_0 : Int, ∃ x_1 : Bool, ∃ x_2 : Int, ∃ x_3_a : Option Addr, ∃ x_3_l x_3_c : Nat, ∃ x_4_a : Option Addr, ∃ x_4_l x_4_c : Nat, cellsAt w1 (b.add (x.toNat * 5)) 0 [(.int .i64 x_0), (.bool x_1), (.int .i64 x_2), (.slice x_3_a x_3_l x_3_c), (.slice x_4_a x_4_l x_4_c)] ∧
      (okFn Try.prog f_g = true ∧ Calls Try.prog f_g (f_f ++ #[(.agg #[.int .i64 x_0, .bool x_1, .int .i64 x_2, .slice x_3_a x_3_l x_3_c, .slice x_4_a x_4_l x_4_c])] ++ f_c) w1 fun e_ w2 =>
      ∃ r : Bool, e_ = .returned (.bool r) ∧
      (bsplit r
        (R (.int .i64 x) w2)
        ((kW .i64 (x + (1 : Int)) fun x1 =>
        ((I x1).2 w2 ∧ (I x1).1 < (I x).1))))))))
      (R (.int .i64 (-1 : Int)) w1))))
theorem F_slices_IndexFunc_Sapi_Partial_api_Partial_eq (s_a : Option Addr) (s_l : Nat) (s_c : Nat) (f_g : Nat) (f_f : Array Value) (f_c : Array Value) (w : World) (R : Value → World → Prop) : sxFn Try.prog TT h_slices_IndexFunc_Sapi_Partial_api_Partial Try.f63 #[(.slice s_a s_l s_c), (.func (.func f_g) f_f f_c)] w R = F_slices_IndexFunc_Sapi_Partial_api_Partial s_a s_l s_c f_g f_f f_c w R := by kernel_rfl
theorem F_slices_IndexFunc_Sapi_Partial_api_Partial_ok {R : Ending → World → Prop} (s_a : Option Addr) (s_l : Nat) (s_c : Nat) (f_g : Nat) (f_f : Array Value) (f_c : Array Value) (w : World) (h : F_slices_IndexFunc_Sapi_Partial_api_Partial s_a s_l s_c f_g f_f f_c w fun v w' => R (.returned v) w') : Calls Try.prog N_slices_IndexFunc_Sapi_Partial_api_Partial #[(.slice s_a s_l s_c), (.func (.func f_g) f_f f_c)] w R :=
  calls_of (f := 63) follows_ok Try.func63 (Eq.mpr (F_slices_IndexFunc_Sapi_Partial_api_Partial_eq s_a s_l s_c f_g f_f f_c w _) h)

def h_receiver_side_missing_1 : H := (.seq .reg (.seq .reg .leaf))
def F_receiver_side_missing_1 (p_0 : Int) (p_1 : Bool) (p_2 : Int) (p_3_a : Option Addr) (p_3_l : Nat) (p_3_c : Nat) (p_4_a : Option Addr) (p_4_l : Nat) (p_4_c : Nat) (cap0_b : Nat) (cap0_o : Nat) (w : World) (R : Value → World → Prop) : Prop :=
  (kAlloc w #[(.int .i64 p_0), (.bool p_1), (.int .i64 p_2), (.slice p_3_a p_3_l p_3_c), (.slice p_4_a p_4_l p_4_c)] Ty_api_Partial fun b w1 =>
  (kLd w1 ⟨b, 0, none⟩ .i64 fun x =>
  (kLd w1 ⟨cap0_b, cap0_o, none⟩ .i64 fun x1 =>
  (kLet (decide (x = x1)) fun x2 =>
  R (.bool x2) w1))))
theorem F_receiver_side_missing_1_eq (p_0 : Int) (p_1 : Bool) (p_2 : Int) (p_3_a : Option Addr) (p_3_l : Nat) (p_3_c : Nat) (p_4_a : Option Addr) (p_4_l : Nat) (p_4_c : Nat) (cap0_b : Nat) (cap0_o : Nat) (w : World) (R : Value → World → Prop) : sxFn Try.prog TT h_receiver_side_missing_1 Try.f64 #[(.agg #[.int .i64 p_0, .bool p_1, .int .i64 p_2, .slice p_3_a p_3_l p_3_c, .slice p_4_a p_4_l p_4_c]), (.pointer (some ⟨cap0_b, cap0_o, none⟩))] w R = F_receiver_side_missing_1 p_0 p_1 p_2 p_3_a p_3_l p_3_c p_4_a p_4_l p_4_c cap0_b cap0_o w R := by kernel_rfl
theorem F_receiver_side_missing_1_ok {R : Ending → World → Prop} (p_0 : Int) (p_1 : Bool) (p_2 : Int) (p_3_a : Option Addr) (p_3_l : Nat) (p_3_c : Nat) (p_4_a : Option Addr) (p_4_l : Nat) (p_4_c : Nat) (cap0_b : Nat) (cap0_o : Nat) (w : World) (h : F_receiver_side_missing_1 p_0 p_1 p_2 p_3_a p_3_l p_3_c p_4_a p_4_l p_4_c cap0_b cap0_o w fun v w' => R (.returned v) w') : Calls Try.prog N_receiver_side_missing_1 #[(.agg #[.int .i64 p_0, .bool p_1, .int .i64 p_2, .slice p_3_a p_3_l p_3_c, .slice p_4_a p_4_l p_4_c]), (.pointer (some ⟨cap0_b, cap0_o, none⟩))] w R :=
  calls_of (f := 64) follows_ok Try.func64 (Eq.mpr (F_receiver_side_missing_1_eq p_0 p_1 p_2 p_3_a p_3_l p_3_c p_4_a p_4_l p_4_c cap0_b cap0_o w _) h)

def h_segment_Gaps : H := (.seq .reg (.seq (.seq .reg (.cond (.seq .reg .leaf) .leaf)) (.cut [] [6, 7, 8, 16, 17, 18, 19, 20, 21, 22, 23, 24, 25, 26, 27, 28, 29, 30, 31, 32, 33] (.seq .reg (.seq .reg (.cond (.seq .reg .leaf) .leaf))) (.seq .reg (.seq .reg (.seq (.seq .reg (.block (.loop [(9, .p .slice), (10, .p (.int .i64)), (42, .p (.int .i64))] [9, 10, 12, 42, 43, 44, 45, 46, 47, 48, 49, 50, 51, 52, 53, 54, 55, 56, 57, 58, 59, 60] (.seq .reg (.seq (.cond .leaf .leaf) (.seq (.block (.seq .reg (.seq (.seq .reg (.cond .reg .leaf)) .reg))) .reg)))))) (.seq .reg .leaf)))))))
def F_segment_Gaps (l_a : Option Addr) (l_l : Nat) (l_c : Nat) (sn : Int) (length : Int) (w : World) (R : Value → World → Prop) : Prop :=
  (Calls Try.prog N_segment_Normal #[(.slice l_a l_l l_c)] w fun e_ w1 =>
  ∃ r : Bool, e_ = .returned (.bool r) ∧
  (bsplit (!r)
    (R (.tuple #[(.slice none 0 0), (.int .i64 (4 : Int))]) w1)
    ((∃ J : World → Prop,
    (∀ (_junk : Env)  (w2 : World), J w2 →
      (Calls Try.prog N_slices_Clone_Sapi_Range_api_Range #[(.slice l_a l_l l_c)] w2 fun e_1 w3 =>
      ∃ r_a : Option Addr, ∃ r_l r_c : Nat, e_1 = .returned (.slice r_a r_l r_c) ∧
      (kAlloc w3 #[(.int .i64 (0 : Int)), (.int .i64 length), (.int .i64 length)] Ty_api_Range fun b1 w4 =>
      (AppP Try.prog #[Ty_S_api_Range, Ty_S_api_Range] Ty_S_api_Range #[(.slice r_a r_l r_c), (.slice (some ⟨b1, 0, none⟩) 1 1)] w4 fun x_a x_l _ w5 =>
      (∃ I : Option Addr → Nat → Nat → Int → Int → Nat × (World → Prop), (I none 0 0 (0 : Int) (0 : Int)).2 w5 ∧
      (∀ (_junk : Env) (out_a : Option Addr) (out_l : Nat) (out_c : Nat) (at1 : Int) (x2 : Int) (w6 : World), (I out_a out_l out_c at1 x2).2 w6 →
        (bsplit (decide (x2 < (x_l : Int)))
          ((kIx x_a x_l x2 fun b2 =>
          (∃ x_0 x_1 x_2 : Int, cellsAt w6 (b2.add (x2.toNat * 3)) 0 [(.int .i64 x_0), (.int .i64 x_1), (.int .i64 x_2)] ∧
          (kAlloc w6 #[.int .i64 (0 : Int), .int .i64 (0 : Int), .int .i64 (0 : Int)] Ty_api_Range fun b3 w7 =>
          (sxStore w7 ⟨b3, 0, none⟩ 0 [(.int .i64 x_0), (.int .i64 x_1), (.int .i64 x_2)] fun w8 =>
          (kLd w8 ⟨b3, 1, none⟩ .i64 fun x3 =>
          (bsplit (decide (x3 > at1))
            ((kLd w8 ⟨b3, 1, none⟩ .i64 fun x4 =>
            (kAlloc w8 #[(.int .i64 sn), (.int .i64 at1), (.int .i64 x4)] Ty_api_Range fun b4 w9 =>
            (AppP Try.prog #[Ty_S_api_Range, Ty_S_api_Range] Ty_S_api_Range #[(.slice out_a out_l out_c), (.slice (some ⟨b4, 0, none⟩) 1 1)] w9 fun x_a1 x_l1 x_c1 w10 =>
            (kLd w10 ⟨b3, 2, none⟩ .i64 fun x5 =>
            (kW .i64 (x2 + (1 : Int)) fun x6 =>
            ((I x_a1 x_l1 x_c1 x5 x6).2 w10 ∧ (I x_a1 x_l1 x_c1 x5 x6).1 < (I out_a out_l out_c at1 x2).1)))))))
            ((kLd w8 ⟨b3, 2, none⟩ .i64 fun x7 =>
            (kW .i64 (x2 + (1 : Int)) fun x8 =>
            ((I out_a out_l out_c x7 x8).2 w8 ∧ (I out_a out_l out_c x7 x8).1 < (I out_a out_l out_c at1 x2).1)))))))))))
          (R (.tuple #[(.slice out_a out_l out_c), (.int .i64 (0 : Int))]) w6)))))))) ∧
    (bsplit (decide (length < (0 : Int)))
      (R (.tuple #[(.slice none 0 0), (.int .i64 (3 : Int))]) w1)
      ((bsplit (decide ((l_l : Int) > (0 : Int)))
        ((kW .i64 ((l_l : Int) - (1 : Int)) fun x =>
        (kIx l_a l_l x fun b =>
        (kLd w1 ((b.add (x.toNat * 3)).add 2) .i64 fun x1 =>
        (bsplit (decide (length < x1))
          (R (.tuple #[(.slice none 0 0), (.int .i64 (3 : Int))]) w1)
          (J w1))))))
        (J w1))))))))
theorem F_segment_Gaps_eq (l_a : Option Addr) (l_l : Nat) (l_c : Nat) (sn : Int) (length : Int) (w : World) (R : Value → World → Prop) : sxFn Try.prog TT h_segment_Gaps Try.f65 #[(.slice l_a l_l l_c), (.int .i64 sn), (.int .i64 length)] w R = F_segment_Gaps l_a l_l l_c sn length w R := by kernel_rfl
theorem F_segment_Gaps_ok {R : Ending → World → Prop} (l_a : Option Addr) (l_l : Nat) (l_c : Nat) (sn : Int) (length : Int) (w : World) (h : F_segment_Gaps l_a l_l l_c sn length w fun v w' => R (.returned v) w') : Calls Try.prog N_segment_Gaps #[(.slice l_a l_l l_c), (.int .i64 sn), (.int .i64 length)] w R :=
  calls_of (f := 65) follows_ok Try.func65 (Eq.mpr (F_segment_Gaps_eq l_a l_l l_c sn length w _) h)

def h_segment_begins : H := (.seq .reg (.seq .reg .leaf))
def F_segment_begins (part : Int) (w : World) (R : Value → World → Prop) : Prop :=
  (bsplit (decide (part = (0 : Int)))
    (R (.bool true) w)
    ((kLet (decide (part = (1 : Int))) fun x =>
    R (.bool x) w)))
theorem F_segment_begins_eq (part : Int) (w : World) (R : Value → World → Prop) : sxFn Try.prog TT h_segment_begins Try.f66 #[(.int .i64 part)] w R = F_segment_begins part w R := by kernel_rfl
theorem F_segment_begins_ok {R : Ending → World → Prop} (part : Int) (w : World) (h : F_segment_begins part w fun v w' => R (.returned v) w') : Calls Try.prog N_segment_begins #[(.int .i64 part)] w R :=
  calls_of (f := 66) follows_ok Try.func66 (Eq.mpr (F_segment_begins_eq part w _) h)

def h_receiver_end : H := (.seq .reg (.seq (.seq .reg (.cond (.seq .reg .leaf) .leaf)) (.seq .reg .leaf)))
def F_receiver_end (l_a : Option Addr) (l_l : Nat) (_ : Nat) (w : World) (R : Value → World → Prop) : Prop :=
  (bsplit (decide ((l_l : Int) = (0 : Int)))
    (R (.int .i64 (0 : Int)) w)
    ((kW .i64 ((l_l : Int) - (1 : Int)) fun x =>
    (kIx l_a l_l x fun b =>
    (kLd w ((b.add (x.toNat * 3)).add 2) .i64 fun x1 =>
    R (.int .i64 x1) w)))))
theorem F_receiver_end_eq (l_a : Option Addr) (l_l : Nat) (l_c : Nat) (w : World) (R : Value → World → Prop) : sxFn Try.prog TT h_receiver_end Try.f67 #[(.slice l_a l_l l_c)] w R = F_receiver_end l_a l_l l_c w R := by kernel_rfl
theorem F_receiver_end_ok {R : Ending → World → Prop} (l_a : Option Addr) (l_l : Nat) (l_c : Nat) (w : World) (h : F_receiver_end l_a l_l l_c w fun v w' => R (.returned v) w') : Calls Try.prog N_receiver_end #[(.slice l_a l_l l_c)] w R :=
  calls_of (f := 67) follows_ok Try.func67 (Eq.mpr (F_receiver_end_eq l_a l_l l_c w _) h)

def h_receiver_piece_known_1 : H := (.seq .reg (.seq .reg .leaf))
def F_receiver_piece_known_1 (r_0 : Int) (r_1 : Int) (r_2 : Int) (cap0_b : Nat) (cap0_o : Nat) (w : World) (R : Value → World → Prop) : Prop :=
  (kAlloc w #[(.int .i64 r_0), (.int .i64 r_1), (.int .i64 r_2)] Ty_api_Range fun b w1 =>
  (kLd w1 ⟨b, 1, none⟩ .i64 fun x =>
  (kLd w1 ⟨cap0_b, cap0_o + 3, none⟩ .i64 fun x1 =>
  (bsplit (decide (x ≤ x1))
    ((kLd w1 ⟨b, 2, none⟩ .i64 fun x2 =>
    (kLd w1 ⟨cap0_b, cap0_o + 5, none⟩ .i64 fun x3 =>
    (kLet (decide (x2 ≥ x3)) fun x4 =>
    R (.bool x4) w1))))
    (R (.bool false) w1)))))
theorem F_receiver_piece_known_1_eq (r_0 : Int) (r_1 : Int) (r_2 : Int) (cap0_b : Nat) (cap0_o : Nat) (w : World) (R : Value → World → Prop) : sxFn Try.prog TT h_receiver_piece_known_1 Try.f68 #[(.agg #[.int .i64 r_0, .int .i64 r_1, .int .i64 r_2]), (.pointer (some ⟨cap0_b, cap0_o, none⟩))] w R = F_receiver_piece_known_1 r_0 r_1 r_2 cap0_b cap0_o w R := by kernel_rfl
theorem F_receiver_piece_known_1_ok {R : Ending → World → Prop} (r_0 : Int) (r_1 : Int) (r_2 : Int) (cap0_b : Nat) (cap0_o : Nat) (w : World) (h : F_receiver_piece_known_1 r_0 r_1 r_2 cap0_b cap0_o w fun v w' => R (.returned v) w') : Calls Try.prog N_receiver_piece_known_1 #[(.agg #[.int .i64 r_0, .int .i64 r_1, .int .i64 r_2]), (.pointer (some ⟨cap0_b, cap0_o, none⟩))] w R :=
  calls_of (f := 68) follows_ok Try.func68 (Eq.mpr (F_receiver_piece_known_1_eq r_0 r_1 r_2 cap0_b cap0_o w _) h)

def h_slices_ContainsFunc_Sapi_Range_api_Range : H := (.seq .reg (.seq .reg .leaf))
def F_slices_ContainsFunc_Sapi_Range_api_Range (s_a : Option Addr) (s_l : Nat) (s_c : Nat) (f_g : Nat) (f_f : Array Value) (f_c : Array Value) (w : World) (R : Value → World → Prop) : Prop :=
  (Calls Try.prog N_slices_IndexFunc_Sapi_Range_api_Range #[(.slice s_a s_l s_c), (.func (.func f_g) f_f f_c)] w fun e_ w1 =>
  ∃ r : Int, e_ = .returned (.int .i64 r) ∧
  (kLet (decide (r ≥ (0 : Int))) fun x =>
  R (.bool x) w1))
theorem F_slices_ContainsFunc_Sapi_Range_api_Range_eq (s_a : Option Addr) (s_l : Nat) (s_c : Nat) (f_g : Nat) (f_f : Array Value) (f_c : Array Value) (w : World) (R : Value → World → Prop) : sxFn Try.prog TT h_slices_ContainsFunc_Sapi_Range_api_Range Try.f69 #[(.slice s_a s_l s_c), (.func (.func f_g) f_f f_c)] w R = F_slices_ContainsFunc_Sapi_Range_api_Range s_a s_l s_c f_g f_f f_c w R := by kernel_rfl
theorem F_slices_ContainsFunc_Sapi_Range_api_Range_ok {R : Ending → World → Prop} (s_a : Option Addr) (s_l : Nat) (s_c : Nat) (f_g : Nat) (f_f : Array Value) (f_c : Array Value) (w : World) (h : F_slices_ContainsFunc_Sapi_Range_api_Range s_a s_l s_c f_g f_f f_c w fun v w' => R (.returned v) w') : Calls Try.prog N_slices_ContainsFunc_Sapi_Range_api_Range #[(.slice s_a s_l s_c), (.func (.func f_g) f_f f_c)] w R :=
  calls_of (f := 69) follows_ok Try.func69 (Eq.mpr (F_slices_ContainsFunc_Sapi_Range_api_Range_eq s_a s_l s_c f_g f_f f_c w _) h)

def h_slices_rotateLeft_api_Partial : H := (.seq .reg (.seq .reg .reg))
def F_slices_rotateLeft_api_Partial (s_a : Option Addr) (s_l : Nat) (s_c : Nat) (r : Int) (w : World) (R : Value → World → Prop) : Prop :=
  ((0 ≤ r ∧ r ≤ ((s_c : Nat) : Int)) ∧ (Calls Try.prog N_slices_Reverse_Sapi_Partial_api_Partial #[(.slice (slAddr s_c 0 5 s_a) (r.toNat - 0) (s_c - 0))] w fun e_ w1 =>
  e_ = .returned (.tuple #[]) ∧
  ((0 ≤ r ∧ r ≤ ((s_l : Nat) : Int)) ∧ (Calls Try.prog N_slices_Reverse_Sapi_Partial_api_Partial #[(.slice (slAddr s_c (r.toNat) 5 s_a) (s_l - r.toNat) (s_c - r.toNat))] w1 fun e_1 w2 =>
  e_1 = .returned (.tuple #[]) ∧
  (Calls Try.prog N_slices_Reverse_Sapi_Partial_api_Partial #[(.slice s_a s_l s_c)] w2 fun e_2 w3 =>
  e_2 = .returned (.tuple #[]) ∧
  R (.tuple #[]) w3)))))
theorem F_slices_rotateLeft_api_Partial_eq (s_a : Option Addr) (s_l : Nat) (s_c : Nat) (r : Int) (w : World) (R : Value → World → Prop) : sxFn Try.prog TT h_slices_rotateLeft_api_Partial Try.f70 #[(.slice s_a s_l s_c), (.int .i64 r)] w R = F_slices_rotateLeft_api_Partial s_a s_l s_c r w R := by kernel_rfl
theorem F_slices_rotateLeft_api_Partial_ok {R : Ending → World → Prop} (s_a : Option Addr) (s_l : Nat) (s_c : Nat) (r : Int) (w : World) (h : F_slices_rotateLeft_api_Partial s_a s_l s_c r w fun v w' => R (.returned v) w') : Calls Try.prog N_slices_rotateLeft_api_Partial #[(.slice s_a s_l s_c), (.int .i64 r)] w R :=
  calls_of (f := 70) follows_ok Try.func70 (Eq.mpr (F_slices_rotateLeft_api_Partial_eq s_a s_l s_c r w _) h)

def h_serial_valid : H := (.seq .reg (.seq .reg .leaf))
def F_serial_valid (n : Int) (w : World) (R : Value → World → Prop) : Prop :=
  (bsplit (decide (n ≥ (1 : Int)))
    ((kLet (decide (n ≤ (32 : Int))) fun x =>
    R (.bool x) w))
    (R (.bool false) w))
theorem F_serial_valid_eq (n : Int) (w : World) (R : Value → World → Prop) : sxFn Try.prog TT h_serial_valid Try.f71 #[(.int .i64 n)] w R = F_serial_valid n w R := by kernel_rfl
theorem F_serial_valid_ok {R : Ending → World → Prop} (n : Int) (w : World) (h : F_serial_valid n w fun v w' => R (.returned v) w') : Calls Try.prog N_serial_valid #[(.int .i64 n)] w R :=
  calls_of (f := 71) follows_ok Try.func71 (Eq.mpr (F_serial_valid_eq n w _) h)

def h_segment_Normal : H := (.seq .reg (.seq (.seq .reg (.block (.loop [(7, .p (.int .i64))] [2, 3, 4, 7, 8, 9, 10, 11, 12, 13, 14, 15, 16, 17, 18, 19, 20, 21, 22, 23, 24, 25, 26, 27, 28, 29, 30, 31, 32, 33, 34, 35, 36, 37] (.seq .reg (.seq (.cond .leaf .leaf) (.seq (.block (.seq .reg (.seq (.draw .no (.one 0 .stable (.one 1 .stable (.one 2 .stable (.one 3 .stable (.one 4 .stable (.one 5 .stable (.one 6 .stable (.one 7 .stable (.one 8 .stable (.one 9 .stable (.one 10 .stable (.one 11 .stable (.one 12 .stable (.one 13 .stable (.one 14 .stable (.one 15 .stable (.one 16 .stable (.one 17 .stable (.one 18 .stable (.one 19 .stable (.one 20 .stable (.one 21 .stable (.one 22 .stable (.one 23 .stable (.one 24 .stable .nil)))))))))))))))))))))))))) (.cond (.seq .reg .leaf) .leaf)))) .reg)))))) (.seq .reg .leaf)))
def F_segment_Normal (l_a : Option Addr) (l_l : Nat) (_ : Nat) (w : World) (R : Value → World → Prop) : Prop :=
  (∃ I : Int → Nat × (World → Prop), (I (0 : Int)).2 w ∧
  (∀ (_junk : Env) (x : Int) (w1 : World), (I x).2 w1 →
    (bsplit (decide (x < (l_l : Int)))
      ((kIx l_a l_l x fun b =>
      (∃ x_0 x_1 x_2 : Int, cellsAt w1 (b.add (x.toNat * 3)) 0 [(.int .i64 x_0), (.int .i64 x_1), (.int .i64 x_2)] ∧
      (kAlloc w1 #[.int .i64 (0 : Int), .int .i64 (0 : Int), .int .i64 (0 : Int)] Ty_api_Range fun b1 w2 =>
      (sxStore w2 ⟨b1, 0, none⟩ 0 [(.int .i64 x_0), (.int .i64 x_1), (.int .i64 x_2)] fun w3 =>
      (kDrew w3 fun w4 =>
      (kLd w4 ⟨b1, 1, none⟩ .i64 fun x1 =>
      (bsplit (decide (x1 < (0 : Int)))
        (R (.bool false) w4)
        ((kLd w4 ⟨b1, 1, none⟩ .i64 fun x3 =>
        (kLd w4 ⟨b1, 2, none⟩ .i64 fun x4 =>
        (bsplit (decide (x3 ≥ x4))
          (R (.bool false) w4)
          ((bsplit (decide (x > (0 : Int)))
            ((kLd w4 ⟨b1, 1, none⟩ .i64 fun x6 =>
            (kW .i64 (x - (1 : Int)) fun x7 =>
            (kIx l_a l_l x7 fun b2 =>
            (kLd w4 ((b2.add (x7.toNat * 3)).add 2) .i64 fun x8 =>
            (bsplit (decide (x6 ≤ x8))
              (R (.bool false) w4)
              ((kW .i64 (x + (1 : Int)) fun x9 =>
              ((I x9).2 w4 ∧ (I x9).1 < (I x).1)))))))))
            ((kW .i64 (x + (1 : Int)) fun x10 =>
              ((I x10).2 w4 ∧ (I x10).1 < (I x).1)))))))))))))))))
      (R (.bool true) w1))))
theorem F_segment_Normal_eq (l_a : Option Addr) (l_l : Nat) (l_c : Nat) (w : World) (R : Value → World → Prop) : sxFn Try.prog TT h_segment_Normal Try.f72 #[(.slice l_a l_l l_c)] w R = F_segment_Normal l_a l_l l_c w R := by kernel_rfl
theorem F_segment_Normal_ok {R : Ending → World → Prop} (l_a : Option Addr) (l_l : Nat) (l_c : Nat) (w : World) (h : F_segment_Normal l_a l_l l_c w fun v w' => R (.returned v) w') : Calls Try.prog N_segment_Normal #[(.slice l_a l_l l_c)] w R :=
  calls_of (f := 72) follows_ok Try.func72 (Eq.mpr (F_segment_Normal_eq l_a l_l l_c w _) h)

def h_slices_Concat_Sapi_Range_api_Range : H := (.seq .reg (.seq .reg (.seq (.seq .reg (.block (.loop [(3, .p (.int .i64)), (11, .p (.int .i64))] [3, 5, 11, 12, 13, 14, 15, 16, 17, 18, 19, 20, 21, 22] (.seq .reg (.seq (.cond .leaf .leaf) (.seq (.block (.seq .reg (.seq .reg (.seq .reg (.cond .reg .leaf))))) .reg)))))) (.seq .reg (.seq (.seq .reg (.block (.loop [(6, .p .slice), (27, .p (.int .i64))] [6, 8, 27, 28, 29, 30, 31, 32, 33, 34] (.seq .reg (.seq (.cond .leaf .leaf) (.seq (.block (.seq .reg .reg)) .reg)))))) (.seq .reg .leaf))))))
def F_slices_Concat_Sapi_Range_api_Range (slices_a : Option Addr) (slices_l : Nat) (_ : Nat) (w : World) (R : Value → World → Prop) : Prop :=
  (∃ I : Int → Int → Nat × (World → Prop), (I (0 : Int) (0 : Int)).2 w ∧
  (∀ (_junk : Env) (size : Int) (x : Int) (w1 : World), (I size x).2 w1 →
    (bsplit (decide (x < (slices_l : Int)))
      ((kIx slices_a slices_l x fun b =>
      (kLdS w1 (b.add (x.toNat * 1)) fun _ x_l _ =>
      (kW .i64 (size + (x_l : Int)) fun x1 =>
      (bsplit (decide (x1 < (0 : Int)))
        (False)
        ((kW .i64 (x + (1 : Int)) fun x2 =>
        ((I x1 x2).2 w1 ∧ (I x1 x2).1 < (I size x).1))))))))
      ((Calls Try.prog N_slices_Grow_Sapi_Range_api_Range #[(.slice none 0 0), (.int .i64 size)] w1 fun e_ w2 =>
      ∃ r_a : Option Addr, ∃ r_l r_c : Nat, e_ = .returned (.slice r_a r_l r_c) ∧
      (∃ I1 : Option Addr → Nat → Nat → Int → Nat × (World → Prop), (I1 r_a r_l r_c (0 : Int)).2 w2 ∧
      (∀ (_junk : Env) (newslice_a : Option Addr) (newslice_l : Nat) (newslice_c : Nat) (x3 : Int) (w3 : World), (I1 newslice_a newslice_l newslice_c x3).2 w3 →
        (bsplit (decide (x3 < (slices_l : Int)))
          ((kIx slices_a slices_l x3 fun b1 =>
          (kLdS w3 (b1.add (x3.toNat * 1)) fun x_a1 x_l1 x_c1 =>
          (AppP Try.prog #[Ty_S_api_Range, Ty_S_api_Range] Ty_S_api_Range #[(.slice newslice_a newslice_l newslice_c), (.slice x_a1 x_l1 x_c1)] w3 fun x_a2 x_l2 x_c2 w4 =>
          (kW .i64 (x3 + (1 : Int)) fun x4 =>
          ((I1 x_a2 x_l2 x_c2 x4).2 w4 ∧ (I1 x_a2 x_l2 x_c2 x4).1 < (I1 newslice_a newslice_l newslice_c x3).1))))))
          (R (.slice newslice_a newslice_l newslice_c) w3)))))))))
theorem F_slices_Concat_Sapi_Range_api_Range_eq (slices_a : Option Addr) (slices_l : Nat) (slices_c : Nat) (w : World) (R : Value → World → Prop) : sxFn Try.prog TT h_slices_Concat_Sapi_Range_api_Range Try.f73 #[(.slice slices_a slices_l slices_c)] w R = F_slices_Concat_Sapi_Range_api_Range slices_a slices_l slices_c w R := by kernel_rfl
theorem F_slices_Concat_Sapi_Range_api_Range_ok {R : Ending → World → Prop} (slices_a : Option Addr) (slices_l : Nat) (slices_c : Nat) (w : World) (h : F_slices_Concat_Sapi_Range_api_Range slices_a slices_l slices_c w fun v w' => R (.returned v) w') : Calls Try.prog N_slices_Concat_Sapi_Range_api_Range #[(.slice slices_a slices_l slices_c)] w R :=
  calls_of (f := 73) follows_ok Try.func73 (Eq.mpr (F_slices_Concat_Sapi_Range_api_Range_eq slices_a slices_l slices_c w _) h)

def h_receiver_partial_1 : H := (.seq .reg (.seq .reg .leaf))
def F_receiver_partial_1 (r_0 : Int) (r_1 : Int) (r_2 : Int) (cap0_b : Nat) (cap0_o : Nat) (w : World) (R : Value → World → Prop) : Prop :=
  (kAlloc w #[(.int .i64 r_0), (.int .i64 r_1), (.int .i64 r_2)] Ty_api_Range fun b w1 =>
  (kLd w1 ⟨b, 0, none⟩ .i64 fun x =>
  (kLd w1 ⟨cap0_b, cap0_o, none⟩ .i64 fun x1 =>
  (kLet (!decide (x = x1)) fun x2 =>
  R (.bool x2) w1))))
theorem F_receiver_partial_1_eq (r_0 : Int) (r_1 : Int) (r_2 : Int) (cap0_b : Nat) (cap0_o : Nat) (w : World) (R : Value → World → Prop) : sxFn Try.prog TT h_receiver_partial_1 Try.f74 #[(.agg #[.int .i64 r_0, .int .i64 r_1, .int .i64 r_2]), (.pointer (some ⟨cap0_b, cap0_o, none⟩))] w R = F_receiver_partial_1 r_0 r_1 r_2 cap0_b cap0_o w R := by kernel_rfl
theorem F_receiver_partial_1_ok {R : Ending → World → Prop} (r_0 : Int) (r_1 : Int) (r_2 : Int) (cap0_b : Nat) (cap0_o : Nat) (w : World) (h : F_receiver_partial_1 r_0 r_1 r_2 cap0_b cap0_o w fun v w' => R (.returned v) w') : Calls Try.prog N_receiver_partial_1 #[(.agg #[.int .i64 r_0, .int .i64 r_1, .int .i64 r_2]), (.pointer (some ⟨cap0_b, cap0_o, none⟩))] w R :=
  calls_of (f := 74) follows_ok Try.func74 (Eq.mpr (F_receiver_partial_1_eq r_0 r_1 r_2 cap0_b cap0_o w _) h)

def h_slices_ContainsFunc_Sbyte_byte : H := (.seq .reg (.seq .reg .leaf))
def F_slices_ContainsFunc_Sbyte_byte (s_a : Option Addr) (s_l : Nat) (s_c : Nat) (f_g : Nat) (f_f : Array Value) (f_c : Array Value) (w : World) (R : Value → World → Prop) : Prop :=
  (Calls Try.prog N_slices_IndexFunc_Sbyte_byte #[(.slice s_a s_l s_c), (.func (.func f_g) f_f f_c)] w fun e_ w1 =>
  ∃ r : Int, e_ = .returned (.int .i64 r) ∧
  (kLet (decide (r ≥ (0 : Int))) fun x =>
  R (.bool x) w1))
theorem F_slices_ContainsFunc_Sbyte_byte_eq (s_a : Option Addr) (s_l : Nat) (s_c : Nat) (f_g : Nat) (f_f : Array Value) (f_c : Array Value) (w : World) (R : Value → World → Prop) : sxFn Try.prog TT h_slices_ContainsFunc_Sbyte_byte Try.f75 #[(.slice s_a s_l s_c), (.func (.func f_g) f_f f_c)] w R = F_slices_ContainsFunc_Sbyte_byte s_a s_l s_c f_g f_f f_c w R := by kernel_rfl
theorem F_slices_ContainsFunc_Sbyte_byte_ok {R : Ending → World → Prop} (s_a : Option Addr) (s_l : Nat) (s_c : Nat) (f_g : Nat) (f_f : Array Value) (f_c : Array Value) (w : World) (h : F_slices_ContainsFunc_Sbyte_byte s_a s_l s_c f_g f_f f_c w fun v w' => R (.returned v) w') : Calls Try.prog N_slices_ContainsFunc_Sbyte_byte #[(.slice s_a s_l s_c), (.func (.func f_g) f_f f_c)] w R :=
  calls_of (f := 75) follows_ok Try.func75 (Eq.mpr (F_slices_ContainsFunc_Sbyte_byte_eq s_a s_l s_c f_g f_f f_c w _) h)

def h_receiver_partial_2 : H := (.seq .reg (.seq .reg .leaf))
def F_receiver_partial_2 (c : Int) (w : World) (R : Value → World → Prop) : Prop :=
  (kLet (!decide (c = (0 : Int))) fun x =>
  R (.bool x) w)
theorem F_receiver_partial_2_eq (c : Int) (w : World) (R : Value → World → Prop) : sxFn Try.prog TT h_receiver_partial_2 Try.f76 #[(.int .u8 c)] w R = F_receiver_partial_2 c w R := by kernel_rfl
theorem F_receiver_partial_2_ok {R : Ending → World → Prop} (c : Int) (w : World) (h : F_receiver_partial_2 c w fun v w' => R (.returned v) w') : Calls Try.prog N_receiver_partial_2 #[(.int .u8 c)] w R :=
  calls_of (f := 76) follows_ok Try.func76 (Eq.mpr (F_receiver_partial_2_eq c w _) h)

def h_slices_IndexFunc_Sapi_Range_api_Range : H := (.seq .reg (.seq (.seq .reg (.block (.loop [(8, .p (.int .i64))] [4, 5, 8, 9, 10, 11, 12, 13, 14, 15, 16, 17, 18] (.seq .reg (.seq (.cond .leaf .leaf) (.seq (.block (.seq .reg (.seq .reg (.cond (.seq .reg .leaf) .leaf)))) .reg)))))) (.seq .reg .leaf)))
def F_slices_IndexFunc_Sapi_Range_api_Range (s_a : Option Addr) (s_l : Nat) (_ : Nat) (f_g : Nat) (f_f : Array Value) (f_c : Array Value) (w : World) (R : Value → World → Prop) : Prop :=
  (∃ I : Int → Nat × (World → Prop), (I (0 : Int)).2 w ∧
  (∀ (_junk : Env) (x : Int) (w1 : World), (I x).2 w1 →
    (bsplit (decide (x < (s_l : Int)))
      ((kIx s_a s_l x fun b =>
      (∃ x_0 x_1 x_2 : Int, cellsAt w1 (b.add (x.toNat * 3)) 0 [(.int .i64 x_0), (.int .i64 x_1), (.int .i64 x_2)] ∧
      (okFn Try.prog f_g = true ∧ Calls Try.prog f_g (f_f ++ #[(.agg #[.int .i64 x_0, .int .i64 x_1, .int .i64 x_2])] ++ f_c) w1 fun e_ w2 =>
      ∃ r : Bool, e_ = .returned (.bool r) ∧
      (bsplit r
        (R (.int .i64 x) w2)
        ((kW .i64 (x + (1 : Int)) fun x1 =>
        ((I x1).2 w2 ∧ (I x1).1 < (I x).1))))))))
      (R (.int .i64 (-1 : Int)) w1))))
theorem F_slices_IndexFunc_Sapi_Range_api_Range_eq (s_a : Option Addr) (s_l : Nat) (s_c : Nat) (f_g : Nat) (f_f : Array Value) (f_c : Array Value) (w : World) (R : Value → World → Prop) : sxFn Try.prog TT h_slices_IndexFunc_Sapi_Range_api_Range Try.f77 #[(.slice s_a s_l s_c), (.func (.func f_g) f_f f_c)] w R = F_slices_IndexFunc_Sapi_Range_api_Range s_a s_l s_c f_g f_f f_c w R := by kernel_rfl
theorem F_slices_IndexFunc_Sapi_Range_api_Range_ok {R : Ending → World → Prop} (s_a : Option Addr) (s_l : Nat) (s_c : Nat) (f_g : Nat) (f_f : Array Value) (f_c : Array Value) (w : World) (h : F_slices_IndexFunc_Sapi_Range_api_Range s_a s_l s_c f_g f_f f_c w fun v w' => R (.returned v) w') : Calls Try.prog N_slices_IndexFunc_Sapi_Range_api_Range #[(.slice s_a s_l s_c), (.func (.func f_g) f_f f_c)] w R :=
  calls_of (f := 77) follows_ok Try.func77 (Eq.mpr (F_slices_IndexFunc_Sapi_Range_api_Range_eq s_a s_l s_c f_g f_f f_c w _) h)

def h_slices_Reverse_Sapi_Partial_api_Partial : H := (.seq .reg (.block (.loop [(2, .p (.int .i64)), (3, .p (.int .i64))] [2, 3, 7, 8, 9, 10, 11, 12, 13, 14, 15, 16, 17, 18, 19, 20, 21, 22, 23, 24, 25, 26, 27] (.seq (.seq .reg (.cond .leaf .leaf)) (.seq (.block (.draw .blk (.one 0 .pre (.one 1 .pre (.one 2 .stable (.one 3 .stable (.one 4 .pre (.one 5 .pre (.one 6 .pre (.one 7 .pre (.one 8 .pre (.one 9 .pre (.one 10 .pre (.one 11 .pre (.one 12 .pre (.one 13 .keep (.one 14 .stable (.one 15 .last .nil)))))))))))))))))) .reg)))))
def F_slices_Reverse_Sapi_Partial_api_Partial (s_a : Option Addr) (s_l : Nat) (_ : Nat) (w : World) (R : Value → World → Prop) : Prop :=
  (kW .i64 ((s_l : Int) - (1 : Int)) fun x =>
  (∃ I : Int → Int → Nat × (World → Prop), (I (0 : Int) x).2 w ∧
  (∀ (_junk : Env) (i : Int) (j : Int) (w1 : World), (I i j).2 w1 →
    (bsplit (decide (i < j))
      ((kDrew w1 fun w2 =>
      (∃ S : Nat → Prop,
      (kIx s_a s_l j fun b =>
      (∃ x_0 : Int, ∃ x_1 : Bool, ∃ x_2 : Int, ∃ x_3_a : Option Addr, ∃ x_3_l x_3_c : Nat, ∃ x_4_a : Option Addr, ∃ x_4_l x_4_c : Nat, cellsAt w2 (b.add (j.toNat * 5)) 0 [(.int .i64 x_0), (.bool x_1), (.int .i64 x_2), (.slice x_3_a x_3_l x_3_c), (.slice x_4_a x_4_l x_4_c)] ∧
      (kIx s_a s_l i fun b1 =>
      (∃ x_01 : Int, ∃ x_11 : Bool, ∃ x_21 : Int, ∃ x_3_a1 : Option Addr, ∃ x_3_l1 x_3_c1 : Nat, ∃ x_4_a1 : Option Addr, ∃ x_4_l1 x_4_c1 : Nat, cellsAt w2 (b1.add (i.toNat * 5)) 0 [(.int .i64 x_01), (.bool x_11), (.int .i64 x_21), (.slice x_3_a1 x_3_l1 x_3_c1), (.slice x_4_a1 x_4_l1 x_4_c1)] ∧
      (kIx s_a s_l i fun b2 =>
      (sxStore w2 (b2.add (i.toNat * 5)) 0 [(.int .i64 x_0), (.bool x_1), (.int .i64 x_2), (.slice x_3_a x_3_l x_3_c), (.slice x_4_a x_4_l x_4_c)] fun w3 =>
      (KeepsB S w2 w3 ∧ (kIx s_a s_l j fun b3 =>
      (sxStore w3 (b3.add (j.toNat * 5)) 0 [(.int .i64 x_01), (.bool x_11), (.int .i64 x_21), (.slice x_3_a1 x_3_l1 x_3_c1), (.slice x_4_a1 x_4_l1 x_4_c1)] fun w4 =>
      (kW .i64 (i + (1 : Int)) fun x1 =>
      (kW .i64 (j - (1 : Int)) fun x2 =>
      ((I x1 x2).2 w4 ∧ (I x1 x2).1 < (I i j).1)))))))))))))))
      (R (.tuple #[]) w1)))))
theorem F_slices_Reverse_Sapi_Partial_api_Partial_eq (s_a : Option Addr) (s_l : Nat) (s_c : Nat) (w : World) (R : Value → World → Prop) : sxFn Try.prog TT h_slices_Reverse_Sapi_Partial_api_Partial Try.f78 #[(.slice s_a s_l s_c)] w R = F_slices_Reverse_Sapi_Partial_api_Partial s_a s_l s_c w R := by kernel_rfl
theorem F_slices_Reverse_Sapi_Partial_api_Partial_ok {R : Ending → World → Prop} (s_a : Option Addr) (s_l : Nat) (s_c : Nat) (w : World) (h : F_slices_Reverse_Sapi_Partial_api_Partial s_a s_l s_c w fun v w' => R (.returned v) w') : Calls Try.prog N_slices_Reverse_Sapi_Partial_api_Partial #[(.slice s_a s_l s_c)] w R :=
  calls_of (f := 78) follows_ok Try.func78 (Eq.mpr (F_slices_Reverse_Sapi_Partial_api_Partial_eq s_a s_l s_c w _) h)

def h_slices_Grow_Sapi_Range_api_Range : H := (.seq .reg (.cut [] [5, 6, 7] (.seq .reg (.cond .reg .leaf)) (.seq (.seq .reg (.seq .reg (.cond .reg .leaf))) (.seq .reg .leaf))))
def F_slices_Grow_Sapi_Range_api_Range (s_a : Option Addr) (s_l : Nat) (s_c : Nat) (n : Int) (w : World) (R : Value → World → Prop) : Prop :=
  (∃ J : World → Prop,
  (∀ (_junk : Env)  (w1 : World), J w1 →
    (kW .i64 ((s_c : Int) - (s_l : Int)) fun x =>
    (kW .i64 (n - x) fun x1 =>
    (bsplit (decide (x1 > (0 : Int)))
      (((0 ≤ (s_c : Int) ∧ (s_c : Int) ≤ ((s_c : Nat) : Int)) ∧ (AppP Try.prog #[Ty_S_api_Range, Ty_int] Ty_S_api_Range #[(.slice (slAddr s_c 0 3 s_a) ((s_c : Int).toNat - 0) (s_c - 0)), (.int .i64 x1)] w1 fun x_a _ x_c w2 =>
      ((0 ≤ (s_l : Int) ∧ (s_l : Int) ≤ ((x_c : Nat) : Int)) ∧ R (.slice (slAddr x_c 0 3 x_a) ((s_l : Int).toNat - 0) (x_c - 0)) w2))))
      (R (.slice s_a s_l s_c) w1))))) ∧
  (bsplit (decide (n < (0 : Int)))
    (False)
    (J w)))
theorem F_slices_Grow_Sapi_Range_api_Range_eq (s_a : Option Addr) (s_l : Nat) (s_c : Nat) (n : Int) (w : World) (R : Value → World → Prop) : sxFn Try.prog TT h_slices_Grow_Sapi_Range_api_Range Try.f79 #[(.slice s_a s_l s_c), (.int .i64 n)] w R = F_slices_Grow_Sapi_Range_api_Range s_a s_l s_c n w R := by kernel_rfl
theorem F_slices_Grow_Sapi_Range_api_Range_ok {R : Ending → World → Prop} (s_a : Option Addr) (s_l : Nat) (s_c : Nat) (n : Int) (w : World) (h : F_slices_Grow_Sapi_Range_api_Range s_a s_l s_c n w fun v w' => R (.returned v) w') : Calls Try.prog N_slices_Grow_Sapi_Range_api_Range #[(.slice s_a s_l s_c), (.int .i64 n)] w R :=
  calls_of (f := 79) follows_ok Try.func79 (Eq.mpr (F_slices_Grow_Sapi_Range_api_Range_eq s_a s_l s_c n w _) h)

def h_slices_IndexFunc_Sbyte_byte : H := (.seq .reg (.seq (.seq .reg (.block (.loop [(8, .p (.int .i64))] [4, 5, 8, 9, 10, 11, 12, 13, 14, 15, 16, 17, 18] (.seq .reg (.seq (.cond .leaf .leaf) (.seq (.block (.seq .reg (.seq .reg (.cond (.seq .reg .leaf) .leaf)))) .reg)))))) (.seq .reg .leaf)))
def F_slices_IndexFunc_Sbyte_byte (s_a : Option Addr) (s_l : Nat) (_ : Nat) (f_g : Nat) (f_f : Array Value) (f_c : Array Value) (w : World) (R : Value → World → Prop) : Prop :=
  (∃ I : Int → Nat × (World → Prop), (I (0 : Int)).2 w ∧
  (∀ (_junk : Env) (x : Int) (w1 : World), (I x).2 w1 →
    (bsplit (decide (x < (s_l : Int)))
      ((kIx s_a s_l x fun b =>
      (kLd w1 (b.add (x.toNat * 1)) .u8 fun x1 =>
      (okFn Try.prog f_g = true ∧ Calls Try.prog f_g (f_f ++ #[(.int .u8 x1)] ++ f_c) w1 fun e_ w2 =>
      ∃ r : Bool, e_ = .returned (.bool r) ∧
      (bsplit r
        (R (.int .i64 x) w2)
        ((kW .i64 (x + (1 : Int)) fun x2 =>
        ((I x2).2 w2 ∧ (I x2).1 < (I x).1))))))))
      (R (.int .i64 (-1 : Int)) w1))))
theorem F_slices_IndexFunc_Sbyte_byte_eq (s_a : Option Addr) (s_l : Nat) (s_c : Nat) (f_g : Nat) (f_f : Array Value) (f_c : Array Value) (w : World) (R : Value → World → Prop) : sxFn Try.prog TT h_slices_IndexFunc_Sbyte_byte Try.f80 #[(.slice s_a s_l s_c), (.func (.func f_g) f_f f_c)] w R = F_slices_IndexFunc_Sbyte_byte s_a s_l s_c f_g f_f f_c w R := by kernel_rfl
theorem F_slices_IndexFunc_Sbyte_byte_ok {R : Ending → World → Prop} (s_a : Option Addr) (s_l : Nat) (s_c : Nat) (f_g : Nat) (f_f : Array Value) (f_c : Array Value) (w : World) (h : F_slices_IndexFunc_Sbyte_byte s_a s_l s_c f_g f_f f_c w fun v w' => R (.returned v) w') : Calls Try.prog N_slices_IndexFunc_Sbyte_byte #[(.slice s_a s_l s_c), (.func (.func f_g) f_f f_c)] w R :=
  calls_of (f := 80) follows_ok Try.func80 (Eq.mpr (F_slices_IndexFunc_Sbyte_byte_eq s_a s_l s_c f_g f_f f_c w _) h)

end Go.Proofs.Ythceaojjeokclaa
