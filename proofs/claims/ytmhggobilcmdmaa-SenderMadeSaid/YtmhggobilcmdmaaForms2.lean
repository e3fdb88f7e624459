import Derived.Test.YtmhggobilcmdmaaBase
import Derived.KernelRfl
namespace Go.Proofs.Ytmhggobilcmdmaa
open Go.Sx Go.RowKit
set_option maxRecDepth 100000

def h_made_Dice_One : H := (.seq .reg (.seq .reg .leaf))
def F_made_Dice_One (d_b : Nat) (d_o : Nat) (n : Int) (w : World) (R : Value → World → Prop) : Prop :=
  (Calls Try.prog N_made_Dice_Next #[(.pointer (some ⟨d_b, d_o, none⟩)), (.int .i64 n)] w fun e_ w1 =>
  ∃ r : Int, e_ = .returned (.int .i64 r) ∧
  (kW .i64 (n - (1 : Int)) fun x =>
  (kLet (decide (r = x)) fun x1 =>
  R (.bool x1) w1)))
theorem F_made_Dice_One_eq (d_b : Nat) (d_o : Nat) (n : Int) (w : World) (R : Value → World → Prop) : sxFn Try.prog TT h_made_Dice_One Try.f33 #[(.pointer (some ⟨d_b, d_o, none⟩)), (.int .i64 n)] w R = F_made_Dice_One d_b d_o n w R := by kernel_rfl
theorem F_made_Dice_One_ok {R : Ending → World → Prop} (d_b : Nat) (d_o : Nat) (n : Int) (w : World) (h : F_made_Dice_One d_b d_o n w fun v w' => R (.returned v) w') : Calls Try.prog N_made_Dice_One #[(.pointer (some ⟨d_b, d_o, none⟩)), (.int .i64 n)] w R :=
  calls_of (f := 33) follows_ok Try.func33 (Eq.mpr (F_made_Dice_One_eq d_b d_o n w _) h)

def h_made_Dice_Status : H := (.seq .reg (.seq .reg (.seq .reg (.seq (.seq .reg (.block (.loop [(7, .p (.int .i64))] [7, 8, 23, 24, 25, 26, 27, 28, 29, 30, 31, 32, 33, 34, 35, 36, 37, 38, 39, 40, 41, 42, 43, 44, 45, 46, 47, 48, 49, 50, 51] (.seq (.seq .reg (.cond .leaf .leaf)) (.seq (.block (.seq .reg (.seq (.seq .reg (.cond (.seq .reg .leaf) .leaf)) (.draw .blk (.one 0 .stable (.one 1 .stable (.one 2 .pre (.one 3 .pre (.one 4 .keep (.one 5 .keep (.one 6 .stable (.one 7 .last .nil)))))))))))) .reg))))) (.seq (.seq .reg (.cond .reg .leaf)) (.seq .reg .leaf))))))
def F_made_Dice_Status (d_b : Nat) (d_o : Nat) (bits : Int) (w : World) (R : Value → World → Prop) : Prop :=
  (kAlloc w #[.int .i64 (0 : Int), .slice none 0 0] Ty_api_Status fun b w1 =>
  (kW .u64 (bits) fun x =>
  (0 ≤ x ∧ (kW .i64 ((1 : Int) * 2 ^ (min x.toNat (IntKind.bits .i64))) fun x1 =>
  (Calls Try.prog N_made_Dice_Next #[(.pointer (some ⟨d_b, d_o, none⟩)), (.int .i64 x1)] w1 fun e_ w2 =>
  ∃ r : Int, e_ = .returned (.int .i64 r) ∧
  (kAlloc w2 #[.int .i64 (0 : Int), .slice none 0 0] Ty_api_Status fun b1 w3 =>
  (sxStore w3 ⟨b1, 0, none⟩ 0 [(.int .i64 r), (.slice none 0 0)] fun w4 =>
  (kW .i64 (Int.tdiv x1 (2 : Int)) fun x2 =>
  (kW .i64 (Int.tdiv x1 (2 : Int)) fun x3 =>
  (Calls Try.prog N_made_Dice_Next #[(.pointer (some ⟨d_b, d_o, none⟩)), (.int .i64 x3)] w4 fun e_1 w5 =>
  ∃ r1 : Int, e_1 = .returned (.int .i64 r1) ∧
  (kW .i64 (x2 - r1) fun x4 =>
  (∃ I : Int → Nat × (World → Prop), (I x4).2 w5 ∧
  (∀ (_junk : Env) (at1 : Int) (w6 : World), (I at1).2 w6 →
    (bsplit (decide (at1 > (0 : Int)))
      ((kLd w6 ⟨b1, 0, none⟩ .i64 fun x5 =>
      (kW .i64 (x5 - at1) fun x6 =>
      (Calls Try.prog N_made_Mod #[(.int .i64 x6), (.int .i64 x1)] w6 fun e_2 w7 =>
      ∃ r2 : Int, e_2 = .returned (.int .i64 r2) ∧
      (Calls Try.prog N_made_Dice_One #[(.pointer (some ⟨d_b, d_o, none⟩)), (.int .i64 (2 : Int))] w7 fun e_3 w8 =>
      ∃ r3 : Bool, e_3 = .returned (.bool r3) ∧
      (bsplit r3
        ((kLdS w8 ⟨b1, 1, none⟩ fun x_a x_l x_c =>
        (kAlloc w8 #[(.int .i64 r2), (.int .i64 (0 : Int)), (.int .i64 (0 : Int))] Ty_api_Range fun b2 w9 =>
        (AppP Try.prog #[Ty_S_api_Range, Ty_S_api_Range] Ty_S_api_Range #[(.slice x_a x_l x_c), (.slice (some ⟨b2, 0, none⟩) 1 1)] w9 fun x_a1 x_l1 x_c1 w10 =>
        (kSet w10 ⟨b1, 1, none⟩ (.slice x_a1 x_l1 x_c1) fun w11 =>
        (Calls Try.prog N_made_Dice_Next #[(.pointer (some ⟨d_b, d_o, none⟩)), (.int .i64 (4 : Int))] w11 fun e_4 w12 =>
        ∃ r4 : Int, e_4 = .returned (.int .i64 r4) ∧
        (kW .i64 ((1 : Int) + r4) fun x7 =>
        (kW .i64 (at1 - x7) fun x8 =>
        ((I x8).2 w12 ∧ (I x8).1 < (I at1).1)))))))))
        ((kDrew w8 fun w13 =>
        (∃ S : Nat → Prop,
        (S b1 ∧
        (kLdS w13 ⟨b1, 1, none⟩ fun x_a2 x_l2 x_c2 =>
        (Calls Try.prog N_made_Dice_Ranges #[(.pointer (some ⟨d_b, d_o, none⟩)), (.int .i64 r2), (.int .i64 (3 : Int))] w13 fun e_5 w14 =>
        ∃ r_a : Option Addr, ∃ r_l r_c : Nat, e_5 = .returned (.slice r_a r_l r_c) ∧
        (KeepsB S w13 w14 ∧ (AppP Try.prog #[Ty_S_api_Range, Ty_S_api_Range] Ty_S_api_Range #[(.slice x_a2 x_l2 x_c2), (.slice r_a r_l r_c)] w14 fun x_a3 x_l3 x_c3 w15 =>
        (KeepsB S w13 w15 ∧ (kSet w15 ⟨b1, 1, none⟩ (.slice x_a3 x_l3 x_c3) fun w16 =>
        (Calls Try.prog N_made_Dice_Next #[(.pointer (some ⟨d_b, d_o, none⟩)), (.int .i64 (4 : Int))] w16 fun e_6 w17 =>
        ∃ r5 : Int, e_6 = .returned (.int .i64 r5) ∧
        (kW .i64 ((1 : Int) + r5) fun x9 =>
        (kW .i64 (at1 - x9) fun x10 =>
        ((I x10).2 w17 ∧ (I x10).1 < (I at1).1))))))))))))))))))))
      ((kLdS w6 ⟨b1, 1, none⟩ fun _ x_l4 _ =>
      (bsplit (decide ((x_l4 : Int) > (64 : Int)))
        ((kLdS w6 ⟨b1, 1, none⟩ fun x_a5 _ x_c5 =>
        ((0 ≤ (64 : Int) ∧ (64 : Int) ≤ ((x_c5 : Nat) : Int)) ∧ (kSet w6 ⟨b1, 1, none⟩ (.slice (slAddr x_c5 0 3 x_a5) ((64 : Int).toNat - 0) (x_c5 - 0)) fun w18 =>
        (∃ x_0 : Int, ∃ x_1_a : Option Addr, ∃ x_1_l x_1_c : Nat, cellsAt w18 ⟨b1, 0, none⟩ 0 [(.int .i64 x_0), (.slice x_1_a x_1_l x_1_c)] ∧
        (sxStore w18 ⟨b, 0, none⟩ 0 [(.int .i64 x_0), (.slice x_1_a x_1_l x_1_c)] fun w19 =>
        (∃ r_0 : Int, ∃ r_1_a : Option Addr, ∃ r_1_l r_1_c : Nat, cellsAt w19 ⟨b, 0, none⟩ 0 [(.int .i64 r_0), (.slice r_1_a r_1_l r_1_c)] ∧
        R (.agg #[.int .i64 r_0, .slice r_1_a r_1_l r_1_c]) w19)))))))
        ((∃ x_01 : Int, ∃ x_1_a1 : Option Addr, ∃ x_1_l1 x_1_c1 : Nat, cellsAt w6 ⟨b1, 0, none⟩ 0 [(.int .i64 x_01), (.slice x_1_a1 x_1_l1 x_1_c1)] ∧
        (sxStore w6 ⟨b, 0, none⟩ 0 [(.int .i64 x_01), (.slice x_1_a1 x_1_l1 x_1_c1)] fun w20 =>
        (∃ r_01 : Int, ∃ r_1_a1 : Option Addr, ∃ r_1_l1 r_1_c1 : Nat, cellsAt w20 ⟨b, 0, none⟩ 0 [(.int .i64 r_01), (.slice r_1_a1 r_1_l1 r_1_c1)] ∧
        R (.agg #[.int .i64 r_01, .slice r_1_a1 r_1_l1 r_1_c1]) w20)))))))))))))))))))))
theorem F_made_Dice_Status_eq (d_b : Nat) (d_o : Nat) (bits : Int) (w : World) (R : Value → World → Prop) : sxFn Try.prog TT h_made_Dice_Status Try.f34 #[(.pointer (some ⟨d_b, d_o, none⟩)), (.int .i64 bits)] w R = F_made_Dice_Status d_b d_o bits w R := by kernel_rfl
theorem F_made_Dice_Status_ok {R : Ending → World → Prop} (d_b : Nat) (d_o : Nat) (bits : Int) (w : World) (h : F_made_Dice_Status d_b d_o bits w fun v w' => R (.returned v) w') : Calls Try.prog N_made_Dice_Status #[(.pointer (some ⟨d_b, d_o, none⟩)), (.int .i64 bits)] w R :=
  calls_of (f := 34) follows_ok Try.func34 (Eq.mpr (F_made_Dice_Status_eq d_b d_o bits w _) h)

def h_made_Dice_OddLink : H := (.seq .reg (.seq .reg (.cut [] [11, 12, 13, 14, 15, 16, 17, 18, 19, 20, 21, 22, 23, 24, 25, 26, 27, 28, 29, 30, 31, 32, 33, 34] (.seq .reg (.block (.seq .reg (.cond .reg (.seq .reg (.cond .reg (.seq .reg (.cond .reg (.seq .reg (.cond .reg (.seq .reg (.cond .reg .reg)))))))))))) (.seq .reg .leaf))))
def F_made_Dice_OddLink (d_b : Nat) (d_o : Nat) (l_0 : Int) (l_1 : Int) (l_2 : Int) (l_3 : Int) (l_4 : Int) (l_5 : Int) (w : World) (R : Value → World → Prop) : Prop :=
  (kAlloc w #[(.int .i64 l_0), (.int .i64 l_1), (.int .i64 l_2), (.int .i64 l_3), (.int .i64 l_4), (.int .i64 l_5)] Ty_api_Link fun b w1 =>
  (kAlloc w1 #[.int .i64 (0 : Int), .int .i64 (0 : Int), .int .i64 (0 : Int), .int .i64 (0 : Int), .int .i64 (0 : Int), .int .i64 (0 : Int)] Ty_api_Link fun b1 w2 =>
  (kAlloc w2 #[(.int .i64 (-1 : Int)), (.int .i64 (0 : Int)), (.int .i64 (1 : Int)), (.int .i64 (4 : Int)), (.int .i64 (10 : Int)), (.int .i64 (64 : Int)), (.int .i64 (65 : Int)), (.int .i64 (1000 : Int)), (.int .i64 (1001 : Int)), (.int .i64 (33 : Int))] Ty_int fun b2 w3 =>
  (Calls Try.prog N_made_Dice_Next #[(.pointer (some ⟨d_b, d_o, none⟩)), (.int .i64 (10 : Int))] w3 fun e_ w4 =>
  ∃ r : Int, e_ = .returned (.int .i64 r) ∧
  (kIx (some ⟨b2, 0, none⟩) 10 r fun b3 =>
  (kLd w4 (b3.add (r.toNat * 1)) .i64 fun x =>
  (∃ J : World → Prop,
  (∀ (_junk : Env)  (w12 : World), J w12 →
    (∃ x_0 x_1 x_2 x_3 x_4 x_5 : Int, cellsAt w12 ⟨b, 0, none⟩ 0 [(.int .i64 x_0), (.int .i64 x_1), (.int .i64 x_2), (.int .i64 x_3), (.int .i64 x_4), (.int .i64 x_5)] ∧
    (sxStore w12 ⟨b1, 0, none⟩ 0 [(.int .i64 x_0), (.int .i64 x_1), (.int .i64 x_2), (.int .i64 x_3), (.int .i64 x_4), (.int .i64 x_5)] fun w13 =>
    (∃ r_0 r_1 r_2 r_3 r_4 r_5 : Int, cellsAt w13 ⟨b1, 0, none⟩ 0 [(.int .i64 r_0), (.int .i64 r_1), (.int .i64 r_2), (.int .i64 r_3), (.int .i64 r_4), (.int .i64 r_5)] ∧
    R (.agg #[.int .i64 r_0, .int .i64 r_1, .int .i64 r_2, .int .i64 r_3, .int .i64 r_4, .int .i64 r_5]) w13)))) ∧
  (Calls Try.prog N_made_Dice_Next #[(.pointer (some ⟨d_b, d_o, none⟩)), (.int .i64 (6 : Int))] w4 fun e_1 w5 =>
  ∃ r1 : Int, e_1 = .returned (.int .i64 r1) ∧
  (kLet (decide (r1 = (0 : Int))) fun x1 =>
  (bsplit x1
    ((kSet w5 ⟨b, 0, none⟩ (.int .i64 x) fun w6 =>
    J w6))
    ((kLet (decide (r1 = (1 : Int))) fun x2 =>
    (bsplit x2
      ((kSet w5 ⟨b, 1, none⟩ (.int .i64 x) fun w7 =>
      J w7))
      ((kLet (decide (r1 = (2 : Int))) fun x3 =>
      (bsplit x3
        ((kSet w5 ⟨b, 2, none⟩ (.int .i64 x) fun w8 =>
        J w8))
        ((kLet (decide (r1 = (3 : Int))) fun x4 =>
        (bsplit x4
          ((kSet w5 ⟨b, 3, none⟩ (.int .i64 x) fun w9 =>
          J w9))
          ((kLet (decide (r1 = (4 : Int))) fun x5 =>
          (bsplit x5
            ((kSet w5 ⟨b, 4, none⟩ (.int .i64 x) fun w10 =>
            J w10))
            ((kSet w5 ⟨b, 5, none⟩ (.int .i64 x) fun w11 =>
            J w11))))))))))))))))))))))))
theorem F_made_Dice_OddLink_eq (d_b : Nat) (d_o : Nat) (l_0 : Int) (l_1 : Int) (l_2 : Int) (l_3 : Int) (l_4 : Int) (l_5 : Int) (w : World) (R : Value → World → Prop) : sxFn Try.prog TT h_made_Dice_OddLink Try.f35 #[(.pointer (some ⟨d_b, d_o, none⟩)), (.agg #[.int .i64 l_0, .int .i64 l_1, .int .i64 l_2, .int .i64 l_3, .int .i64 l_4, .int .i64 l_5])] w R = F_made_Dice_OddLink d_b d_o l_0 l_1 l_2 l_3 l_4 l_5 w R := by kernel_rfl
theorem F_made_Dice_OddLink_ok {R : Ending → World → Prop} (d_b : Nat) (d_o : Nat) (l_0 : Int) (l_1 : Int) (l_2 : Int) (l_3 : Int) (l_4 : Int) (l_5 : Int) (w : World) (h : F_made_Dice_OddLink d_b d_o l_0 l_1 l_2 l_3 l_4 l_5 w fun v w' => R (.returned v) w') : Calls Try.prog N_made_Dice_OddLink #[(.pointer (some ⟨d_b, d_o, none⟩)), (.agg #[.int .i64 l_0, .int .i64 l_1, .int .i64 l_2, .int .i64 l_3, .int .i64 l_4, .int .i64 l_5])] w R :=
  calls_of (f := 35) follows_ok Try.func35 (Eq.mpr (F_made_Dice_OddLink_eq d_b d_o l_0 l_1 l_2 l_3 l_4 l_5 w _) h)

def h_made_Dice_Bytes : H := (.seq .reg (.seq .reg (.seq (.seq .reg (.block (.loop [(5, .p .slice), (6, .p (.int .i64))] [5, 6, 11, 12, 13, 14, 15, 16, 17, 18, 19, 20] (.seq (.seq .reg (.cond .leaf .leaf)) (.seq (.block .reg) .reg))))) (.seq .reg .leaf))))
def F_made_Dice_Bytes (d_b : Nat) (d_o : Nat) (most : Int) (w : World) (R : Value → World → Prop) : Prop :=
  (kW .i64 (most + (1 : Int)) fun x =>
  (Calls Try.prog N_made_Dice_Next #[(.pointer (some ⟨d_b, d_o, none⟩)), (.int .i64 x)] w fun e_ w1 =>
  ∃ r : Int, e_ = .returned (.int .i64 r) ∧
  (∃ I : Option Addr → Nat → Nat → Int → Nat × (World → Prop), (I none 0 0 r).2 w1 ∧
  (∀ (_junk : Env) (b_a : Option Addr) (b_l : Nat) (b_c : Nat) (n : Int) (w2 : World), (I b_a b_l b_c n).2 w2 →
    (bsplit (decide (n > (0 : Int)))
      ((Calls Try.prog N_made_Dice_Next #[(.pointer (some ⟨d_b, d_o, none⟩)), (.int .i64 (256 : Int))] w2 fun e_1 w3 =>
      ∃ r1 : Int, e_1 = .returned (.int .i64 r1) ∧
      (kW .u8 (r1) fun x1 =>
      (kAlloc w3 #[(.int .u8 x1)] Ty_uint8 fun b w4 =>
      (AppP Try.prog #[Ty_S_uint8, Ty_S_uint8] Ty_S_uint8 #[(.slice b_a b_l b_c), (.slice (some ⟨b, 0, none⟩) 1 1)] w4 fun x_a x_l x_c w5 =>
      (kW .i64 (n - (1 : Int)) fun x2 =>
      ((I x_a x_l x_c x2).2 w5 ∧ (I x_a x_l x_c x2).1 < (I b_a b_l b_c n).1)))))))
      (R (.slice b_a b_l b_c) w2))))))
theorem F_made_Dice_Bytes_eq (d_b : Nat) (d_o : Nat) (most : Int) (w : World) (R : Value → World → Prop) : sxFn Try.prog TT h_made_Dice_Bytes Try.f36 #[(.pointer (some ⟨d_b, d_o, none⟩)), (.int .i64 most)] w R = F_made_Dice_Bytes d_b d_o most w R := by kernel_rfl
theorem F_made_Dice_Bytes_ok {R : Ending → World → Prop} (d_b : Nat) (d_o : Nat) (most : Int) (w : World) (h : F_made_Dice_Bytes d_b d_o most w fun v w' => R (.returned v) w') : Calls Try.prog N_made_Dice_Bytes #[(.pointer (some ⟨d_b, d_o, none⟩)), (.int .i64 most)] w R :=
  calls_of (f := 36) follows_ok Try.func36 (Eq.mpr (F_made_Dice_Bytes_eq d_b d_o most w _) h)

def h_made_Filled : H := (.seq .reg (.seq .reg (.seq (.seq .reg (.block (.loop [(5, .p .slice), (6, .p (.int .i64))] [5, 6, 7, 8, 9, 10, 11, 12, 13, 14, 15, 16, 17, 18, 19, 20, 21, 22] (.seq (.seq .reg (.cond .leaf .leaf)) (.seq (.block .reg) .reg))))) (.seq .reg .leaf))))
def F_made_Filled (n : Int) (seed : Int) (w : World) (R : Value → World → Prop) : Prop :=
  (∃ I : Option Addr → Nat → Nat → Int → Nat × (World → Prop), (I none 0 0 (0 : Int)).2 w ∧
  (∀ (_junk : Env) (b_a : Option Addr) (b_l : Nat) (b_c : Nat) (i : Int) (w1 : World), (I b_a b_l b_c i).2 w1 →
    (bsplit (decide (i < n))
      ((kW .i64 ((7 : Int) * i) fun x =>
      (kW .i64 (seed + x) fun x1 =>
      (kW .i64 (Int.tdiv i (16 : Int)) fun x2 =>
      (kW .i64 (x1 + x2) fun x3 =>
      (kW .u8 (x3) fun x4 =>
      (kAlloc w1 #[(.int .u8 x4)] Ty_uint8 fun b w2 =>
      (AppP Try.prog #[Ty_S_uint8, Ty_S_uint8] Ty_S_uint8 #[(.slice b_a b_l b_c), (.slice (some ⟨b, 0, none⟩) 1 1)] w2 fun x_a x_l x_c w3 =>
      (kW .i64 (i + (1 : Int)) fun x5 =>
      ((I x_a x_l x_c x5).2 w3 ∧ (I x_a x_l x_c x5).1 < (I b_a b_l b_c i).1))))))))))
      (R (.slice b_a b_l b_c) w1))))
theorem F_made_Filled_eq (n : Int) (seed : Int) (w : World) (R : Value → World → Prop) : sxFn Try.prog TT h_made_Filled Try.f37 #[(.int .i64 n), (.int .i64 seed)] w R = F_made_Filled n seed w R := by kernel_rfl
theorem F_made_Filled_ok {R : Ending → World → Prop} (n : Int) (seed : Int) (w : World) (h : F_made_Filled n seed w fun v w' => R (.returned v) w') : Calls Try.prog N_made_Filled #[(.int .i64 n), (.int .i64 seed)] w R :=
  calls_of (f := 37) follows_ok Try.func37 (Eq.mpr (F_made_Filled_eq n seed w _) h)

def h_law20_whole : H := (.seq .reg (.seq .reg (.seq .reg (.seq (.seq .reg (.block (.loop [(6, .p .slice), (7, .p (.int .i64))] [6, 7, 8, 12, 13, 14, 15, 16, 17, 18, 19, 20, 21, 22, 23, 24, 25, 26, 27, 28, 29, 30, 31, 32, 33, 34, 35, 36, 37, 38, 39, 40, 41, 42, 43] (.seq (.seq .reg (.cond .leaf .leaf)) (.seq (.block (.seq .reg (.seq (.draw .no (.one 0 .pur (.one 1 .pur (.one 2 .pur (.one 3 .pur (.one 4 .stable (.one 5 .pur (.one 6 .stable (.one 7 .pur (.one 8 .pur (.one 9 .pur (.one 10 .pur (.one 11 .stable (.one 12 .pur (.one 13 .pur .nil))))))))))))))) (.cond .reg .leaf)))) .reg))))) (.seq .reg (.seq .reg .leaf))))))
def F_law20_whole (d_b : Nat) (d_o : Nat) (s_0 : Int) (s_1 : Int) (s_2 : Int) (s_3 : Int) (s_4 : Int) (s_5 : Int) (s_6 : Int) (s_7 : Int) (s_8_a : Option Addr) (s_8_l : Nat) (s_8_c : Nat) (s_9 : Int) (s_10 : Int) (s_11 : Int) (s_12 : Bool) (w : World) (R : Value → World → Prop) : Prop :=
  (kAlloc w #[(.int .i64 s_0), (.int .i64 s_1), (.int .i64 s_2), (.int .i64 s_3), (.int .i64 s_4), (.int .i64 s_5), (.int .i64 s_6), (.int .i64 s_7), (.slice s_8_a s_8_l s_8_c), (.int .i64 s_9), (.int .i64 s_10), (.int .i64 s_11), (.bool s_12)] Ty_api_Sender fun b w1 =>
  (kAlloc w1 #[.int .i64 (0 : Int), .slice none 0 0] Ty_api_Status fun b1 w2 =>
  (∃ x_0 x_1 x_2 x_3 x_4 x_5 x_6 x_7 : Int, ∃ x_8_a : Option Addr, ∃ x_8_l x_8_c : Nat, ∃ x_9 x_10 x_11 : Int, ∃ x_12 : Bool, cellsAt w2 ⟨b, 0, none⟩ 0 [(.int .i64 x_0), (.int .i64 x_1), (.int .i64 x_2), (.int .i64 x_3), (.int .i64 x_4), (.int .i64 x_5), (.int .i64 x_6), (.int .i64 x_7), (.slice x_8_a x_8_l x_8_c), (.int .i64 x_9), (.int .i64 x_10), (.int .i64 x_11), (.bool x_12)] ∧
  (Calls Try.prog N_law20_report #[(.pointer (some ⟨d_b, d_o, none⟩)), (.agg #[.int .i64 x_0, .int .i64 x_1, .int .i64 x_2, .int .i64 x_3, .int .i64 x_4, .int .i64 x_5, .int .i64 x_6, .int .i64 x_7, .slice x_8_a x_8_l x_8_c, .int .i64 x_9, .int .i64 x_10, .int .i64 x_11, .bool x_12])] w2 fun e_ w3 =>
  ∃ r_0 : Int, ∃ r_1_a : Option Addr, ∃ r_1_l r_1_c : Nat, e_ = .returned (.agg #[.int .i64 r_0, .slice r_1_a r_1_l r_1_c]) ∧
  (kAlloc w3 #[.int .i64 (0 : Int), .slice none 0 0] Ty_api_Status fun b2 w4 =>
  (sxStore w4 ⟨b2, 0, none⟩ 0 [(.int .i64 r_0), (.slice r_1_a r_1_l r_1_c)] fun w5 =>
  (∃ I : Option Addr → Nat → Nat → Int → Nat × (World → Prop), (I none 0 0 (0 : Int)).2 w5 ∧
  (∀ (_junk : Env) (l_a : Option Addr) (l_l : Nat) (l_c : Nat) (i : Int) (w6 : World), (I l_a l_l l_c i).2 w6 →
    (kLdS w6 ⟨b2, 1, none⟩ fun _ x_l _ =>
    (bsplit (decide (i < (x_l : Int)))
      ((kLdS w6 ⟨b2, 1, none⟩ fun x_a1 x_l1 _ =>
      (kIx x_a1 x_l1 i fun b3 =>
      (∃ x_01 x_13 x_21 : Int, cellsAt w6 (b3.add (i.toNat * 3)) 0 [(.int .i64 x_01), (.int .i64 x_13), (.int .i64 x_21)] ∧
      (kAlloc w6 #[.int .i64 (0 : Int), .int .i64 (0 : Int), .int .i64 (0 : Int)] Ty_api_Range fun b4 w7 =>
      (sxStore w7 ⟨b4, 0, none⟩ 0 [(.int .i64 x_01), (.int .i64 x_13), (.int .i64 x_21)] fun w8 =>
      (kDrew w8 fun w9 =>
      (bsplit (decide (i = (0 : Int)))
        ((kLd w9 ⟨b4, 0, none⟩ .i64 fun x =>
          (kAlloc w9 #[(.int .i64 x), (.int .i64 (0 : Int)), (.int .i64 (0 : Int))] Ty_api_Range fun b5 w10 =>
          (AppP Try.prog #[Ty_S_api_Range, Ty_S_api_Range] Ty_S_api_Range #[(.slice l_a l_l l_c), (.slice (some ⟨b5, 0, none⟩) 1 1)] w10 fun x_a2 x_l2 x_c2 w11 =>
          (kW .i64 (i + (1 : Int)) fun x1 =>
          ((I x_a2 x_l2 x_c2 x1).2 w11 ∧ (I x_a2 x_l2 x_c2 x1).1 < (I l_a l_l l_c i).1))))))
        ((kLd w9 ⟨b4, 0, none⟩ .i64 fun x3 =>
        (kLdS w9 ⟨b2, 1, none⟩ fun x_a3 x_l3 _ =>
        (kW .i64 (i - (1 : Int)) fun x4 =>
        (kIx x_a3 x_l3 x4 fun b6 =>
        (kLd w9 (b6.add (x4.toNat * 3)) .i64 fun x5 =>
        (bsplit (!decide (x3 = x5))
          ((kLd w9 ⟨b4, 0, none⟩ .i64 fun x6 =>
          (kAlloc w9 #[(.int .i64 x6), (.int .i64 (0 : Int)), (.int .i64 (0 : Int))] Ty_api_Range fun b7 w12 =>
          (AppP Try.prog #[Ty_S_api_Range, Ty_S_api_Range] Ty_S_api_Range #[(.slice l_a l_l l_c), (.slice (some ⟨b7, 0, none⟩) 1 1)] w12 fun x_a4 x_l4 x_c4 w13 =>
          (kW .i64 (i + (1 : Int)) fun x7 =>
          ((I x_a4 x_l4 x_c4 x7).2 w13 ∧ (I x_a4 x_l4 x_c4 x7).1 < (I l_a l_l l_c i).1))))))
          ((kW .i64 (i + (1 : Int)) fun x8 =>
          ((I l_a l_l l_c x8).2 w9 ∧ (I l_a l_l l_c x8).1 < (I l_a l_l l_c i).1))))))))))))))))))
      ((kSet w6 ⟨b2, 1, none⟩ (.slice l_a l_l l_c) fun w14 =>
      (∃ x_02 : Int, ∃ x_1_a : Option Addr, ∃ x_1_l x_1_c : Nat, cellsAt w14 ⟨b2, 0, none⟩ 0 [(.int .i64 x_02), (.slice x_1_a x_1_l x_1_c)] ∧
      (sxStore w14 ⟨b1, 0, none⟩ 0 [(.int .i64 x_02), (.slice x_1_a x_1_l x_1_c)] fun w15 =>
      (∃ r_01 : Int, ∃ r_1_a1 : Option Addr, ∃ r_1_l1 r_1_c1 : Nat, cellsAt w15 ⟨b1, 0, none⟩ 0 [(.int .i64 r_01), (.slice r_1_a1 r_1_l1 r_1_c1)] ∧
      R (.agg #[.int .i64 r_01, .slice r_1_a1 r_1_l1 r_1_c1]) w15)))))))))))))))
theorem F_law20_whole_eq (d_b : Nat) (d_o : Nat) (s_0 : Int) (s_1 : Int) (s_2 : Int) (s_3 : Int) (s_4 : Int) (s_5 : Int) (s_6 : Int) (s_7 : Int) (s_8_a : Option Addr) (s_8_l : Nat) (s_8_c : Nat) (s_9 : Int) (s_10 : Int) (s_11 : Int) (s_12 : Bool) (w : World) (R : Value → World → Prop) : sxFn Try.prog TT h_law20_whole Try.f38 #[(.pointer (some ⟨d_b, d_o, none⟩)), (.agg #[.int .i64 s_0, .int .i64 s_1, .int .i64 s_2, .int .i64 s_3, .int .i64 s_4, .int .i64 s_5, .int .i64 s_6, .int .i64 s_7, .slice s_8_a s_8_l s_8_c, .int .i64 s_9, .int .i64 s_10, .int .i64 s_11, .bool s_12])] w R = F_law20_whole d_b d_o s_0 s_1 s_2 s_3 s_4 s_5 s_6 s_7 s_8_a s_8_l s_8_c s_9 s_10 s_11 s_12 w R := by kernel_rfl
theorem F_law20_whole_ok {R : Ending → World → Prop} (d_b : Nat) (d_o : Nat) (s_0 : Int) (s_1 : Int) (s_2 : Int) (s_3 : Int) (s_4 : Int) (s_5 : Int) (s_6 : Int) (s_7 : Int) (s_8_a : Option Addr) (s_8_l : Nat) (s_8_c : Nat) (s_9 : Int) (s_10 : Int) (s_11 : Int) (s_12 : Bool) (w : World) (h : F_law20_whole d_b d_o s_0 s_1 s_2 s_3 s_4 s_5 s_6 s_7 s_8_a s_8_l s_8_c s_9 s_10 s_11 s_12 w fun v w' => R (.returned v) w') : Calls Try.prog N_law20_whole #[(.pointer (some ⟨d_b, d_o, none⟩)), (.agg #[.int .i64 s_0, .int .i64 s_1, .int .i64 s_2, .int .i64 s_3, .int .i64 s_4, .int .i64 s_5, .int .i64 s_6, .int .i64 s_7, .slice s_8_a s_8_l s_8_c, .int .i64 s_9, .int .i64 s_10, .int .i64 s_11, .bool s_12])] w R :=
  calls_of (f := 38) follows_ok Try.func38 (Eq.mpr (F_law20_whole_eq d_b d_o s_0 s_1 s_2 s_3 s_4 s_5 s_6 s_7 s_8_a s_8_l s_8_c s_9 s_10 s_11 s_12 w _) h)

def h_sender_Tick : H := (.seq .reg (.seq .reg (.seq (.seq .reg (.cond (.seq .reg .leaf) .leaf)) (.seq (.seq .reg (.cond (.seq .reg .leaf) .leaf)) (.seq (.seq .reg (.seq .reg (.cond (.seq .reg .leaf) .leaf))) (.seq .reg (.seq .reg (.cut [] [7, 56, 57, 58, 59, 60, 61, 62, 63, 64, 65, 66, 67, 68, 69, 70, 71, 72, 73, 74, 75, 76, 77, 78, 79, 80, 81, 82, 83, 84, 85, 86, 87, 88, 89, 90, 91, 92, 93, 94, 95, 96, 97] (.block (.seq .reg (.cond .reg (.seq .reg (.cond (.seq .reg (.seq (.draw .blk (.one 0 .stable (.one 1 .pre (.one 2 .pre (.one 3 .pre (.one 4 .pre (.one 5 .pre (.one 6 .pre (.one 7 .pre (.one 8 .pre (.one 9 .keep (.one 10 .keep (.one 11 .stable (.one 12 .stable (.one 13 .last .nil))))))))))))))) .reg)) .leaf))))) (.seq .reg .leaf)))))))))
def F_sender_Tick (x_0 : Int) (x_1 : Int) (x_2 : Int) (x_3 : Int) (x_4 : Int) (x_5 : Int) (x_6 : Int) (x_7 : Int) (x_8_a : Option Addr) (x_8_l : Nat) (x_8_c : Nat) (x_9 : Int) (x_10 : Int) (x_11 : Int) (x_12 : Bool) (w : World) (R : Value → World → Prop) : Prop :=
  (kAlloc w #[(.int .i64 x_0), (.int .i64 x_1), (.int .i64 x_2), (.int .i64 x_3), (.int .i64 x_4), (.int .i64 x_5), (.int .i64 x_6), (.int .i64 x_7), (.slice x_8_a x_8_l x_8_c), (.int .i64 x_9), (.int .i64 x_10), (.int .i64 x_11), (.bool x_12)] Ty_api_Sender fun b w1 =>
  (kAlloc w1 #[.int .i64 (0 : Int), .int .i64 (0 : Int), .int .i64 (0 : Int), .int .i64 (0 : Int), .int .i64 (0 : Int), .int .i64 (0 : Int), .int .i64 (0 : Int), .int .i64 (0 : Int), .slice none 0 0, .int .i64 (0 : Int), .int .i64 (0 : Int), .int .i64 (0 : Int), .bool false] Ty_api_Sender fun b1 w2 =>
  (∃ x_01 x_13 x_21 x_31 x_41 x_51 x_61 x_71 : Int, ∃ x_8_a1 : Option Addr, ∃ x_8_l1 x_8_c1 : Nat, ∃ x_91 x_101 x_111 : Int, ∃ x_121 : Bool, cellsAt w2 ⟨b, 0, none⟩ 0 [(.int .i64 x_01), (.int .i64 x_13), (.int .i64 x_21), (.int .i64 x_31), (.int .i64 x_41), (.int .i64 x_51), (.int .i64 x_61), (.int .i64 x_71), (.slice x_8_a1 x_8_l1 x_8_c1), (.int .i64 x_91), (.int .i64 x_101), (.int .i64 x_111), (.bool x_121)] ∧
  (Calls Try.prog N_sender_begin #[(.agg #[.int .i64 x_01, .int .i64 x_13, .int .i64 x_21, .int .i64 x_31, .int .i64 x_41, .int .i64 x_51, .int .i64 x_61, .int .i64 x_71, .slice x_8_a1 x_8_l1 x_8_c1, .int .i64 x_91, .int .i64 x_101, .int .i64 x_111, .bool x_121])] w2 fun e_ w3 =>
  ∃ r : Option Addr, ∃ r1 : Int, e_ = .returned (.tuple #[(.pointer r), (.int .i64 r1)]) ∧
  (bsplit (!decide (r1 = (0 : Int)))
    ((sxStore w3 ⟨b1, 0, none⟩ 0 [(.int .i64 (0 : Int)), (.int .i64 (0 : Int)), (.int .i64 (0 : Int)), (.int .i64 (0 : Int)), (.int .i64 (0 : Int)), (.int .i64 (0 : Int)), (.int .i64 (0 : Int)), (.int .i64 (0 : Int)), (.slice none 0 0), (.int .i64 (0 : Int)), (.int .i64 (0 : Int)), (.int .i64 (0 : Int)), (.bool false)] fun w4 =>
    (∃ r_0 r_1 r_2 r_3 r_4 r_5 r_6 r_7 : Int, ∃ r_8_a : Option Addr, ∃ r_8_l r_8_c : Nat, ∃ r_9 r_10 r_11 : Int, ∃ r_12 : Bool, cellsAt w4 ⟨b1, 0, none⟩ 0 [(.int .i64 r_0), (.int .i64 r_1), (.int .i64 r_2), (.int .i64 r_3), (.int .i64 r_4), (.int .i64 r_5), (.int .i64 r_6), (.int .i64 r_7), (.slice r_8_a r_8_l r_8_c), (.int .i64 r_9), (.int .i64 r_10), (.int .i64 r_11), (.bool r_12)] ∧
    R (.tuple #[(.agg #[.int .i64 r_0, .int .i64 r_1, .int .i64 r_2, .int .i64 r_3, .int .i64 r_4, .int .i64 r_5, .int .i64 r_6, .int .i64 r_7, .slice r_8_a r_8_l r_8_c, .int .i64 r_9, .int .i64 r_10, .int .i64 r_11, .bool r_12]), (.int .i64 r1)]) w4)))
    ((kNil r fun x =>
    (kLd w3 (x.add 11) .i64 fun x1 =>
    (bsplit (decide (x1 = (0 : Int)))
      ((kNil r fun x2 =>
      (∃ x_02 x_14 x_22 x_32 x_42 x_52 x_62 x_72 : Int, ∃ x_8_a2 : Option Addr, ∃ x_8_l2 x_8_c2 : Nat, ∃ x_92 x_102 x_112 : Int, ∃ x_122 : Bool, cellsAt w3 x2 0 [(.int .i64 x_02), (.int .i64 x_14), (.int .i64 x_22), (.int .i64 x_32), (.int .i64 x_42), (.int .i64 x_52), (.int .i64 x_62), (.int .i64 x_72), (.slice x_8_a2 x_8_l2 x_8_c2), (.int .i64 x_92), (.int .i64 x_102), (.int .i64 x_112), (.bool x_122)] ∧
      (sxStore w3 ⟨b1, 0, none⟩ 0 [(.int .i64 x_02), (.int .i64 x_14), (.int .i64 x_22), (.int .i64 x_32), (.int .i64 x_42), (.int .i64 x_52), (.int .i64 x_62), (.int .i64 x_72), (.slice x_8_a2 x_8_l2 x_8_c2), (.int .i64 x_92), (.int .i64 x_102), (.int .i64 x_112), (.bool x_122)] fun w5 =>
      (∃ r_01 r_13 r_21 r_31 r_41 r_51 r_61 r_71 : Int, ∃ r_8_a1 : Option Addr, ∃ r_8_l1 r_8_c1 : Nat, ∃ r_91 r_101 r_111 : Int, ∃ r_121 : Bool, cellsAt w5 ⟨b1, 0, none⟩ 0 [(.int .i64 r_01), (.int .i64 r_13), (.int .i64 r_21), (.int .i64 r_31), (.int .i64 r_41), (.int .i64 r_51), (.int .i64 r_61), (.int .i64 r_71), (.slice r_8_a1 r_8_l1 r_8_c1), (.int .i64 r_91), (.int .i64 r_101), (.int .i64 r_111), (.bool r_121)] ∧
      R (.tuple #[(.agg #[.int .i64 r_01, .int .i64 r_13, .int .i64 r_21, .int .i64 r_31, .int .i64 r_41, .int .i64 r_51, .int .i64 r_61, .int .i64 r_71, .slice r_8_a1 r_8_l1 r_8_c1, .int .i64 r_91, .int .i64 r_101, .int .i64 r_111, .bool r_121]), (.int .i64 (0 : Int))]) w5)))))
      ((kNil r fun x3 =>
      (kLd w3 (x3.add 11) .i64 fun x4 =>
      (kW .i64 (x4 - (1 : Int)) fun x5 =>
      (kNil r fun x6 =>
      (kSet w3 (x6.add 11) (.int .i64 x5) fun w6 =>
      (kNil r fun x7 =>
      (kLd w6 (x7.add 11) .i64 fun x8 =>
      (bsplit (decide (x8 > (0 : Int)))
        ((kNil r fun x9 =>
        (∃ x_03 x_15 x_23 x_33 x_43 x_53 x_63 x_73 : Int, ∃ x_8_a3 : Option Addr, ∃ x_8_l3 x_8_c3 : Nat, ∃ x_93 x_103 x_113 : Int, ∃ x_123 : Bool, cellsAt w6 x9 0 [(.int .i64 x_03), (.int .i64 x_15), (.int .i64 x_23), (.int .i64 x_33), (.int .i64 x_43), (.int .i64 x_53), (.int .i64 x_63), (.int .i64 x_73), (.slice x_8_a3 x_8_l3 x_8_c3), (.int .i64 x_93), (.int .i64 x_103), (.int .i64 x_113), (.bool x_123)] ∧
        (sxStore w6 ⟨b1, 0, none⟩ 0 [(.int .i64 x_03), (.int .i64 x_15), (.int .i64 x_23), (.int .i64 x_33), (.int .i64 x_43), (.int .i64 x_53), (.int .i64 x_63), (.int .i64 x_73), (.slice x_8_a3 x_8_l3 x_8_c3), (.int .i64 x_93), (.int .i64 x_103), (.int .i64 x_113), (.bool x_123)] fun w7 =>
        (∃ r_02 r_14 r_22 r_32 r_42 r_52 r_62 r_72 : Int, ∃ r_8_a2 : Option Addr, ∃ r_8_l2 r_8_c2 : Nat, ∃ r_92 r_102 r_112 : Int, ∃ r_122 : Bool, cellsAt w7 ⟨b1, 0, none⟩ 0 [(.int .i64 r_02), (.int .i64 r_14), (.int .i64 r_22), (.int .i64 r_32), (.int .i64 r_42), (.int .i64 r_52), (.int .i64 r_62), (.int .i64 r_72), (.slice r_8_a2 r_8_l2 r_8_c2), (.int .i64 r_92), (.int .i64 r_102), (.int .i64 r_112), (.bool r_122)] ∧
        R (.tuple #[(.agg #[.int .i64 r_02, .int .i64 r_14, .int .i64 r_22, .int .i64 r_32, .int .i64 r_42, .int .i64 r_52, .int .i64 r_62, .int .i64 r_72, .slice r_8_a2 r_8_l2 r_8_c2, .int .i64 r_92, .int .i64 r_102, .int .i64 r_112, .bool r_122]), (.int .i64 (0 : Int))]) w7)))))
        ((kNil r fun x10 =>
        (kSet w6 (x10.add 10) (.int .i64 (-1 : Int)) fun w8 =>
        (kNil r fun x11 =>
        (kLdS w8 (x11.add 8) fun _ x_l _ =>
        (∃ J : World → Prop,
        (∀ (_junk : Env)  (w15 : World), J w15 →
          (kNil r fun x22 =>
          (∃ x_04 x_16 x_24 x_34 x_44 x_54 x_64 x_74 : Int, ∃ x_8_a4 : Option Addr, ∃ x_8_l4 x_8_c4 : Nat, ∃ x_94 x_104 x_114 : Int, ∃ x_124 : Bool, cellsAt w15 x22 0 [(.int .i64 x_04), (.int .i64 x_16), (.int .i64 x_24), (.int .i64 x_34), (.int .i64 x_44), (.int .i64 x_54), (.int .i64 x_64), (.int .i64 x_74), (.slice x_8_a4 x_8_l4 x_8_c4), (.int .i64 x_94), (.int .i64 x_104), (.int .i64 x_114), (.bool x_124)] ∧
          (sxStore w15 ⟨b1, 0, none⟩ 0 [(.int .i64 x_04), (.int .i64 x_16), (.int .i64 x_24), (.int .i64 x_34), (.int .i64 x_44), (.int .i64 x_54), (.int .i64 x_64), (.int .i64 x_74), (.slice x_8_a4 x_8_l4 x_8_c4), (.int .i64 x_94), (.int .i64 x_104), (.int .i64 x_114), (.bool x_124)] fun w16 =>
          (∃ r_03 r_15 r_23 r_33 r_43 r_53 r_63 r_73 : Int, ∃ r_8_a3 : Option Addr, ∃ r_8_l3 r_8_c3 : Nat, ∃ r_93 r_103 r_113 : Int, ∃ r_123 : Bool, cellsAt w16 ⟨b1, 0, none⟩ 0 [(.int .i64 r_03), (.int .i64 r_15), (.int .i64 r_23), (.int .i64 r_33), (.int .i64 r_43), (.int .i64 r_53), (.int .i64 r_63), (.int .i64 r_73), (.slice r_8_a3 r_8_l3 r_8_c3), (.int .i64 r_93), (.int .i64 r_103), (.int .i64 r_113), (.bool r_123)] ∧
          R (.tuple #[(.agg #[.int .i64 r_03, .int .i64 r_15, .int .i64 r_23, .int .i64 r_33, .int .i64 r_43, .int .i64 r_53, .int .i64 r_63, .int .i64 r_73, .slice r_8_a3 r_8_l3 r_8_c3, .int .i64 r_93, .int .i64 r_103, .int .i64 r_113, .bool r_123]), (.int .i64 (0 : Int))]) w16))))) ∧
        (Calls Try.prog N_sender_side_left #[(.pointer r)] w8 fun e_1 w9 =>
        ∃ r2 : Int, e_1 = .returned (.int .i64 r2) ∧
        (kLet (decide (r2 ≥ (0 : Int))) fun x12 =>
        (bsplit x12
          ((kNil r fun x13 =>
          (kLd w9 (x13.add 1) .i64 fun x14 =>
          (kW .i64 (x14 - (1 : Int)) fun x15 =>
          (kNil r fun x16 =>
          (kSet w9 (x16.add 9) (.int .i64 x15) fun w10 =>
          J w10))))))
          ((kLet (decide ((x_l : Int) > (0 : Int))) fun x17 =>
          (bsplit x17
            ((kNil r fun x18 =>
            (kLdS w9 (x18.add 8) fun x_a1 x_l1 _ =>
            (kW .i64 ((x_l : Int) - (1 : Int)) fun x19 =>
            (kIx x_a1 x_l1 x19 fun b2 =>
            (kDrew w9 fun w11 =>
            (∃ S : Nat → Prop,
            (kLd w11 (b2.add (x19.toNat * 5)) .i64 fun x20 =>
            (kLd w11 ((b2.add (x19.toNat * 5)).add 2) .i64 fun x21 =>
            (KeepsB S w11 w11 ∧ (kAlloc w11 #[(.int .i64 x20), (.int .i64 (0 : Int)), (.int .i64 x21)] Ty_api_Range fun b3 w12 =>
            (KeepsB S w11 w12 ∧ (kSet w12 ((b2.add (x19.toNat * 5)).add 4) (.slice (some ⟨b3, 0, none⟩) 1 1) fun w13 =>
            (Calls Try.prog N_sender_side_again #[(.pointer r), (.pointer (some (b2.add (x19.toNat * 5))))] w13 fun e_2 w14 =>
            e_2 = .returned (.tuple #[]) ∧
            J w14))))))))))))))
            (J w9)))))))))))))))))))))))))))))))
theorem F_sender_Tick_eq (x_0 : Int) (x_1 : Int) (x_2 : Int) (x_3 : Int) (x_4 : Int) (x_5 : Int) (x_6 : Int) (x_7 : Int) (x_8_a : Option Addr) (x_8_l : Nat) (x_8_c : Nat) (x_9 : Int) (x_10 : Int) (x_11 : Int) (x_12 : Bool) (w : World) (R : Value → World → Prop) : sxFn Try.prog TT h_sender_Tick Try.f39 #[(.agg #[.int .i64 x_0, .int .i64 x_1, .int .i64 x_2, .int .i64 x_3, .int .i64 x_4, .int .i64 x_5, .int .i64 x_6, .int .i64 x_7, .slice x_8_a x_8_l x_8_c, .int .i64 x_9, .int .i64 x_10, .int .i64 x_11, .bool x_12])] w R = F_sender_Tick x_0 x_1 x_2 x_3 x_4 x_5 x_6 x_7 x_8_a x_8_l x_8_c x_9 x_10 x_11 x_12 w R := by kernel_rfl
theorem F_sender_Tick_ok {R : Ending → World → Prop} (x_0 : Int) (x_1 : Int) (x_2 : Int) (x_3 : Int) (x_4 : Int) (x_5 : Int) (x_6 : Int) (x_7 : Int) (x_8_a : Option Addr) (x_8_l : Nat) (x_8_c : Nat) (x_9 : Int) (x_10 : Int) (x_11 : Int) (x_12 : Bool) (w : World) (h : F_sender_Tick x_0 x_1 x_2 x_3 x_4 x_5 x_6 x_7 x_8_a x_8_l x_8_c x_9 x_10 x_11 x_12 w fun v w' => R (.returned v) w') : Calls Try.prog N_sender_Tick #[(.agg #[.int .i64 x_0, .int .i64 x_1, .int .i64 x_2, .int .i64 x_3, .int .i64 x_4, .int .i64 x_5, .int .i64 x_6, .int .i64 x_7, .slice x_8_a x_8_l x_8_c, .int .i64 x_9, .int .i64 x_10, .int .i64 x_11, .bool x_12])] w R :=
  calls_of (f := 39) follows_ok Try.func39 (Eq.mpr (F_sender_Tick_eq x_0 x_1 x_2 x_3 x_4 x_5 x_6 x_7 x_8_a x_8_l x_8_c x_9 x_10 x_11 x_12 w _) h)

def h_sender_Valid : H := (.seq .reg (.seq .reg (.seq (.cut [(51, .p .bool)] [7, 8, 9, 10, 11, 12, 13, 14, 15, 16, 17, 18, 19, 20, 21, 22, 23, 24, 25, 26, 27, 28, 29, 30, 31, 32, 33, 34, 35, 36, 37, 38, 39, 40, 41, 42, 43, 44, 45, 46, 47, 48, 49, 50, 51] (.draw .blk (.one 0 .pre (.one 1 .pre (.one 2 .keep (.one 3 .stable (.one 4 .stable (.one 5 .stable (.one 6 .stable (.one 7 .stable (.one 8 .keep (.one 9 .stable (.one 10 .stable (.one 11 .stable (.one 12 .stable (.one 13 .stable (.one 14 .stable (.one 15 .keep (.one 16 .stable (.one 17 .stable (.one 18 .stable (.one 19 .stable (.one 20 .stable (.one 21 .stable (.one 23 .stable (.one 24 .stable (.one 25 .stable (.one 26 .stable (.one 27 .stable (.one 22 .keep (.one 28 .stable (.one 29 .stable (.one 30 .stable (.one 31 .stable (.one 32 .keep (.one 33 .stable (.one 34 .stable (.one 35 .stable (.one 36 .stable (.one 37 .stable (.one 38 .stable (.one 39 .stable (.one 40 .stable (.one 41 .stable (.one 42 .keep (.one 43 .stable (.one 44 .stable .nil)))))))))))))))))))))))))))))))))))))))))))))) (.cond (.seq .reg .leaf) .leaf)) (.seq (.seq .reg (.cond (.seq .reg .leaf) .leaf)) (.seq .reg .leaf)))))
def F_sender_Valid (x_0 : Int) (x_1 : Int) (x_2 : Int) (x_3 : Int) (x_4 : Int) (x_5 : Int) (x_6 : Int) (x_7 : Int) (x_8_a : Option Addr) (x_8_l : Nat) (x_8_c : Nat) (x_9 : Int) (x_10 : Int) (x_11 : Int) (x_12 : Bool) (w : World) (R : Value → World → Prop) : Prop :=
  (kAlloc w #[(.int .i64 x_0), (.int .i64 x_1), (.int .i64 x_2), (.int .i64 x_3), (.int .i64 x_4), (.int .i64 x_5), (.int .i64 x_6), (.int .i64 x_7), (.slice x_8_a x_8_l x_8_c), (.int .i64 x_9), (.int .i64 x_10), (.int .i64 x_11), (.bool x_12)] Ty_api_Sender fun b w1 =>
  (∃ x_01 x_13 x_21 x_31 x_41 x_51 x_61 x_71 : Int, ∃ x_8_a1 : Option Addr, ∃ x_8_l1 x_8_c1 : Nat, ∃ x_91 x_101 x_111 : Int, ∃ x_121 : Bool, cellsAt w1 ⟨b, 0, none⟩ 0 [(.int .i64 x_01), (.int .i64 x_13), (.int .i64 x_21), (.int .i64 x_31), (.int .i64 x_41), (.int .i64 x_51), (.int .i64 x_61), (.int .i64 x_71), (.slice x_8_a1 x_8_l1 x_8_c1), (.int .i64 x_91), (.int .i64 x_101), (.int .i64 x_111), (.bool x_121)] ∧
  (kAlloc w1 #[(.int .i64 x_01), (.int .i64 x_13), (.int .i64 x_21), (.int .i64 x_31), (.int .i64 x_41), (.int .i64 x_51), (.int .i64 x_61), (.int .i64 x_71), (.slice x_8_a1 x_8_l1 x_8_c1), (.int .i64 x_91), (.int .i64 x_101), (.int .i64 x_111), (.bool x_121)] Ty_sender_side fun b1 w2 =>
  (∃ J : Bool → World → Prop,
  (∀ (_junk : Env) (x9 : Bool) (w10 : World), J x9 w10 →
    (bsplit x9
      (R (.bool false) w10)
      ((kLd w10 ⟨b, 10, none⟩ .i64 fun x10 =>
      (bsplit (decide (x10 = (-1 : Int)))
        ((kLd w10 ⟨b, 11, none⟩ .i64 fun x11 =>
        (kLet (decide (x11 = (0 : Int))) fun x12 =>
        R (.bool x12) w10)))
        ((Calls Try.prog N_sender_side_asked #[(.pointer (some ⟨b1, 0, none⟩))] w10 fun e_6 w11 =>
        ∃ r6 : Bool, e_6 = .returned (.bool r6) ∧
        (bsplit r6
          ((kLd w11 ⟨b, 11, none⟩ .i64 fun x13 =>
          (kLd w11 ⟨b, 2, none⟩ .i64 fun x14 =>
          (Calls Try.prog N_sender_between #[(.int .i64 x13), (.int .i64 (1 : Int)), (.int .i64 x14)] w11 fun e_7 w12 =>
          ∃ r7 : Bool, e_7 = .returned (.bool r7) ∧
          R (.bool r7) w12))))
          (R (.bool false) w11))))))))) ∧
  (kDrew w2 fun w3 =>
  (∃ S : Nat → Prop,
  (∃ x_02 x_14 x_22 x_32 x_42 x_52 : Int, cellsAt w3 ⟨b, 0, none⟩ 0 [(.int .i64 x_02), (.int .i64 x_14), (.int .i64 x_22), (.int .i64 x_32), (.int .i64 x_42), (.int .i64 x_52)] ∧
  (Calls Try.prog N_sender_ValidLink #[(.agg #[.int .i64 x_02, .int .i64 x_14, .int .i64 x_22, .int .i64 x_32, .int .i64 x_42, .int .i64 x_52])] w3 fun e_ w4 =>
  ∃ r : Bool, e_ = .returned (.bool r) ∧
  (KeepsB S w3 w4 ∧ (bsplit (!r)
    (J true w4)
    ((S b ∧
    (kLd w3 ⟨b, 6, none⟩ .i64 fun x =>
    (Calls Try.prog N_sender_side_number #[(.pointer (some ⟨b1, 0, none⟩)), (.int .i64 x)] w4 fun e_1 w5 =>
    ∃ r1 : Bool, e_1 = .returned (.bool r1) ∧
    (KeepsB S w3 w5 ∧ (bsplit (!r1)
      (J true w5)
      ((S b ∧
      (kLd w3 ⟨b, 7, none⟩ .i64 fun x1 =>
      (Calls Try.prog N_sender_side_number #[(.pointer (some ⟨b1, 0, none⟩)), (.int .i64 x1)] w5 fun e_2 w6 =>
      ∃ r2 : Bool, e_2 = .returned (.bool r2) ∧
      (KeepsB S w3 w6 ∧ (bsplit (!r2)
        (J true w6)
        ((S b ∧
        (kLd w3 ⟨b, 7, none⟩ .i64 fun x2 =>
        (S b ∧
        (kLd w3 ⟨b, 0, none⟩ .i64 fun x3 =>
        (kW .i64 (x3 - (1 : Int)) fun x4 =>
        (0 ≤ x4 ∧ (kW .i64 ((1 : Int) * 2 ^ (min x4.toNat (IntKind.bits .i64))) fun x5 =>
        (Calls Try.prog N_sender_side_place #[(.pointer (some ⟨b1, 0, none⟩)), (.int .i64 x2)] w6 fun e_3 w7 =>
        ∃ r3 : Int, e_3 = .returned (.int .i64 r3) ∧
        (KeepsB S w3 w7 ∧ (bsplit (decide (r3 > x5))
          (J true w7)
          ((Calls Try.prog N_sender_side_units #[(.pointer (some ⟨b1, 0, none⟩))] w7 fun e_4 w8 =>
          ∃ r4 : Bool, e_4 = .returned (.bool r4) ∧
          (KeepsB S w3 w8 ∧ (bsplit (!r4)
            (J true w8)
            ((S b ∧
            (kLd w3 ⟨b, 9, none⟩ .i64 fun x6 =>
            (S b ∧
            (kLd w3 ⟨b, 1, none⟩ .i64 fun x7 =>
            (kW .i64 (x7 - (1 : Int)) fun x8 =>
            (Calls Try.prog N_sender_between #[(.int .i64 x6), (.int .i64 (0 : Int)), (.int .i64 x8)] w8 fun e_5 w9 =>
            ∃ r5 : Bool, e_5 = .returned (.bool r5) ∧
            (KeepsB S w3 w9 ∧ J (!r5) w9)))))))))))))))))))))))))))))))))))))))))))))
theorem F_sender_Valid_eq (x_0 : Int) (x_1 : Int) (x_2 : Int) (x_3 : Int) (x_4 : Int) (x_5 : Int) (x_6 : Int) (x_7 : Int) (x_8_a : Option Addr) (x_8_l : Nat) (x_8_c : Nat) (x_9 : Int) (x_10 : Int) (x_11 : Int) (x_12 : Bool) (w : World) (R : Value → World → Prop) : sxFn Try.prog TT h_sender_Valid Try.f40 #[(.agg #[.int .i64 x_0, .int .i64 x_1, .int .i64 x_2, .int .i64 x_3, .int .i64 x_4, .int .i64 x_5, .int .i64 x_6, .int .i64 x_7, .slice x_8_a x_8_l x_8_c, .int .i64 x_9, .int .i64 x_10, .int .i64 x_11, .bool x_12])] w R = F_sender_Valid x_0 x_1 x_2 x_3 x_4 x_5 x_6 x_7 x_8_a x_8_l x_8_c x_9 x_10 x_11 x_12 w R := by kernel_rfl
theorem F_sender_Valid_ok {R : Ending → World → Prop} (x_0 : Int) (x_1 : Int) (x_2 : Int) (x_3 : Int) (x_4 : Int) (x_5 : Int) (x_6 : Int) (x_7 : Int) (x_8_a : Option Addr) (x_8_l : Nat) (x_8_c : Nat) (x_9 : Int) (x_10 : Int) (x_11 : Int) (x_12 : Bool) (w : World) (h : F_sender_Valid x_0 x_1 x_2 x_3 x_4 x_5 x_6 x_7 x_8_a x_8_l x_8_c x_9 x_10 x_11 x_12 w fun v w' => R (.returned v) w') : Calls Try.prog N_sender_Valid #[(.agg #[.int .i64 x_0, .int .i64 x_1, .int .i64 x_2, .int .i64 x_3, .int .i64 x_4, .int .i64 x_5, .int .i64 x_6, .int .i64 x_7, .slice x_8_a x_8_l x_8_c, .int .i64 x_9, .int .i64 x_10, .int .i64 x_11, .bool x_12])] w R :=
  calls_of (f := 40) follows_ok Try.func40 (Eq.mpr (F_sender_Valid_eq x_0 x_1 x_2 x_3 x_4 x_5 x_6 x_7 x_8_a x_8_l x_8_c x_9 x_10 x_11 x_12 w _) h)

def h_law20_link : H := (.seq .reg (.seq .reg .leaf))
def F_law20_link  (w : World) (R : Value → World → Prop) : Prop :=
  (kAlloc w #[.int .i64 (0 : Int), .int .i64 (0 : Int), .int .i64 (0 : Int), .int .i64 (0 : Int), .int .i64 (0 : Int), .int .i64 (0 : Int)] Ty_api_Link fun b w1 =>
  (sxStore w1 ⟨b, 0, none⟩ 0 [(.int .i64 (5 : Int)), (.int .i64 (4 : Int)), (.int .i64 (3 : Int)), (.int .i64 (3 : Int)), (.int .i64 (0 : Int)), (.int .i64 (4 : Int))] fun w2 =>
  (∃ r_0 r_1 r_2 r_3 r_4 r_5 : Int, cellsAt w2 ⟨b, 0, none⟩ 0 [(.int .i64 r_0), (.int .i64 r_1), (.int .i64 r_2), (.int .i64 r_3), (.int .i64 r_4), (.int .i64 r_5)] ∧
  R (.agg #[.int .i64 r_0, .int .i64 r_1, .int .i64 r_2, .int .i64 r_3, .int .i64 r_4, .int .i64 r_5]) w2)))
theorem F_law20_link_eq  (w : World) (R : Value → World → Prop) : sxFn Try.prog TT h_law20_link Try.f41 #[] w R = F_law20_link  w R := by kernel_rfl
theorem F_law20_link_ok {R : Ending → World → Prop}  (w : World) (h : F_law20_link  w fun v w' => R (.returned v) w') : Calls Try.prog N_law20_link #[] w R :=
  calls_of (f := 41) follows_ok Try.func41 (Eq.mpr (F_law20_link_eq  w _) h)

def h_made_Dice_Bits : H := (.seq .reg (.seq .reg .leaf))
def F_made_Dice_Bits (d_b : Nat) (d_o : Nat) (w : World) (R : Value → World → Prop) : Prop :=
  (kAlloc w #[(.int .i64 (5 : Int)), (.int .i64 (5 : Int)), (.int .i64 (6 : Int)), (.int .i64 (9 : Int))] Ty_int fun b w1 =>
  (Calls Try.prog N_made_Dice_Next #[(.pointer (some ⟨d_b, d_o, none⟩)), (.int .i64 (4 : Int))] w1 fun e_ w2 =>
  ∃ r : Int, e_ = .returned (.int .i64 r) ∧
  (kIx (some ⟨b, 0, none⟩) 4 r fun b1 =>
  (kLd w2 (b1.add (r.toNat * 1)) .i64 fun x =>
  R (.int .i64 x) w2))))
theorem F_made_Dice_Bits_eq (d_b : Nat) (d_o : Nat) (w : World) (R : Value → World → Prop) : sxFn Try.prog TT h_made_Dice_Bits Try.f42 #[(.pointer (some ⟨d_b, d_o, none⟩))] w R = F_made_Dice_Bits d_b d_o w R := by kernel_rfl
theorem F_made_Dice_Bits_ok {R : Ending → World → Prop} (d_b : Nat) (d_o : Nat) (w : World) (h : F_made_Dice_Bits d_b d_o w fun v w' => R (.returned v) w') : Calls Try.prog N_made_Dice_Bits #[(.pointer (some ⟨d_b, d_o, none⟩))] w R :=
  calls_of (f := 42) follows_ok Try.func42 (Eq.mpr (F_made_Dice_Bits_eq d_b d_o w _) h)

def h_made_Mod : H := (.seq .reg (.seq (.seq .reg (.cond (.seq .reg .leaf) .leaf)) (.seq .reg (.seq (.seq .reg (.cond .reg .leaf)) (.seq .reg .leaf)))))
def F_made_Mod (n : Int) (m : Int) (w : World) (R : Value → World → Prop) : Prop :=
  (bsplit (decide (m < (1 : Int)))
    (R (.int .i64 (0 : Int)) w)
    ((m ≠ 0 ∧ (kLet (Int.tmod n m) fun x =>
    (bsplit (decide (x < (0 : Int)))
      ((kW .i64 (x + m) fun x1 =>
      R (.int .i64 x1) w))
      (R (.int .i64 x) w))))))
theorem F_made_Mod_eq (n : Int) (m : Int) (w : World) (R : Value → World → Prop) : sxFn Try.prog TT h_made_Mod Try.f43 #[(.int .i64 n), (.int .i64 m)] w R = F_made_Mod n m w R := by kernel_rfl
theorem F_made_Mod_ok {R : Ending → World → Prop} (n : Int) (m : Int) (w : World) (h : F_made_Mod n m w fun v w' => R (.returned v) w') : Calls Try.prog N_made_Mod #[(.int .i64 n), (.int .i64 m)] w R :=
  calls_of (f := 43) follows_ok Try.func43 (Eq.mpr (F_made_Mod_eq n m w _) h)

def h_sender_begin : H := (.seq .reg (.seq (.block (.seq .reg (.cond (.seq .reg .leaf) (.seq .reg (.cond (.seq .reg .leaf) .leaf))))) (.seq .reg (.seq (.seq .reg (.block (.loop [(20, .p (.int .i64))] [4, 5, 20, 21, 22, 23, 24, 25, 26, 27, 28, 29, 30, 31, 32, 33, 34, 35, 36, 37, 38, 39, 40, 41, 42, 43] (.seq .reg (.seq (.cond .leaf .leaf) (.seq (.block (.seq .reg (.seq .reg (.draw .cel (.one 0 .stable (.one 1 .stable (.one 2 .pre (.one 3 .pre (.one 4 .pre (.one 5 .pre (.one 7 .stable (.one 8 .stable (.one 9 .stable (.one 10 .stable (.one 6 .keep (.one 11 .keep (.one 12 .stable (.one 13 .stable (.one 14 .keep (.one 15 .stable (.one 16 .stable (.one 17 .last .nil)))))))))))))))))))))) .reg)))))) (.seq .reg .leaf)))))
def F_sender_begin (x_0 : Int) (x_1 : Int) (x_2 : Int) (x_3 : Int) (x_4 : Int) (x_5 : Int) (x_6 : Int) (x_7 : Int) (x_8_a : Option Addr) (x_8_l : Nat) (x_8_c : Nat) (x_9 : Int) (x_10 : Int) (x_11 : Int) (x_12 : Bool) (w : World) (R : Value → World → Prop) : Prop :=
  (kAlloc w #[(.int .i64 x_0), (.int .i64 x_1), (.int .i64 x_2), (.int .i64 x_3), (.int .i64 x_4), (.int .i64 x_5), (.int .i64 x_6), (.int .i64 x_7), (.slice x_8_a x_8_l x_8_c), (.int .i64 x_9), (.int .i64 x_10), (.int .i64 x_11), (.bool x_12)] Ty_api_Sender fun b w1 =>
  (∃ x_01 x_13 x_21 x_31 x_41 x_51 x_61 x_71 : Int, ∃ x_8_a1 : Option Addr, ∃ x_8_l1 x_8_c1 : Nat, ∃ x_91 x_101 x_111 : Int, ∃ x_121 : Bool, cellsAt w1 ⟨b, 0, none⟩ 0 [(.int .i64 x_01), (.int .i64 x_13), (.int .i64 x_21), (.int .i64 x_31), (.int .i64 x_41), (.int .i64 x_51), (.int .i64 x_61), (.int .i64 x_71), (.slice x_8_a1 x_8_l1 x_8_c1), (.int .i64 x_91), (.int .i64 x_101), (.int .i64 x_111), (.bool x_121)] ∧
  (Calls Try.prog N_sender_Valid #[(.agg #[.int .i64 x_01, .int .i64 x_13, .int .i64 x_21, .int .i64 x_31, .int .i64 x_41, .int .i64 x_51, .int .i64 x_61, .int .i64 x_71, .slice x_8_a1 x_8_l1 x_8_c1, .int .i64 x_91, .int .i64 x_101, .int .i64 x_111, .bool x_121])] w1 fun e_ w2 =>
  ∃ r : Bool, e_ = .returned (.bool r) ∧
  (bsplit (!r)
    (R (.tuple #[(.pointer none), (.int .i64 (1 : Int))]) w2)
    ((kLdB w2 ⟨b, 12, none⟩ fun x =>
    (bsplit x
      (R (.tuple #[(.pointer none), (.int .i64 (16 : Int))]) w2)
      ((kLdS w2 ⟨b, 8, none⟩ fun x_a x_l x_c =>
      (Calls Try.prog N_slices_Clone_Sapi_Unit_api_Unit #[(.slice x_a x_l x_c)] w2 fun e_1 w3 =>
      ∃ r_a : Option Addr, ∃ r_l r_c : Nat, e_1 = .returned (.slice r_a r_l r_c) ∧
      (kSet w3 ⟨b, 8, none⟩ (.slice r_a r_l r_c) fun w4 =>
      (kLdS w4 ⟨b, 8, none⟩ fun _ x_l1 _ =>
      (∃ I : Int → Nat × (World → Prop), (I (0 : Int)).2 w4 ∧
      (∀ (_junk : Env) (x1 : Int) (w5 : World), (I x1).2 w5 →
        (bsplit (decide (x1 < (x_l1 : Int)))
          ((kLdS w5 ⟨b, 8, none⟩ fun x_a2 x_l2 _ =>
          (kIx x_a2 x_l2 x1 fun b1 =>
          (kDrew w5 fun w6 =>
          (∃ S : Addr → Prop,
          (kLdS w6 ((b1.add (x1.toNat * 5)).add 1) fun x_a3 x_l3 x_c3 =>
          (S ((b1.add (x1.toNat * 5)).add 4) ∧
          (kLdS w6 ((b1.add (x1.toNat * 5)).add 4) fun x_a4 x_l4 x_c4 =>
          (Calls Try.prog N_slices_Clone_Sbyte_byte #[(.slice x_a3 x_l3 x_c3)] w6 fun e_2 w7 =>
          ∃ r_a1 : Option Addr, ∃ r_l1 r_c1 : Nat, e_2 = .returned (.slice r_a1 r_l1 r_c1) ∧
          (KeepsA S w6 w7 ∧ (Calls Try.prog N_slices_Clone_Sapi_Range_api_Range #[(.slice x_a4 x_l4 x_c4)] w7 fun e_3 w8 =>
          ∃ r_a2 : Option Addr, ∃ r_l2 r_c2 : Nat, e_3 = .returned (.slice r_a2 r_l2 r_c2) ∧
          (KeepsA S w6 w8 ∧ (kSet w8 ((b1.add (x1.toNat * 5)).add 1) (.slice r_a1 r_l1 r_c1) fun w9 =>
          (KeepsA S w6 w9 ∧ (kSet w9 ((b1.add (x1.toNat * 5)).add 4) (.slice r_a2 r_l2 r_c2) fun w10 =>
          (kW .i64 (x1 + (1 : Int)) fun x2 =>
          ((I x2).2 w10 ∧ (I x2).1 < (I x1).1)))))))))))))))))
          ((∃ x_02 x_14 x_22 x_32 x_42 x_52 x_62 x_72 : Int, ∃ x_8_a2 : Option Addr, ∃ x_8_l2 x_8_c2 : Nat, ∃ x_92 x_102 x_112 : Int, ∃ x_122 : Bool, cellsAt w5 ⟨b, 0, none⟩ 0 [(.int .i64 x_02), (.int .i64 x_14), (.int .i64 x_22), (.int .i64 x_32), (.int .i64 x_42), (.int .i64 x_52), (.int .i64 x_62), (.int .i64 x_72), (.slice x_8_a2 x_8_l2 x_8_c2), (.int .i64 x_92), (.int .i64 x_102), (.int .i64 x_112), (.bool x_122)] ∧
          (kAlloc w5 #[(.int .i64 x_02), (.int .i64 x_14), (.int .i64 x_22), (.int .i64 x_32), (.int .i64 x_42), (.int .i64 x_52), (.int .i64 x_62), (.int .i64 x_72), (.slice x_8_a2 x_8_l2 x_8_c2), (.int .i64 x_92), (.int .i64 x_102), (.int .i64 x_112), (.bool x_122)] Ty_sender_side fun b2 w11 =>
          R (.tuple #[(.pointer (some ⟨b2, 0, none⟩)), (.int .i64 (0 : Int))]) w11))))))))))))))))))
theorem F_sender_begin_eq (x_0 : Int) (x_1 : Int) (x_2 : Int) (x_3 : Int) (x_4 : Int) (x_5 : Int) (x_6 : Int) (x_7 : Int) (x_8_a : Option Addr) (x_8_l : Nat) (x_8_c : Nat) (x_9 : Int) (x_10 : Int) (x_11 : Int) (x_12 : Bool) (w : World) (R : Value → World → Prop) : sxFn Try.prog TT h_sender_begin Try.f44 #[(.agg #[.int .i64 x_0, .int .i64 x_1, .int .i64 x_2, .int .i64 x_3, .int .i64 x_4, .int .i64 x_5, .int .i64 x_6, .int .i64 x_7, .slice x_8_a x_8_l x_8_c, .int .i64 x_9, .int .i64 x_10, .int .i64 x_11, .bool x_12])] w R = F_sender_begin x_0 x_1 x_2 x_3 x_4 x_5 x_6 x_7 x_8_a x_8_l x_8_c x_9 x_10 x_11 x_12 w R := by kernel_rfl
theorem F_sender_begin_ok {R : Ending → World → Prop} (x_0 : Int) (x_1 : Int) (x_2 : Int) (x_3 : Int) (x_4 : Int) (x_5 : Int) (x_6 : Int) (x_7 : Int) (x_8_a : Option Addr) (x_8_l : Nat) (x_8_c : Nat) (x_9 : Int) (x_10 : Int) (x_11 : Int) (x_12 : Bool) (w : World) (h : F_sender_begin x_0 x_1 x_2 x_3 x_4 x_5 x_6 x_7 x_8_a x_8_l x_8_c x_9 x_10 x_11 x_12 w fun v w' => R (.returned v) w') : Calls Try.prog N_sender_begin #[(.agg #[.int .i64 x_0, .int .i64 x_1, .int .i64 x_2, .int .i64 x_3, .int .i64 x_4, .int .i64 x_5, .int .i64 x_6, .int .i64 x_7, .slice x_8_a x_8_l x_8_c, .int .i64 x_9, .int .i64 x_10, .int .i64 x_11, .bool x_12])] w R :=
  calls_of (f := 44) follows_ok Try.func44 (Eq.mpr (F_sender_begin_eq x_0 x_1 x_2 x_3 x_4 x_5 x_6 x_7 x_8_a x_8_l x_8_c x_9 x_10 x_11 x_12 w _) h)

def h_sender_between : H := (.seq .reg (.seq .reg .leaf))
def F_sender_between (x : Int) (least : Int) (most : Int) (w : World) (R : Value → World → Prop) : Prop :=
  (bsplit (decide (x ≥ least))
    ((kLet (decide (x ≤ most)) fun x1 =>
    R (.bool x1) w))
    (R (.bool false) w))
theorem F_sender_between_eq (x : Int) (least : Int) (most : Int) (w : World) (R : Value → World → Prop) : sxFn Try.prog TT h_sender_between Try.f45 #[(.int .i64 x), (.int .i64 least), (.int .i64 most)] w R = F_sender_between x least most w R := by kernel_rfl
theorem F_sender_between_ok {R : Ending → World → Prop} (x : Int) (least : Int) (most : Int) (w : World) (h : F_sender_between x least most w fun v w' => R (.returned v) w') : Calls Try.prog N_sender_between #[(.int .i64 x), (.int .i64 least), (.int .i64 most)] w R :=
  calls_of (f := 45) follows_ok Try.func45 (Eq.mpr (F_sender_between_eq x least most w _) h)

def h_sender_side_place : H := (.seq .reg (.seq (.draw .blk (.one 0 .pre (.one 1 .pre (.one 2 .pre (.one 3 .pre (.one 4 .pre (.one 5 .pre (.one 6 .pre (.one 7 .pre (.one 8 .pre (.one 9 .pre (.one 10 .pre (.one 11 .pre (.one 12 .keep (.one 13 .stable .nil))))))))))))))) .leaf))
def F_sender_side_place (s_b : Nat) (s_o : Nat) (n : Int) (w : World) (R : Value → World → Prop) : Prop :=
  (kDrew w fun w1 =>
  (∃ S : Nat → Prop,
  (kLd w1 ⟨s_b, s_o, none⟩ .i64 fun x =>
  (kLd w1 ⟨s_b, s_o + 6, none⟩ .i64 fun x1 =>
  (Calls Try.prog N_serial_Distance #[(.int .i64 x), (.int .i64 x1), (.int .i64 n)] w1 fun e_ w2 =>
  ∃ r : Int, e_ = .returned (.int .i64 r) ∧
  (KeepsB S w1 w2 ∧ R (.int .i64 r) w2))))))
theorem F_sender_side_place_eq (s_b : Nat) (s_o : Nat) (n : Int) (w : World) (R : Value → World → Prop) : sxFn Try.prog TT h_sender_side_place Try.f46 #[(.pointer (some ⟨s_b, s_o, none⟩)), (.int .i64 n)] w R = F_sender_side_place s_b s_o n w R := by kernel_rfl
theorem F_sender_side_place_ok {R : Ending → World → Prop} (s_b : Nat) (s_o : Nat) (n : Int) (w : World) (h : F_sender_side_place s_b s_o n w fun v w' => R (.returned v) w') : Calls Try.prog N_sender_side_place #[(.pointer (some ⟨s_b, s_o, none⟩)), (.int .i64 n)] w R :=
  calls_of (f := 46) follows_ok Try.func46 (Eq.mpr (F_sender_side_place_eq s_b s_o n w _) h)

def h_slices_Clone_Sbyte_byte : H := (.seq .reg (.seq (.seq .reg (.cond (.seq .reg .leaf) .leaf)) (.seq .reg .leaf)))
def F_slices_Clone_Sbyte_byte (s_a : Option Addr) (s_l : Nat) (s_c : Nat) (w : World) (R : Value → World → Prop) : Prop :=
  (bsplit s_a.isNone
    (R (.slice none 0 0) w)
    ((kAlloc w #[] Ty_uint8 fun b w1 =>
    (AppP Try.prog #[Ty_S_uint8, Ty_S_uint8] Ty_S_uint8 #[(.slice (some ⟨b, 0, none⟩) 0 0), (.slice s_a s_l s_c)] w1 fun x_a x_l x_c w2 =>
    R (.slice x_a x_l x_c) w2))))
theorem F_slices_Clone_Sbyte_byte_eq (s_a : Option Addr) (s_l : Nat) (s_c : Nat) (w : World) (R : Value → World → Prop) : sxFn Try.prog TT h_slices_Clone_Sbyte_byte Try.f47 #[(.slice s_a s_l s_c)] w R = F_slices_Clone_Sbyte_byte s_a s_l s_c w R := by kernel_rfl
theorem F_slices_Clone_Sbyte_byte_ok {R : Ending → World → Prop} (s_a : Option Addr) (s_l : Nat) (s_c : Nat) (w : World) (h : F_slices_Clone_Sbyte_byte s_a s_l s_c w fun v w' => R (.returned v) w') : Calls Try.prog N_slices_Clone_Sbyte_byte #[(.slice s_a s_l s_c)] w R :=
  calls_of (f := 47) follows_ok Try.func47 (Eq.mpr (F_slices_Clone_Sbyte_byte_eq s_a s_l s_c w _) h)

def h_serial_Low : H := (.seq .reg (.seq (.seq .reg (.cond (.seq .reg .leaf) .leaf)) (.seq .reg .leaf)))
def F_serial_Low (n : Int) (x : Int) (w : World) (R : Value → World → Prop) : Prop :=
  (Calls Try.prog N_serial_valid #[(.int .i64 n)] w fun e_ w1 =>
  ∃ r : Bool, e_ = .returned (.bool r) ∧
  (bsplit (!r)
    (R (.int .i64 (-1 : Int)) w1)
    ((0 ≤ n ∧ (kW .i64 ((1 : Int) * 2 ^ (min n.toNat (IntKind.bits .i64))) fun x1 =>
    (kW .i64 (x1 - (1 : Int)) fun x2 =>
    (kLet (bAnd .i64 x x2) fun x3 =>
    R (.int .i64 x3) w1)))))))
theorem F_serial_Low_eq (n : Int) (x : Int) (w : World) (R : Value → World → Prop) : sxFn Try.prog TT h_serial_Low Try.f48 #[(.int .i64 n), (.int .i64 x)] w R = F_serial_Low n x w R := by kernel_rfl
theorem F_serial_Low_ok {R : Ending → World → Prop} (n : Int) (x : Int) (w : World) (h : F_serial_Low n x w fun v w' => R (.returned v) w') : Calls Try.prog N_serial_Low #[(.int .i64 n), (.int .i64 x)] w R :=
  calls_of (f := 48) follows_ok Try.func48 (Eq.mpr (F_serial_Low_eq n x w _) h)

def h_sender_side_left : H := (.seq .reg (.seq (.seq .reg (.seq .reg (.cond (.seq .reg .leaf) .leaf))) (.seq .reg .leaf)))
def F_sender_side_left (s_b : Nat) (s_o : Nat) (w : World) (R : Value → World → Prop) : Prop :=
  (kLdS w ⟨s_b, s_o + 8, none⟩ fun x_a x_l x_c =>
  (Calls Try.prog N_slices_IndexFunc_Sapi_Unit_api_Unit #[(.slice x_a x_l x_c), (.func (.func N_sender_side_left_1) #[] #[])] w fun e_ w1 =>
  ∃ r : Int, e_ = .returned (.int .i64 r) ∧
  (bsplit (decide (r ≥ (0 : Int)))
    (R (.int .i64 r) w1)
    ((kLdS w1 ⟨s_b, s_o + 8, none⟩ fun x_a1 x_l1 x_c1 =>
    (Calls Try.prog N_slices_IndexFunc_Sapi_Unit_api_Unit #[(.slice x_a1 x_l1 x_c1), (.func (.func N_sender_side_left_2) #[] #[])] w1 fun e_1 w2 =>
    ∃ r1 : Int, e_1 = .returned (.int .i64 r1) ∧
    R (.int .i64 r1) w2))))))
theorem F_sender_side_left_eq (s_b : Nat) (s_o : Nat) (w : World) (R : Value → World → Prop) : sxFn Try.prog TT h_sender_side_left Try.f49 #[(.pointer (some ⟨s_b, s_o, none⟩))] w R = F_sender_side_left s_b s_o w R := by kernel_rfl
theorem F_sender_side_left_ok {R : Ending → World → Prop} (s_b : Nat) (s_o : Nat) (w : World) (h : F_sender_side_left s_b s_o w fun v w' => R (.returned v) w') : Calls Try.prog N_sender_side_left #[(.pointer (some ⟨s_b, s_o, none⟩))] w R :=
  calls_of (f := 49) follows_ok Try.func49 (Eq.mpr (F_sender_side_left_eq s_b s_o w _) h)

def h_sender_part : H := (.seq .reg (.seq (.seq .reg (.cond (.seq .reg .leaf) .leaf)) (.seq .reg .leaf)))
def F_sender_part (u_0 : Int) (u_1_a : Option Addr) (u_1_l : Nat) (u_1_c : Nat) (u_2 : Int) (u_3 : Int) (u_4_a : Option Addr) (u_4_l : Nat) (u_4_c : Nat) (w : World) (R : Value → World → Prop) : Prop :=
  (kAlloc w #[(.int .i64 u_0), (.slice u_1_a u_1_l u_1_c), (.int .i64 u_2), (.int .i64 u_3), (.slice u_4_a u_4_l u_4_c)] Ty_api_Unit fun b w1 =>
  (kAlloc w1 #[.int .i64 (0 : Int), .int .i64 (0 : Int), .int .i64 (0 : Int)] Ty_api_Range fun b1 w2 =>
  (kLdS w2 ⟨b, 4, none⟩ fun _ x_l _ =>
  (bsplit (decide ((x_l : Int) > (0 : Int)))
    ((kLdS w2 ⟨b, 4, none⟩ fun x_a1 x_l1 _ =>
    (kIx x_a1 x_l1 (0 : Int) fun b2 =>
    (∃ x_0 x_1 x_2 : Int, cellsAt w2 (b2.add ((0 : Int).toNat * 3)) 0 [(.int .i64 x_0), (.int .i64 x_1), (.int .i64 x_2)] ∧
    (sxStore w2 ⟨b1, 0, none⟩ 0 [(.int .i64 x_0), (.int .i64 x_1), (.int .i64 x_2)] fun w3 =>
    (∃ r_0 r_1 r_2 : Int, cellsAt w3 ⟨b1, 0, none⟩ 0 [(.int .i64 r_0), (.int .i64 r_1), (.int .i64 r_2)] ∧
    R (.agg #[.int .i64 r_0, .int .i64 r_1, .int .i64 r_2]) w3))))))
    ((kLd w2 ⟨b, 0, none⟩ .i64 fun x =>
    (kLd w2 ⟨b, 2, none⟩ .i64 fun x1 =>
    (kLdS w2 ⟨b, 1, none⟩ fun _ x_l2 _ =>
    (sxStore w2 ⟨b1, 0, none⟩ 0 [(.int .i64 x), (.int .i64 x1), (.int .i64 (x_l2 : Int))] fun w4 =>
    (∃ r_01 r_11 r_21 : Int, cellsAt w4 ⟨b1, 0, none⟩ 0 [(.int .i64 r_01), (.int .i64 r_11), (.int .i64 r_21)] ∧
    R (.agg #[.int .i64 r_01, .int .i64 r_11, .int .i64 r_21]) w4))))))))))
theorem F_sender_part_eq (u_0 : Int) (u_1_a : Option Addr) (u_1_l : Nat) (u_1_c : Nat) (u_2 : Int) (u_3 : Int) (u_4_a : Option Addr) (u_4_l : Nat) (u_4_c : Nat) (w : World) (R : Value → World → Prop) : sxFn Try.prog TT h_sender_part Try.f50 #[(.agg #[.int .i64 u_0, .slice u_1_a u_1_l u_1_c, .int .i64 u_2, .int .i64 u_3, .slice u_4_a u_4_l u_4_c])] w R = F_sender_part u_0 u_1_a u_1_l u_1_c u_2 u_3 u_4_a u_4_l u_4_c w R := by kernel_rfl
theorem F_sender_part_ok {R : Ending → World → Prop} (u_0 : Int) (u_1_a : Option Addr) (u_1_l : Nat) (u_1_c : Nat) (u_2 : Int) (u_3 : Int) (u_4_a : Option Addr) (u_4_l : Nat) (u_4_c : Nat) (w : World) (h : F_sender_part u_0 u_1_a u_1_l u_1_c u_2 u_3 u_4_a u_4_l u_4_c w fun v w' => R (.returned v) w') : Calls Try.prog N_sender_part #[(.agg #[.int .i64 u_0, .slice u_1_a u_1_l u_1_c, .int .i64 u_2, .int .i64 u_3, .slice u_4_a u_4_l u_4_c])] w R :=
  calls_of (f := 50) follows_ok Try.func50 (Eq.mpr (F_sender_part_eq u_0 u_1_a u_1_l u_1_c u_2 u_3 u_4_a u_4_l u_4_c w _) h)

def h_segment_Part : H := (.seq .reg (.seq (.block (.cut [(5, .p .bool)] [5, 6, 7, 8, 9] .reg (.cond (.seq .reg .leaf) (.seq .reg (.cond (.seq .reg .leaf) (.seq .reg (.cond (.seq .reg .leaf) .leaf))))))) (.seq .reg .leaf)))
def F_segment_Part (first : Bool) (last : Bool) (w : World) (R : Value → World → Prop) : Prop :=
  (∃ J : Bool → World → Prop,
  (∀ (_junk : Env) (x : Bool) (w1 : World), J x w1 →
    (bsplit x
      (R (.int .i64 (0 : Int)) w1)
      ((bsplit first
        (R (.int .i64 (1 : Int)) w1)
        ((bsplit last
          (R (.int .i64 (2 : Int)) w1)
          (R (.int .i64 (3 : Int)) w1))))))) ∧
  (bsplit first
    (J last w)
    (J false w)))
theorem F_segment_Part_eq (first : Bool) (last : Bool) (w : World) (R : Value → World → Prop) : sxFn Try.prog TT h_segment_Part Try.f51 #[(.bool first), (.bool last)] w R = F_segment_Part first last w R := by kernel_rfl
theorem F_segment_Part_ok {R : Ending → World → Prop} (first : Bool) (last : Bool) (w : World) (h : F_segment_Part first last w fun v w' => R (.returned v) w') : Calls Try.prog N_segment_Part #[(.bool first), (.bool last)] w R :=
  calls_of (f := 51) follows_ok Try.func51 (Eq.mpr (F_segment_Part_eq first last w _) h)

def h_segment_Cut : H := (.seq .reg (.seq .reg (.seq (.block (.seq .reg (.cond (.seq .reg .leaf) (.seq .reg (.cond (.seq .reg .leaf) .leaf))))) (.seq .reg (.seq .reg (.seq (.seq .reg (.cond (.seq .reg .leaf) .leaf)) (.seq .reg (.seq .reg (.seq (.draw .blk (.one 0 .stable (.one 1 .stable (.one 2 .stable (.one 3 .stable (.one 4 .pre (.one 5 .pre (.one 6 .pre (.one 7 .pre (.one 9 .stable (.one 8 .keep (.one 10 .keep (.one 11 .stable (.one 12 .last .nil)))))))))))))) (.seq .reg (.seq (.draw .blk (.one 0 .pre (.one 1 .pre (.one 4 .stable (.one 5 .stable (.one 2 .keep (.one 3 .keep (.one 8 .stable (.one 6 .keep (.one 7 .keep (.one 9 .keep (.one 10 .stable (.one 11 .last .nil))))))))))))) (.seq (.draw .blk (.one 0 .pre (.one 1 .stable (.one 2 .keep (.one 3 .keep (.one 4 .stable .nil)))))) .leaf))))))))))))
def F_segment_Cut (bits : Int) (p_0 : Int) (p_1 : Int) (p_2 : Int) (p_3 : Int) (p_4_a : Option Addr) (p_4_l : Nat) (p_4_c : Nat) (size : Int) (w : World) (R : Value → World → Prop) : Prop :=
  (kAlloc w #[(.int .i64 p_0), (.int .i64 p_1), (.int .i64 p_2), (.int .i64 p_3), (.slice p_4_a p_4_l p_4_c)] Ty_api_Piece fun b w1 =>
  (kAlloc w1 #[.int .i64 (0 : Int), .int .i64 (0 : Int), .int .i64 (0 : Int), .int .i64 (0 : Int), .slice none 0 0] Ty_api_Piece fun b1 w2 =>
  (kAlloc w2 #[.int .i64 (0 : Int), .int .i64 (0 : Int), .int .i64 (0 : Int), .int .i64 (0 : Int), .slice none 0 0] Ty_api_Piece fun b2 w3 =>
  (kLd w3 ⟨b, 1, none⟩ .i64 fun x =>
  (Calls Try.prog N_segment_head #[(.int .i64 x)] w3 fun e_ w4 =>
  ∃ r : Int, e_ = .returned (.int .i64 r) ∧
  (∃ x_0 x_1 x_2 x_3 : Int, ∃ x_4_a : Option Addr, ∃ x_4_l x_4_c : Nat, cellsAt w4 ⟨b, 0, none⟩ 0 [(.int .i64 x_0), (.int .i64 x_1), (.int .i64 x_2), (.int .i64 x_3), (.slice x_4_a x_4_l x_4_c)] ∧
  (Calls Try.prog N_segment_Valid #[(.int .i64 bits), (.agg #[.int .i64 x_0, .int .i64 x_1, .int .i64 x_2, .int .i64 x_3, .slice x_4_a x_4_l x_4_c])] w4 fun e_1 w5 =>
  ∃ r1 : Bool, e_1 = .returned (.bool r1) ∧
  (bsplit (!r1)
    ((sxStore w5 ⟨b1, 0, none⟩ 0 [(.int .i64 (0 : Int)), (.int .i64 (0 : Int)), (.int .i64 (0 : Int)), (.int .i64 (0 : Int)), (.slice none 0 0)] fun w6 =>
    (sxStore w6 ⟨b2, 0, none⟩ 0 [(.int .i64 (0 : Int)), (.int .i64 (0 : Int)), (.int .i64 (0 : Int)), (.int .i64 (0 : Int)), (.slice none 0 0)] fun w7 =>
    (∃ r_0 r_1 r_2 r_3 : Int, ∃ r_4_a : Option Addr, ∃ r_4_l r_4_c : Nat, cellsAt w7 ⟨b1, 0, none⟩ 0 [(.int .i64 r_0), (.int .i64 r_1), (.int .i64 r_2), (.int .i64 r_3), (.slice r_4_a r_4_l r_4_c)] ∧
    (∃ r_01 r_11 r_21 r_31 : Int, ∃ r_4_a1 : Option Addr, ∃ r_4_l1 r_4_c1 : Nat, cellsAt w7 ⟨b2, 0, none⟩ 0 [(.int .i64 r_01), (.int .i64 r_11), (.int .i64 r_21), (.int .i64 r_31), (.slice r_4_a1 r_4_l1 r_4_c1)] ∧
    R (.tuple #[(.agg #[.int .i64 r_0, .int .i64 r_1, .int .i64 r_2, .int .i64 r_3, .slice r_4_a r_4_l r_4_c]), (.agg #[.int .i64 r_01, .int .i64 r_11, .int .i64 r_21, .int .i64 r_31, .slice r_4_a1 r_4_l1 r_4_c1]), (.int .i64 (1 : Int))]) w7)))))
    ((kW .i64 (r + (1 : Int)) fun x1 =>
    (kLet (decide (size < x1)) fun x2 =>
    (bsplit x2
      ((sxStore w5 ⟨b1, 0, none⟩ 0 [(.int .i64 (0 : Int)), (.int .i64 (0 : Int)), (.int .i64 (0 : Int)), (.int .i64 (0 : Int)), (.slice none 0 0)] fun w8 =>
      (sxStore w8 ⟨b2, 0, none⟩ 0 [(.int .i64 (0 : Int)), (.int .i64 (0 : Int)), (.int .i64 (0 : Int)), (.int .i64 (0 : Int)), (.slice none 0 0)] fun w9 =>
      (∃ r_02 r_12 r_22 r_32 : Int, ∃ r_4_a2 : Option Addr, ∃ r_4_l2 r_4_c2 : Nat, cellsAt w9 ⟨b1, 0, none⟩ 0 [(.int .i64 r_02), (.int .i64 r_12), (.int .i64 r_22), (.int .i64 r_32), (.slice r_4_a2 r_4_l2 r_4_c2)] ∧
      (∃ r_03 r_13 r_23 r_33 : Int, ∃ r_4_a3 : Option Addr, ∃ r_4_l3 r_4_c3 : Nat, cellsAt w9 ⟨b2, 0, none⟩ 0 [(.int .i64 r_03), (.int .i64 r_13), (.int .i64 r_23), (.int .i64 r_33), (.slice r_4_a3 r_4_l3 r_4_c3)] ∧
      R (.tuple #[(.agg #[.int .i64 r_02, .int .i64 r_12, .int .i64 r_22, .int .i64 r_32, .slice r_4_a2 r_4_l2 r_4_c2]), (.agg #[.int .i64 r_03, .int .i64 r_13, .int .i64 r_23, .int .i64 r_33, .slice r_4_a3 r_4_l3 r_4_c3]), (.int .i64 (15 : Int))]) w9)))))
      ((∃ x_01 x_11 x_21 x_31 : Int, ∃ x_4_a1 : Option Addr, ∃ x_4_l1 x_4_c1 : Nat, cellsAt w5 ⟨b, 0, none⟩ 0 [(.int .i64 x_01), (.int .i64 x_11), (.int .i64 x_21), (.int .i64 x_31), (.slice x_4_a1 x_4_l1 x_4_c1)] ∧
      (sxStore w5 ⟨b1, 0, none⟩ 0 [(.int .i64 x_01), (.int .i64 x_11), (.int .i64 x_21), (.int .i64 x_31), (.slice x_4_a1 x_4_l1 x_4_c1)] fun w10 =>
      (kLdS w10 ⟨b, 4, none⟩ fun x_a x_l x_c =>
      (Calls Try.prog N_slices_Clone_Sbyte_byte #[(.slice x_a x_l x_c)] w10 fun e_2 w11 =>
      ∃ r_a : Option Addr, ∃ r_l r_c : Nat, e_2 = .returned (.slice r_a r_l r_c) ∧
      (kSet w11 ⟨b1, 4, none⟩ (.slice r_a r_l r_c) fun w12 =>
      (kLdS w12 ⟨b, 4, none⟩ fun _ x_l1 _ =>
      (kW .i64 (r + (x_l1 : Int)) fun x3 =>
      (bsplit (decide (x3 ≤ size))
        ((∃ x_02 x_12 x_22 x_32 : Int, ∃ x_4_a2 : Option Addr, ∃ x_4_l2 x_4_c2 : Nat, cellsAt w12 ⟨b1, 0, none⟩ 0 [(.int .i64 x_02), (.int .i64 x_12), (.int .i64 x_22), (.int .i64 x_32), (.slice x_4_a2 x_4_l2 x_4_c2)] ∧
        (sxStore w12 ⟨b1, 0, none⟩ 0 [(.int .i64 x_02), (.int .i64 x_12), (.int .i64 x_22), (.int .i64 x_32), (.slice x_4_a2 x_4_l2 x_4_c2)] fun w13 =>
        (sxStore w13 ⟨b2, 0, none⟩ 0 [(.int .i64 (0 : Int)), (.int .i64 (0 : Int)), (.int .i64 (0 : Int)), (.int .i64 (0 : Int)), (.slice none 0 0)] fun w14 =>
        (∃ r_04 r_14 r_24 r_34 : Int, ∃ r_4_a4 : Option Addr, ∃ r_4_l4 r_4_c4 : Nat, cellsAt w14 ⟨b1, 0, none⟩ 0 [(.int .i64 r_04), (.int .i64 r_14), (.int .i64 r_24), (.int .i64 r_34), (.slice r_4_a4 r_4_l4 r_4_c4)] ∧
        (∃ r_05 r_15 r_25 r_35 : Int, ∃ r_4_a5 : Option Addr, ∃ r_4_l5 r_4_c5 : Nat, cellsAt w14 ⟨b2, 0, none⟩ 0 [(.int .i64 r_05), (.int .i64 r_15), (.int .i64 r_25), (.int .i64 r_35), (.slice r_4_a5 r_4_l5 r_4_c5)] ∧
        R (.tuple #[(.agg #[.int .i64 r_04, .int .i64 r_14, .int .i64 r_24, .int .i64 r_34, .slice r_4_a4 r_4_l4 r_4_c4]), (.agg #[.int .i64 r_05, .int .i64 r_15, .int .i64 r_25, .int .i64 r_35, .slice r_4_a5 r_4_l5 r_4_c5]), (.int .i64 (0 : Int))]) w14))))))
        ((kW .i64 (size - r) fun x4 =>
        (∃ x_03 x_13 x_23 x_33 : Int, ∃ x_4_a3 : Option Addr, ∃ x_4_l3 x_4_c3 : Nat, cellsAt w12 ⟨b, 0, none⟩ 0 [(.int .i64 x_03), (.int .i64 x_13), (.int .i64 x_23), (.int .i64 x_33), (.slice x_4_a3 x_4_l3 x_4_c3)] ∧
        (sxStore w12 ⟨b2, 0, none⟩ 0 [(.int .i64 x_03), (.int .i64 x_13), (.int .i64 x_23), (.int .i64 x_33), (.slice x_4_a3 x_4_l3 x_4_c3)] fun w15 =>
        (kDrew w15 fun w16 =>
        (∃ S : Nat → Prop,
        (S b ∧
        (kLd w16 ⟨b, 3, none⟩ .i64 fun x5 =>
        (kW .i64 (x5 + x4) fun x6 =>
        (kLdS w16 ⟨b, 4, none⟩ fun x_a2 x_l2 x_c2 =>
        ((0 ≤ x4 ∧ x4 ≤ ((x_l2 : Nat) : Int)) ∧ (Calls Try.prog N_slices_Clone_Sbyte_byte #[(.slice (slAddr x_c2 (x4.toNat) 1 x_a2) (x_l2 - x4.toNat) (x_c2 - x4.toNat))] w16 fun e_3 w17 =>
        ∃ r_a1 : Option Addr, ∃ r_l1 r_c1 : Nat, e_3 = .returned (.slice r_a1 r_l1 r_c1) ∧
        (KeepsB S w16 w17 ∧ (kSet w17 ⟨b2, 3, none⟩ (.int .i64 x6) fun w18 =>
        (KeepsB S w16 w18 ∧ (kSet w18 ⟨b2, 4, none⟩ (.slice r_a1 r_l1 r_c1) fun w19 =>
        (kLdS w19 ⟨b1, 4, none⟩ fun x_a3 _ x_c3 =>
        ((0 ≤ x4 ∧ x4 ≤ ((x_c3 : Nat) : Int)) ∧ ((0 ≤ x4 ∧ x4 ≤ ((x4.toNat : Nat) : Int)) ∧ (kSet w19 ⟨b1, 4, none⟩ (.slice (slAddr (x4.toNat) 0 1 x_a3) (x4.toNat - 0) (x4.toNat - 0)) fun w20 =>
        (kDrew w20 fun w21 =>
        (∃ S1 : Nat → Prop,
        (kLd w21 ⟨b, 1, none⟩ .i64 fun x7 =>
        (S1 b ∧
        (kLd w21 ⟨b, 1, none⟩ .i64 fun x8 =>
        (Calls Try.prog N_segment_begins #[(.int .i64 x7)] w21 fun e_4 w22 =>
        ∃ r2 : Bool, e_4 = .returned (.bool r2) ∧
        (KeepsB S1 w21 w22 ∧ (Calls Try.prog N_segment_Part #[(.bool r2), (.bool false)] w22 fun e_5 w23 =>
        ∃ r3 : Int, e_5 = .returned (.int .i64 r3) ∧
        (KeepsB S1 w21 w23 ∧ (Calls Try.prog N_segment_Ends #[(.int .i64 x8)] w23 fun e_6 w24 =>
        ∃ r4 : Bool, e_6 = .returned (.bool r4) ∧
        (KeepsB S1 w21 w24 ∧ (Calls Try.prog N_segment_Part #[(.bool false), (.bool r4)] w24 fun e_7 w25 =>
        ∃ r5 : Int, e_7 = .returned (.int .i64 r5) ∧
        (KeepsB S1 w21 w25 ∧ (kSet w25 ⟨b1, 1, none⟩ (.int .i64 r3) fun w26 =>
        (KeepsB S1 w21 w26 ∧ (kSet w26 ⟨b2, 1, none⟩ (.int .i64 r5) fun w27 =>
        (kDrew w27 fun w28 =>
        (∃ S2 : Nat → Prop,
        (∃ x_04 x_14 x_24 x_34 : Int, ∃ x_4_a4 : Option Addr, ∃ x_4_l4 x_4_c4 : Nat, cellsAt w28 ⟨b1, 0, none⟩ 0 [(.int .i64 x_04), (.int .i64 x_14), (.int .i64 x_24), (.int .i64 x_34), (.slice x_4_a4 x_4_l4 x_4_c4)] ∧
        (S2 b2 ∧
        (∃ x_05 x_15 x_25 x_35 : Int, ∃ x_4_a5 : Option Addr, ∃ x_4_l5 x_4_c5 : Nat, cellsAt w28 ⟨b2, 0, none⟩ 0 [(.int .i64 x_05), (.int .i64 x_15), (.int .i64 x_25), (.int .i64 x_35), (.slice x_4_a5 x_4_l5 x_4_c5)] ∧
        (sxStore w28 ⟨b1, 0, none⟩ 0 [(.int .i64 x_04), (.int .i64 x_14), (.int .i64 x_24), (.int .i64 x_34), (.slice x_4_a4 x_4_l4 x_4_c4)] fun w29 =>
        (KeepsB S2 w28 w29 ∧ (sxStore w29 ⟨b2, 0, none⟩ 0 [(.int .i64 x_05), (.int .i64 x_15), (.int .i64 x_25), (.int .i64 x_35), (.slice x_4_a5 x_4_l5 x_4_c5)] fun w30 =>
        (KeepsB S2 w28 w30 ∧ (∃ r_06 r_16 r_26 r_36 : Int, ∃ r_4_a6 : Option Addr, ∃ r_4_l6 r_4_c6 : Nat, cellsAt w30 ⟨b1, 0, none⟩ 0 [(.int .i64 r_06), (.int .i64 r_16), (.int .i64 r_26), (.int .i64 r_36), (.slice r_4_a6 r_4_l6 r_4_c6)] ∧
        (∃ r_07 r_17 r_27 r_37 : Int, ∃ r_4_a7 : Option Addr, ∃ r_4_l7 r_4_c7 : Nat, cellsAt w30 ⟨b2, 0, none⟩ 0 [(.int .i64 r_07), (.int .i64 r_17), (.int .i64 r_27), (.int .i64 r_37), (.slice r_4_a7 r_4_l7 r_4_c7)] ∧
        R (.tuple #[(.agg #[.int .i64 r_06, .int .i64 r_16, .int .i64 r_26, .int .i64 r_36, .slice r_4_a6 r_4_l6 r_4_c6]), (.agg #[.int .i64 r_07, .int .i64 r_17, .int .i64 r_27, .int .i64 r_37, .slice r_4_a7 r_4_l7 r_4_c7]), (.int .i64 (0 : Int))]) w30))))))))))))))))))))))))))))))))))))))))))))))))))))))))))))))))))))
theorem F_segment_Cut_eq (bits : Int) (p_0 : Int) (p_1 : Int) (p_2 : Int) (p_3 : Int) (p_4_a : Option Addr) (p_4_l : Nat) (p_4_c : Nat) (size : Int) (w : World) (R : Value → World → Prop) : sxFn Try.prog TT h_segment_Cut Try.f52 #[(.int .i64 bits), (.agg #[.int .i64 p_0, .int .i64 p_1, .int .i64 p_2, .int .i64 p_3, .slice p_4_a p_4_l p_4_c]), (.int .i64 size)] w R = F_segment_Cut bits p_0 p_1 p_2 p_3 p_4_a p_4_l p_4_c size w R := by kernel_rfl
theorem F_segment_Cut_ok {R : Ending → World → Prop} (bits : Int) (p_0 : Int) (p_1 : Int) (p_2 : Int) (p_3 : Int) (p_4_a : Option Addr) (p_4_l : Nat) (p_4_c : Nat) (size : Int) (w : World) (h : F_segment_Cut bits p_0 p_1 p_2 p_3 p_4_a p_4_l p_4_c size w fun v w' => R (.returned v) w') : Calls Try.prog N_segment_Cut #[(.int .i64 bits), (.agg #[.int .i64 p_0, .int .i64 p_1, .int .i64 p_2, .int .i64 p_3, .slice p_4_a p_4_l p_4_c]), (.int .i64 size)] w R :=
  calls_of (f := 52) follows_ok Try.func52 (Eq.mpr (F_segment_Cut_eq bits p_0 p_1 p_2 p_3 p_4_a p_4_l p_4_c size w _) h)

def h_sender_take : H := (.seq (.seq .reg (.cond (.seq .reg .leaf) .leaf)) (.seq .reg (.seq (.draw .no (.one 0 .stable (.one 1 .stable (.one 2 .stable (.one 3 .stable (.one 4 .stable (.one 5 .stable (.one 6 .stable (.one 7 .stable (.one 8 .stable (.one 9 .stable (.one 10 .stable (.one 11 .stable (.one 12 .stable (.one 13 .stable (.one 14 .stable .nil)))))))))))))))) (.cond .reg .leaf))))
def F_sender_take (u_b : Nat) (u_o : Nat) (n : Int) (w : World) (R : Value → World → Prop) : Prop :=
  (kLdS w ⟨u_b, u_o + 4, none⟩ fun _ x_l _ =>
  (bsplit (decide ((x_l : Int) = (0 : Int)))
    ((kLd w ⟨u_b, u_o + 2, none⟩ .i64 fun x =>
    (kW .i64 (x + n) fun x1 =>
    (kSet w ⟨u_b, u_o + 2, none⟩ (.int .i64 x1) fun w1 =>
    R (.tuple #[]) w1))))
    ((kLdS w ⟨u_b, u_o + 4, none⟩ fun x_a1 x_l1 _ =>
    (kIx x_a1 x_l1 (0 : Int) fun b =>
    (kLd w ((b.add ((0 : Int).toNat * 3)).add 1) .i64 fun x2 =>
    (kW .i64 (x2 + n) fun x3 =>
    (kIx x_a1 x_l1 (0 : Int) fun b1 =>
    (kSet w ((b1.add ((0 : Int).toNat * 3)).add 1) (.int .i64 x3) fun w2 =>
    (kDrew w2 fun w3 =>
    (kLdS w3 ⟨u_b, u_o + 4, none⟩ fun x_a2 x_l2 _ =>
    (kIx x_a2 x_l2 (0 : Int) fun b2 =>
    (kLd w3 ((b2.add ((0 : Int).toNat * 3)).add 1) .i64 fun x4 =>
    (kLdS w3 ⟨u_b, u_o + 4, none⟩ fun x_a3 x_l3 _ =>
    (kIx x_a3 x_l3 (0 : Int) fun b3 =>
    (kLd w3 ((b3.add ((0 : Int).toNat * 3)).add 2) .i64 fun x5 =>
    (bsplit (decide (x4 = x5))
      ((kLdS w3 ⟨u_b, u_o + 4, none⟩ fun x_a4 x_l4 x_c4 =>
      ((0 ≤ (1 : Int) ∧ (1 : Int) ≤ ((x_l4 : Nat) : Int)) ∧ (kSet w3 ⟨u_b, u_o + 4, none⟩ (.slice (slAddr x_c4 ((1 : Int).toNat) 3 x_a4) (x_l4 - (1 : Int).toNat) (x_c4 - (1 : Int).toNat)) fun w4 =>
      R (.tuple #[]) w4))))
      (R (.tuple #[]) w3))))))))))))))))))
theorem F_sender_take_eq (u_b : Nat) (u_o : Nat) (n : Int) (w : World) (R : Value → World → Prop) : sxFn Try.prog TT h_sender_take Try.f53 #[(.pointer (some ⟨u_b, u_o, none⟩)), (.int .i64 n)] w R = F_sender_take u_b u_o n w R := by kernel_rfl
theorem F_sender_take_ok {R : Ending → World → Prop} (u_b : Nat) (u_o : Nat) (n : Int) (w : World) (h : F_sender_take u_b u_o n w fun v w' => R (.returned v) w') : Calls Try.prog N_sender_take #[(.pointer (some ⟨u_b, u_o, none⟩)), (.int .i64 n)] w R :=
  calls_of (f := 53) follows_ok Try.func53 (Eq.mpr (F_sender_take_eq u_b u_o n w _) h)

def h_sender_side_ask : H := (.seq .reg (.seq .reg (.seq .reg (.block (.loop [(29, .p (.int .i64))] [5, 29, 30, 31, 32, 33, 34, 35, 36, 37, 38, 39, 40, 41, 42] (.seq .reg (.seq (.cond .leaf .leaf) (.seq (.block (.seq .reg (.seq .reg (.cond .reg .leaf)))) .reg))))))))
def F_sender_side_ask (s_b : Nat) (s_o : Nat) (p_b : Nat) (p_o : Nat) (w : World) (R : Value → World → Prop) : Prop :=
  (kSet w ⟨p_b, p_o + 2, none⟩ (.int .i64 (1 : Int)) fun w1 =>
  (kLd w1 ⟨s_b, s_o + 2, none⟩ .i64 fun x =>
  (kSet w1 ⟨s_b, s_o + 9, none⟩ (.int .i64 (0 : Int)) fun w2 =>
  (kSet w2 ⟨s_b, s_o + 11, none⟩ (.int .i64 x) fun w3 =>
  (kLdS w3 ⟨s_b, s_o + 8, none⟩ fun x_a x_l _ =>
  (∃ I : Int → Nat × (World → Prop), (I (0 : Int)).2 w3 ∧
  (∀ (_junk : Env) (x1 : Int) (w4 : World), (I x1).2 w4 →
    (bsplit (decide (x1 < (x_l : Int)))
      ((kIx x_a x_l x1 fun b =>
      (∃ x_0 : Int, ∃ x_1_a : Option Addr, ∃ x_1_l x_1_c : Nat, ∃ x_2 x_3 : Int, ∃ x_4_a : Option Addr, ∃ x_4_l x_4_c : Nat, cellsAt w4 (b.add (x1.toNat * 5)) 0 [(.int .i64 x_0), (.slice x_1_a x_1_l x_1_c), (.int .i64 x_2), (.int .i64 x_3), (.slice x_4_a x_4_l x_4_c)] ∧
      (kAlloc w4 #[.int .i64 (0 : Int), .slice none 0 0, .int .i64 (0 : Int), .int .i64 (0 : Int), .slice none 0 0] Ty_api_Unit fun b1 w5 =>
      (sxStore w5 ⟨b1, 0, none⟩ 0 [(.int .i64 x_0), (.slice x_1_a x_1_l x_1_c), (.int .i64 x_2), (.int .i64 x_3), (.slice x_4_a x_4_l x_4_c)] fun w6 =>
      (kLd w6 ⟨b1, 2, none⟩ .i64 fun x2 =>
      (bsplit (decide (x2 > (0 : Int)))
        ((kLd w6 ⟨b1, 0, none⟩ .i64 fun x3 =>
        (kSet w6 ⟨s_b, s_o + 10, none⟩ (.int .i64 x3) fun w7 =>
        (kW .i64 (x1 + (1 : Int)) fun x4 =>
        ((I x4).2 w7 ∧ (I x4).1 < (I x1).1)))))
        ((kW .i64 (x1 + (1 : Int)) fun x5 =>
        ((I x5).2 w6 ∧ (I x5).1 < (I x1).1))))))))))
      (R (.tuple #[]) w4)))))))))
theorem F_sender_side_ask_eq (s_b : Nat) (s_o : Nat) (p_b : Nat) (p_o : Nat) (w : World) (R : Value → World → Prop) : sxFn Try.prog TT h_sender_side_ask Try.f54 #[(.pointer (some ⟨s_b, s_o, none⟩)), (.pointer (some ⟨p_b, p_o, none⟩))] w R = F_sender_side_ask s_b s_o p_b p_o w R := by kernel_rfl
theorem F_sender_side_ask_ok {R : Ending → World → Prop} (s_b : Nat) (s_o : Nat) (p_b : Nat) (p_o : Nat) (w : World) (h : F_sender_side_ask s_b s_o p_b p_o w fun v w' => R (.returned v) w') : Calls Try.prog N_sender_side_ask #[(.pointer (some ⟨s_b, s_o, none⟩)), (.pointer (some ⟨p_b, p_o, none⟩))] w R :=
  calls_of (f := 54) follows_ok Try.func54 (Eq.mpr (F_sender_side_ask_eq s_b s_o p_b p_o w _) h)

def h_segment_Encode : H := (.seq .reg (.seq (.seq .reg (.cond (.seq .reg .leaf) .leaf)) (.seq .reg (.seq .reg (.seq (.seq .reg (.cond .reg .leaf)) (.seq .reg .leaf))))))
def F_segment_Encode (bits : Int) (p_0 : Int) (p_1 : Int) (p_2 : Int) (p_3 : Int) (p_4_a : Option Addr) (p_4_l : Nat) (p_4_c : Nat) (w : World) (R : Value → World → Prop) : Prop :=
  (kAlloc w #[(.int .i64 p_0), (.int .i64 p_1), (.int .i64 p_2), (.int .i64 p_3), (.slice p_4_a p_4_l p_4_c)] Ty_api_Piece fun b w1 =>
  (∃ x_0 x_1 x_2 x_3 : Int, ∃ x_4_a : Option Addr, ∃ x_4_l x_4_c : Nat, cellsAt w1 ⟨b, 0, none⟩ 0 [(.int .i64 x_0), (.int .i64 x_1), (.int .i64 x_2), (.int .i64 x_3), (.slice x_4_a x_4_l x_4_c)] ∧
  (Calls Try.prog N_segment_Valid #[(.int .i64 bits), (.agg #[.int .i64 x_0, .int .i64 x_1, .int .i64 x_2, .int .i64 x_3, .slice x_4_a x_4_l x_4_c])] w1 fun e_ w2 =>
  ∃ r : Bool, e_ = .returned (.bool r) ∧
  (bsplit (!r)
    (R (.tuple #[(.slice none 0 0), (.int .i64 (1 : Int))]) w2)
    ((kLd w2 ⟨b, 2, none⟩ .i64 fun x =>
    (kW .i64 (x * 2 ^ 14) fun x1 =>
    (kLet (bOr .i64 (32768 : Int) x1) fun x2 =>
    (kLd w2 ⟨b, 1, none⟩ .i64 fun x3 =>
    (kW .i64 (x3 * 2 ^ 12) fun x4 =>
    (kLet (bOr .i64 x2 x4) fun x5 =>
    (kLd w2 ⟨b, 0, none⟩ .i64 fun x6 =>
    (kLet (bOr .i64 x5 x6) fun x7 =>
    (kLet (Int.fdiv x7 (2 ^ 8)) fun x8 =>
    (kW .u8 (x8) fun x9 =>
    (kW .u8 (x7) fun x10 =>
    (kAlloc w2 #[(.int .u8 x9), (.int .u8 x10)] Ty_uint8 fun b1 w3 =>
    (kLd w3 ⟨b, 1, none⟩ .i64 fun x11 =>
    (Calls Try.prog N_segment_begins #[(.int .i64 x11)] w3 fun e_1 w4 =>
    ∃ r1 : Bool, e_1 = .returned (.bool r1) ∧
    (bsplit (!r1)
      ((kLd w4 ⟨b, 3, none⟩ .i64 fun x12 =>
      (kLet (Int.fdiv x12 (2 ^ 8)) fun x13 =>
      (kW .u8 (x13) fun x14 =>
      (kLd w4 ⟨b, 3, none⟩ .i64 fun x15 =>
      (kW .u8 (x15) fun x16 =>
      (kAlloc w4 #[(.int .u8 x14), (.int .u8 x16)] Ty_uint8 fun b2 w5 =>
      (AppP Try.prog #[Ty_S_uint8, Ty_S_uint8] Ty_S_uint8 #[(.slice (some ⟨b1, 0, none⟩) 2 2), (.slice (some ⟨b2, 0, none⟩) 2 2)] w5 fun x_a x_l x_c w6 =>
      (kLdS w6 ⟨b, 4, none⟩ fun x_a1 x_l1 x_c1 =>
      (AppP Try.prog #[Ty_S_uint8, Ty_S_uint8] Ty_S_uint8 #[(.slice x_a x_l x_c), (.slice x_a1 x_l1 x_c1)] w6 fun x_a2 x_l2 x_c2 w7 =>
      R (.tuple #[(.slice x_a2 x_l2 x_c2), (.int .i64 (0 : Int))]) w7))))))))))
      ((kLdS w4 ⟨b, 4, none⟩ fun x_a3 x_l3 x_c3 =>
      (AppP Try.prog #[Ty_S_uint8, Ty_S_uint8] Ty_S_uint8 #[(.slice (some ⟨b1, 0, none⟩) 2 2), (.slice x_a3 x_l3 x_c3)] w4 fun x_a4 x_l4 x_c4 w8 =>
      R (.tuple #[(.slice x_a4 x_l4 x_c4), (.int .i64 (0 : Int))]) w8)))))))))))))))))))))))
theorem F_segment_Encode_eq (bits : Int) (p_0 : Int) (p_1 : Int) (p_2 : Int) (p_3 : Int) (p_4_a : Option Addr) (p_4_l : Nat) (p_4_c : Nat) (w : World) (R : Value → World → Prop) : sxFn Try.prog TT h_segment_Encode Try.f55 #[(.int .i64 bits), (.agg #[.int .i64 p_0, .int .i64 p_1, .int .i64 p_2, .int .i64 p_3, .slice p_4_a p_4_l p_4_c])] w R = F_segment_Encode bits p_0 p_1 p_2 p_3 p_4_a p_4_l p_4_c w R := by kernel_rfl
theorem F_segment_Encode_ok {R : Ending → World → Prop} (bits : Int) (p_0 : Int) (p_1 : Int) (p_2 : Int) (p_3 : Int) (p_4_a : Option Addr) (p_4_l : Nat) (p_4_c : Nat) (w : World) (h : F_segment_Encode bits p_0 p_1 p_2 p_3 p_4_a p_4_l p_4_c w fun v w' => R (.returned v) w') : Calls Try.prog N_segment_Encode #[(.int .i64 bits), (.agg #[.int .i64 p_0, .int .i64 p_1, .int .i64 p_2, .int .i64 p_3, .slice p_4_a p_4_l p_4_c])] w R :=
  calls_of (f := 55) follows_ok Try.func55 (Eq.mpr (F_segment_Encode_eq bits p_0 p_1 p_2 p_3 p_4_a p_4_l p_4_c w _) h)

def h_ref15_Bits : H := (.seq .reg (.seq .reg .leaf))
def F_ref15_Bits (n : Int) (w : World) (R : Value → World → Prop) : Prop :=
  (bsplit (decide (n ≥ (5 : Int)))
    ((kLet (decide (n ≤ (9 : Int))) fun x =>
    R (.bool x) w))
    (R (.bool false) w))
theorem F_ref15_Bits_eq (n : Int) (w : World) (R : Value → World → Prop) : sxFn Try.prog TT h_ref15_Bits Try.f56 #[(.int .i64 n)] w R = F_ref15_Bits n w R := by kernel_rfl
theorem F_ref15_Bits_ok {R : Ending → World → Prop} (n : Int) (w : World) (h : F_ref15_Bits n w fun v w' => R (.returned v) w') : Calls Try.prog N_ref15_Bits #[(.int .i64 n)] w R :=
  calls_of (f := 56) follows_ok Try.func56 (Eq.mpr (F_ref15_Bits_eq n w _) h)

def h_ref01_Get : H := (.seq .reg (.seq .reg (.seq (.seq .reg (.block (.loop [(7, .p (.int .i64)), (8, .p (.int .i64))] [7, 8, 9, 10, 11, 12, 13, 14, 15, 16, 17, 18, 19, 20, 21, 22, 23] (.seq (.seq .reg (.cond .leaf .leaf)) (.seq (.block .reg) .reg))))) (.seq .reg .leaf))))
def F_ref01_Get (b_a : Option Addr) (b_l : Nat) (_ : Nat) (at1 : Int) (bytes : Int) (w : World) (R : Value → World → Prop) : Prop :=
  (∃ I : Int → Int → Nat × (World → Prop), (I (0 : Int) (0 : Int)).2 w ∧
  (∀ (_junk : Env) (v : Int) (i : Int) (w1 : World), (I v i).2 w1 →
    (bsplit (decide (i < bytes))
      ((kW .i64 ((256 : Int) * v) fun x =>
      (kW .i64 (at1 + i) fun x1 =>
      (kIx b_a b_l x1 fun b =>
      (kLd w1 (b.add (x1.toNat * 1)) .u8 fun x2 =>
      (kW .i64 (x2) fun x3 =>
      (kW .i64 (x + x3) fun x4 =>
      (kW .i64 (i + (1 : Int)) fun x5 =>
      ((I x4 x5).2 w1 ∧ (I x4 x5).1 < (I v i).1)))))))))
      (R (.int .i64 v) w1))))
theorem F_ref01_Get_eq (b_a : Option Addr) (b_l : Nat) (b_c : Nat) (at1 : Int) (bytes : Int) (w : World) (R : Value → World → Prop) : sxFn Try.prog TT h_ref01_Get Try.f57 #[(.slice b_a b_l b_c), (.int .i64 at1), (.int .i64 bytes)] w R = F_ref01_Get b_a b_l b_c at1 bytes w R := by kernel_rfl
theorem F_ref01_Get_ok {R : Ending → World → Prop} (b_a : Option Addr) (b_l : Nat) (b_c : Nat) (at1 : Int) (bytes : Int) (w : World) (h : F_ref01_Get b_a b_l b_c at1 bytes w fun v w' => R (.returned v) w') : Calls Try.prog N_ref01_Get #[(.slice b_a b_l b_c), (.int .i64 at1), (.int .i64 bytes)] w R :=
  calls_of (f := 57) follows_ok Try.func57 (Eq.mpr (F_ref01_Get_eq b_a b_l b_c at1 bytes w _) h)

def h_ref18_Head : H := (.seq .reg (.seq (.seq .reg (.cond (.seq .reg .leaf) .leaf)) (.seq .reg .leaf)))
def F_ref18_Head (part : Int) (w : World) (R : Value → World → Prop) : Prop :=
  (bsplit (decide (part = (0 : Int)))
    (R (.int .i64 (2 : Int)) w)
    ((bsplit (decide (part = (1 : Int)))
      (R (.int .i64 (2 : Int)) w)
      (R (.int .i64 (4 : Int)) w))))
theorem F_ref18_Head_eq (part : Int) (w : World) (R : Value → World → Prop) : sxFn Try.prog TT h_ref18_Head Try.f58 #[(.int .i64 part)] w R = F_ref18_Head part w R := by kernel_rfl
theorem F_ref18_Head_ok {R : Ending → World → Prop} (part : Int) (w : World) (h : F_ref18_Head part w fun v w' => R (.returned v) w') : Calls Try.prog N_ref18_Head #[(.int .i64 part)] w R :=
  calls_of (f := 58) follows_ok Try.func58 (Eq.mpr (F_ref18_Head_eq part w _) h)

def h_ref18_Valid : H := (.seq .reg (.seq (.cut [(65, .p .bool)] [5, 6, 7, 8, 9, 10, 11, 12, 13, 14, 15, 16, 17, 18, 19, 20, 21, 22, 23, 24, 25, 26, 27, 28, 29, 30, 31, 32, 33, 34, 35, 36, 37, 38, 39, 40, 41, 42, 43, 44, 45, 46, 47, 48, 49, 50, 51, 52, 53, 54, 55, 56, 57, 58, 59, 60, 61, 62, 63, 64, 65] .reg (.cond (.seq .reg .leaf) .leaf)) (.seq (.seq .reg (.cond (.seq .reg .leaf) .leaf)) (.seq .reg .leaf))))
def F_ref18_Valid (bits : Int) (p_0 : Int) (p_1 : Int) (p_2 : Int) (p_3 : Int) (p_4_a : Option Addr) (p_4_l : Nat) (p_4_c : Nat) (w : World) (R : Value → World → Prop) : Prop :=
  (kAlloc w #[(.int .i64 p_0), (.int .i64 p_1), (.int .i64 p_2), (.int .i64 p_3), (.slice p_4_a p_4_l p_4_c)] Ty_api_Piece fun b w1 =>
  (∃ J : Bool → World → Prop,
  (∀ (_junk : Env) (x12 : Bool) (w3 : World), J x12 w3 →
    (bsplit x12
      (R (.bool false) w3)
      ((kLd w3 ⟨b, 1, none⟩ .i64 fun x13 =>
      (bsplit (decide (x13 = (0 : Int)))
        ((kLd w3 ⟨b, 3, none⟩ .i64 fun x14 =>
          (kLet (decide (x14 = (0 : Int))) fun x15 =>
          R (.bool x15) w3)))
        ((kLd w3 ⟨b, 1, none⟩ .i64 fun x18 =>
        (bsplit (decide (x18 = (1 : Int)))
          ((kLd w3 ⟨b, 3, none⟩ .i64 fun x19 =>
          (kLet (decide (x19 = (0 : Int))) fun x20 =>
          R (.bool x20) w3)))
          ((kLd w3 ⟨b, 3, none⟩ .i64 fun x21 =>
          (kLet (decide (x21 > (0 : Int))) fun x22 =>
          R (.bool x22) w3))))))))))) ∧
  (Calls Try.prog N_ref15_Bits #[(.int .i64 bits)] w1 fun e_ w2 =>
  ∃ r : Bool, e_ = .returned (.bool r) ∧
  (bsplit (!r)
    (J true w2)
    ((kLd w2 ⟨b, 0, none⟩ .i64 fun x =>
    (bsplit (decide (x < (0 : Int)))
      (J true w2)
      ((kLd w2 ⟨b, 0, none⟩ .i64 fun x1 =>
      (kW .u64 (bits) fun x2 =>
      (0 ≤ x2 ∧ (kW .i64 ((1 : Int) * 2 ^ (min x2.toNat (IntKind.bits .i64))) fun x3 =>
      (bsplit (decide (x1 ≥ x3))
        (J true w2)
        ((kLd w2 ⟨b, 1, none⟩ .i64 fun x4 =>
        (bsplit (decide (x4 < (0 : Int)))
          (J true w2)
          ((kLd w2 ⟨b, 1, none⟩ .i64 fun x5 =>
          (bsplit (decide (x5 > (3 : Int)))
            (J true w2)
            ((kLd w2 ⟨b, 2, none⟩ .i64 fun x6 =>
            (bsplit (decide (x6 < (0 : Int)))
              (J true w2)
              ((kLd w2 ⟨b, 2, none⟩ .i64 fun x7 =>
              (bsplit (decide (x7 > (1 : Int)))
                (J true w2)
                ((kLdS w2 ⟨b, 4, none⟩ fun _ x_l _ =>
                (bsplit (decide ((x_l : Int) < (1 : Int)))
                  (J true w2)
                  ((kLd w2 ⟨b, 3, none⟩ .i64 fun x8 =>
                  (bsplit (decide (x8 < (0 : Int)))
                    (J true w2)
                    ((kLd w2 ⟨b, 3, none⟩ .i64 fun x9 =>
                    (bsplit (decide (x9 > (2054 : Int)))
                      (J true w2)
                      ((kLd w2 ⟨b, 3, none⟩ .i64 fun x10 =>
                      (kLdS w2 ⟨b, 4, none⟩ fun _ x_l1 _ =>
                      (kW .i64 (x10 + (x_l1 : Int)) fun x11 =>
                      J (decide (x11 > (2054 : Int))) w2))))))))))))))))))))))))))))))))))))))
theorem F_ref18_Valid_eq (bits : Int) (p_0 : Int) (p_1 : Int) (p_2 : Int) (p_3 : Int) (p_4_a : Option Addr) (p_4_l : Nat) (p_4_c : Nat) (w : World) (R : Value → World → Prop) : sxFn Try.prog TT h_ref18_Valid Try.f59 #[(.int .i64 bits), (.agg #[.int .i64 p_0, .int .i64 p_1, .int .i64 p_2, .int .i64 p_3, .slice p_4_a p_4_l p_4_c])] w R = F_ref18_Valid bits p_0 p_1 p_2 p_3 p_4_a p_4_l p_4_c w R := by kernel_rfl
theorem F_ref18_Valid_ok {R : Ending → World → Prop} (bits : Int) (p_0 : Int) (p_1 : Int) (p_2 : Int) (p_3 : Int) (p_4_a : Option Addr) (p_4_l : Nat) (p_4_c : Nat) (w : World) (h : F_ref18_Valid bits p_0 p_1 p_2 p_3 p_4_a p_4_l p_4_c w fun v w' => R (.returned v) w') : Calls Try.prog N_ref18_Valid #[(.int .i64 bits), (.agg #[.int .i64 p_0, .int .i64 p_1, .int .i64 p_2, .int .i64 p_3, .slice p_4_a p_4_l p_4_c])] w R :=
  calls_of (f := 59) follows_ok Try.func59 (Eq.mpr (F_ref18_Valid_eq bits p_0 p_1 p_2 p_3 p_4_a p_4_l p_4_c w _) h)

def h_ref20_Submit : H := (.seq .reg (.seq (.block (.seq .reg (.cond (.seq .reg .leaf) (.seq .reg (.cond (.seq .reg .leaf) (.cut [(16, .p .bool)] [16, 17, 18, 19, 20, 21, 22, 23, 24] .reg (.cond (.seq .reg .leaf) (.seq (.draw .blk (.one 0 .pre (.one 1 .pre (.one 2 .pre (.one 3 .pre (.one 4 .pre (.one 5 .pre (.one 6 .pre (.one 8 .stable (.one 9 .stable (.one 10 .stable (.one 11 .stable (.one 12 .stable (.one 13 .stable (.one 7 .keep (.one 14 .stable (.one 15 .stable .nil))))))))))))))))) (.cond (.seq .reg .leaf) .leaf))))))))) (.seq .reg (.seq (.draw .blk (.one 0 .stable (.one 1 .stable (.one 2 .stable (.one 3 .stable (.one 4 .pre (.one 5 .keep (.one 6 .keep (.one 7 .keep (.one 8 .keep (.one 9 .stable (.one 10 .last .nil)))))))))))) (.seq .reg (.seq .reg .leaf))))))
def F_ref20_Submit (s_0 : Int) (s_1 : Int) (s_2 : Int) (s_3 : Int) (s_4 : Int) (s_5 : Int) (s_6 : Int) (s_7 : Int) (s_8_a : Option Addr) (s_8_l : Nat) (s_8_c : Nat) (s_9 : Int) (s_10 : Int) (s_11 : Int) (s_12 : Bool) (data_a : Option Addr) (data_l : Nat) (data_c : Nat) (w : World) (R : Value → World → Prop) : Prop :=
  (kAlloc w #[(.int .i64 s_0), (.int .i64 s_1), (.int .i64 s_2), (.int .i64 s_3), (.int .i64 s_4), (.int .i64 s_5), (.int .i64 s_6), (.int .i64 s_7), (.slice s_8_a s_8_l s_8_c), (.int .i64 s_9), (.int .i64 s_10), (.int .i64 s_11), (.bool s_12)] Ty_api_Sender fun b w1 =>
  (kAlloc w1 #[.int .i64 (0 : Int), .int .i64 (0 : Int), .int .i64 (0 : Int), .int .i64 (0 : Int), .int .i64 (0 : Int), .int .i64 (0 : Int), .int .i64 (0 : Int), .int .i64 (0 : Int), .slice none 0 0, .int .i64 (0 : Int), .int .i64 (0 : Int), .int .i64 (0 : Int), .bool false] Ty_api_Sender fun b1 w2 =>
  (∃ x_0 x_1 x_2 x_3 x_4 x_5 x_6 x_7 : Int, ∃ x_8_a : Option Addr, ∃ x_8_l x_8_c : Nat, ∃ x_9 x_10 x_11 : Int, ∃ x_12 : Bool, cellsAt w2 ⟨b, 0, none⟩ 0 [(.int .i64 x_0), (.int .i64 x_1), (.int .i64 x_2), (.int .i64 x_3), (.int .i64 x_4), (.int .i64 x_5), (.int .i64 x_6), (.int .i64 x_7), (.slice x_8_a x_8_l x_8_c), (.int .i64 x_9), (.int .i64 x_10), (.int .i64 x_11), (.bool x_12)] ∧
  (Calls Try.prog N_ref20_Valid #[(.agg #[.int .i64 x_0, .int .i64 x_1, .int .i64 x_2, .int .i64 x_3, .int .i64 x_4, .int .i64 x_5, .int .i64 x_6, .int .i64 x_7, .slice x_8_a x_8_l x_8_c, .int .i64 x_9, .int .i64 x_10, .int .i64 x_11, .bool x_12])] w2 fun e_ w3 =>
  ∃ r : Bool, e_ = .returned (.bool r) ∧
  (bsplit (!r)
    ((sxStore w3 ⟨b1, 0, none⟩ 0 [(.int .i64 (0 : Int)), (.int .i64 (0 : Int)), (.int .i64 (0 : Int)), (.int .i64 (0 : Int)), (.int .i64 (0 : Int)), (.int .i64 (0 : Int)), (.int .i64 (0 : Int)), (.int .i64 (0 : Int)), (.slice none 0 0), (.int .i64 (0 : Int)), (.int .i64 (0 : Int)), (.int .i64 (0 : Int)), (.bool false)] fun w4 =>
    (∃ r_0 r_1 r_2 r_3 r_4 r_5 r_6 r_7 : Int, ∃ r_8_a : Option Addr, ∃ r_8_l r_8_c : Nat, ∃ r_9 r_10 r_11 : Int, ∃ r_12 : Bool, cellsAt w4 ⟨b1, 0, none⟩ 0 [(.int .i64 r_0), (.int .i64 r_1), (.int .i64 r_2), (.int .i64 r_3), (.int .i64 r_4), (.int .i64 r_5), (.int .i64 r_6), (.int .i64 r_7), (.slice r_8_a r_8_l r_8_c), (.int .i64 r_9), (.int .i64 r_10), (.int .i64 r_11), (.bool r_12)] ∧
    R (.tuple #[(.agg #[.int .i64 r_0, .int .i64 r_1, .int .i64 r_2, .int .i64 r_3, .int .i64 r_4, .int .i64 r_5, .int .i64 r_6, .int .i64 r_7, .slice r_8_a r_8_l r_8_c, .int .i64 r_9, .int .i64 r_10, .int .i64 r_11, .bool r_12]), (.int .i64 (1 : Int))]) w4)))
    ((kLdB w3 ⟨b, 12, none⟩ fun x =>
    (bsplit x
      ((sxStore w3 ⟨b1, 0, none⟩ 0 [(.int .i64 (0 : Int)), (.int .i64 (0 : Int)), (.int .i64 (0 : Int)), (.int .i64 (0 : Int)), (.int .i64 (0 : Int)), (.int .i64 (0 : Int)), (.int .i64 (0 : Int)), (.int .i64 (0 : Int)), (.slice none 0 0), (.int .i64 (0 : Int)), (.int .i64 (0 : Int)), (.int .i64 (0 : Int)), (.bool false)] fun w5 =>
      (∃ r_01 r_13 r_21 r_31 r_41 r_51 r_61 r_71 : Int, ∃ r_8_a1 : Option Addr, ∃ r_8_l1 r_8_c1 : Nat, ∃ r_91 r_101 r_111 : Int, ∃ r_121 : Bool, cellsAt w5 ⟨b1, 0, none⟩ 0 [(.int .i64 r_01), (.int .i64 r_13), (.int .i64 r_21), (.int .i64 r_31), (.int .i64 r_41), (.int .i64 r_51), (.int .i64 r_61), (.int .i64 r_71), (.slice r_8_a1 r_8_l1 r_8_c1), (.int .i64 r_91), (.int .i64 r_101), (.int .i64 r_111), (.bool r_121)] ∧
      R (.tuple #[(.agg #[.int .i64 r_01, .int .i64 r_13, .int .i64 r_21, .int .i64 r_31, .int .i64 r_41, .int .i64 r_51, .int .i64 r_61, .int .i64 r_71, .slice r_8_a1 r_8_l1 r_8_c1, .int .i64 r_91, .int .i64 r_101, .int .i64 r_111, .bool r_121]), (.int .i64 (16 : Int))]) w5)))
      ((∃ J : Bool → World → Prop,
      (∀ (_junk : Env) (x2 : Bool) (w6 : World), J x2 w6 →
        (bsplit x2
          ((sxStore w6 ⟨b1, 0, none⟩ 0 [(.int .i64 (0 : Int)), (.int .i64 (0 : Int)), (.int .i64 (0 : Int)), (.int .i64 (0 : Int)), (.int .i64 (0 : Int)), (.int .i64 (0 : Int)), (.int .i64 (0 : Int)), (.int .i64 (0 : Int)), (.slice none 0 0), (.int .i64 (0 : Int)), (.int .i64 (0 : Int)), (.int .i64 (0 : Int)), (.bool false)] fun w7 =>
          (∃ r_02 r_14 r_22 r_32 r_42 r_52 r_62 r_72 : Int, ∃ r_8_a2 : Option Addr, ∃ r_8_l2 r_8_c2 : Nat, ∃ r_92 r_102 r_112 : Int, ∃ r_122 : Bool, cellsAt w7 ⟨b1, 0, none⟩ 0 [(.int .i64 r_02), (.int .i64 r_14), (.int .i64 r_22), (.int .i64 r_32), (.int .i64 r_42), (.int .i64 r_52), (.int .i64 r_62), (.int .i64 r_72), (.slice r_8_a2 r_8_l2 r_8_c2), (.int .i64 r_92), (.int .i64 r_102), (.int .i64 r_112), (.bool r_122)] ∧
          R (.tuple #[(.agg #[.int .i64 r_02, .int .i64 r_14, .int .i64 r_22, .int .i64 r_32, .int .i64 r_42, .int .i64 r_52, .int .i64 r_62, .int .i64 r_72, .slice r_8_a2 r_8_l2 r_8_c2, .int .i64 r_92, .int .i64 r_102, .int .i64 r_112, .bool r_122]), (.int .i64 (2 : Int))]) w7)))
          ((kDrew w6 fun w8 =>
          (∃ S : Nat → Prop,
          (kLd w8 ⟨b, 0, none⟩ .i64 fun x3 =>
          (kLd w8 ⟨b, 6, none⟩ .i64 fun x4 =>
          (kLd w8 ⟨b, 7, none⟩ .i64 fun x5 =>
          (S b ∧
          (kLd w8 ⟨b, 0, none⟩ .i64 fun x6 =>
          (kW .i64 (x6 - (1 : Int)) fun x7 =>
          (kW .u64 (x7) fun x8 =>
          (0 ≤ x8 ∧ (kW .i64 ((1 : Int) * 2 ^ (min x8.toNat (IntKind.bits .i64))) fun x9 =>
          (Calls Try.prog N_ref20_Place #[(.int .i64 x3), (.int .i64 x4), (.int .i64 x5)] w8 fun e_1 w9 =>
          ∃ r1 : Int, e_1 = .returned (.int .i64 r1) ∧
          (KeepsB S w8 w9 ∧ (kLet (decide (r1 = x9)) fun x10 =>
          (bsplit x10
            ((sxStore w9 ⟨b1, 0, none⟩ 0 [(.int .i64 (0 : Int)), (.int .i64 (0 : Int)), (.int .i64 (0 : Int)), (.int .i64 (0 : Int)), (.int .i64 (0 : Int)), (.int .i64 (0 : Int)), (.int .i64 (0 : Int)), (.int .i64 (0 : Int)), (.slice none 0 0), (.int .i64 (0 : Int)), (.int .i64 (0 : Int)), (.int .i64 (0 : Int)), (.bool false)] fun w10 =>
            (∃ r_03 r_15 r_23 r_33 r_43 r_53 r_63 r_73 : Int, ∃ r_8_a3 : Option Addr, ∃ r_8_l3 r_8_c3 : Nat, ∃ r_93 r_103 r_113 : Int, ∃ r_123 : Bool, cellsAt w10 ⟨b1, 0, none⟩ 0 [(.int .i64 r_03), (.int .i64 r_15), (.int .i64 r_23), (.int .i64 r_33), (.int .i64 r_43), (.int .i64 r_53), (.int .i64 r_63), (.int .i64 r_73), (.slice r_8_a3 r_8_l3 r_8_c3), (.int .i64 r_93), (.int .i64 r_103), (.int .i64 r_113), (.bool r_123)] ∧
            R (.tuple #[(.agg #[.int .i64 r_03, .int .i64 r_15, .int .i64 r_23, .int .i64 r_33, .int .i64 r_43, .int .i64 r_53, .int .i64 r_63, .int .i64 r_73, .slice r_8_a3 r_8_l3 r_8_c3, .int .i64 r_93, .int .i64 r_103, .int .i64 r_113, .bool r_123]), (.int .i64 (13 : Int))]) w10)))
            ((∃ x_01 x_13 x_21 x_31 x_41 x_51 x_61 x_71 : Int, ∃ x_8_a1 : Option Addr, ∃ x_8_l1 x_8_c1 : Nat, ∃ x_91 x_101 x_111 : Int, ∃ x_121 : Bool, cellsAt w9 ⟨b, 0, none⟩ 0 [(.int .i64 x_01), (.int .i64 x_13), (.int .i64 x_21), (.int .i64 x_31), (.int .i64 x_41), (.int .i64 x_51), (.int .i64 x_61), (.int .i64 x_71), (.slice x_8_a1 x_8_l1 x_8_c1), (.int .i64 x_91), (.int .i64 x_101), (.int .i64 x_111), (.bool x_121)] ∧
            (Calls Try.prog N_ref20_Copy #[(.agg #[.int .i64 x_01, .int .i64 x_13, .int .i64 x_21, .int .i64 x_31, .int .i64 x_41, .int .i64 x_51, .int .i64 x_61, .int .i64 x_71, .slice x_8_a1 x_8_l1 x_8_c1, .int .i64 x_91, .int .i64 x_101, .int .i64 x_111, .bool x_121])] w9 fun e_2 w11 =>
            ∃ r_04 r_16 r_24 r_34 r_44 r_54 r_64 r_74 : Int, ∃ r_8_a4 : Option Addr, ∃ r_8_l4 r_8_c4 : Nat, ∃ r_94 r_104 r_114 : Int, ∃ r_124 : Bool, e_2 = .returned (.agg #[.int .i64 r_04, .int .i64 r_16, .int .i64 r_24, .int .i64 r_34, .int .i64 r_44, .int .i64 r_54, .int .i64 r_64, .int .i64 r_74, .slice r_8_a4 r_8_l4 r_8_c4, .int .i64 r_94, .int .i64 r_104, .int .i64 r_114, .bool r_124]) ∧
            (kAlloc w11 #[.int .i64 (0 : Int), .int .i64 (0 : Int), .int .i64 (0 : Int), .int .i64 (0 : Int), .int .i64 (0 : Int), .int .i64 (0 : Int), .int .i64 (0 : Int), .int .i64 (0 : Int), .slice none 0 0, .int .i64 (0 : Int), .int .i64 (0 : Int), .int .i64 (0 : Int), .bool false] Ty_api_Sender fun b2 w12 =>
            (sxStore w12 ⟨b2, 0, none⟩ 0 [(.int .i64 r_04), (.int .i64 r_16), (.int .i64 r_24), (.int .i64 r_34), (.int .i64 r_44), (.int .i64 r_54), (.int .i64 r_64), (.int .i64 r_74), (.slice r_8_a4 r_8_l4 r_8_c4), (.int .i64 r_94), (.int .i64 r_104), (.int .i64 r_114), (.bool r_124)] fun w13 =>
            (kDrew w13 fun w14 =>
            (∃ S1 : Nat → Prop,
            (S1 b2 ∧
            (kLdS w14 ⟨b2, 8, none⟩ fun x_a x_l x_c =>
            (S1 b ∧
            (kLd w14 ⟨b, 7, none⟩ .i64 fun x11 =>
            (AppP Try.prog #[Ty_S_uint8, Ty_S_uint8] Ty_S_uint8 #[(.slice none 0 0), (.slice data_a data_l data_c)] w14 fun x_a1 x_l1 x_c1 w15 =>
            (KeepsB S1 w14 w15 ∧ (KeepsB S1 w14 w15 ∧ (kAlloc w15 #[(.int .i64 x11), (.slice x_a1 x_l1 x_c1), (.int .i64 (0 : Int)), (.int .i64 (0 : Int)), (.slice none 0 0)] Ty_api_Unit fun b3 w16 =>
            (KeepsB S1 w14 w16 ∧ (AppP Try.prog #[Ty_S_api_Unit, Ty_S_api_Unit] Ty_S_api_Unit #[(.slice x_a x_l x_c), (.slice (some ⟨b3, 0, none⟩) 1 1)] w16 fun x_a2 x_l2 x_c2 w17 =>
            (KeepsB S1 w14 w17 ∧ (kSet w17 ⟨b2, 8, none⟩ (.slice x_a2 x_l2 x_c2) fun w18 =>
            (kLd w18 ⟨b, 0, none⟩ .i64 fun x12 =>
            (kLd w18 ⟨b, 7, none⟩ .i64 fun x13 =>
            (kW .i64 (x13 + (1 : Int)) fun x14 =>
            (Calls Try.prog N_ref02_Low #[(.int .i64 x12), (.int .i64 x14)] w18 fun e_3 w19 =>
            ∃ r2 : Int, e_3 = .returned (.int .i64 r2) ∧
            (kSet w19 ⟨b2, 7, none⟩ (.int .i64 r2) fun w20 =>
            (∃ x_02 x_14 x_22 x_32 x_42 x_52 x_62 x_72 : Int, ∃ x_8_a2 : Option Addr, ∃ x_8_l2 x_8_c2 : Nat, ∃ x_92 x_102 x_112 : Int, ∃ x_122 : Bool, cellsAt w20 ⟨b2, 0, none⟩ 0 [(.int .i64 x_02), (.int .i64 x_14), (.int .i64 x_22), (.int .i64 x_32), (.int .i64 x_42), (.int .i64 x_52), (.int .i64 x_62), (.int .i64 x_72), (.slice x_8_a2 x_8_l2 x_8_c2), (.int .i64 x_92), (.int .i64 x_102), (.int .i64 x_112), (.bool x_122)] ∧
            (sxStore w20 ⟨b1, 0, none⟩ 0 [(.int .i64 x_02), (.int .i64 x_14), (.int .i64 x_22), (.int .i64 x_32), (.int .i64 x_42), (.int .i64 x_52), (.int .i64 x_62), (.int .i64 x_72), (.slice x_8_a2 x_8_l2 x_8_c2), (.int .i64 x_92), (.int .i64 x_102), (.int .i64 x_112), (.bool x_122)] fun w21 =>
            (∃ r_05 r_17 r_25 r_35 r_45 r_55 r_65 r_75 : Int, ∃ r_8_a5 : Option Addr, ∃ r_8_l5 r_8_c5 : Nat, ∃ r_95 r_105 r_115 : Int, ∃ r_125 : Bool, cellsAt w21 ⟨b1, 0, none⟩ 0 [(.int .i64 r_05), (.int .i64 r_17), (.int .i64 r_25), (.int .i64 r_35), (.int .i64 r_45), (.int .i64 r_55), (.int .i64 r_65), (.int .i64 r_75), (.slice r_8_a5 r_8_l5 r_8_c5), (.int .i64 r_95), (.int .i64 r_105), (.int .i64 r_115), (.bool r_125)] ∧
            R (.tuple #[(.agg #[.int .i64 r_05, .int .i64 r_17, .int .i64 r_25, .int .i64 r_35, .int .i64 r_45, .int .i64 r_55, .int .i64 r_65, .int .i64 r_75, .slice r_8_a5 r_8_l5 r_8_c5, .int .i64 r_95, .int .i64 r_105, .int .i64 r_115, .bool r_125]), (.int .i64 (0 : Int))]) w21))))))))))))))))))))))))))))))))))))))))))))) ∧
      (bsplit (decide ((data_l : Int) < (1 : Int)))
        (J true w3)
        ((kLet (decide ((data_l : Int) > (2054 : Int))) fun x1 =>
        J x1 w3)))))))))))))
theorem F_ref20_Submit_eq (s_0 : Int) (s_1 : Int) (s_2 : Int) (s_3 : Int) (s_4 : Int) (s_5 : Int) (s_6 : Int) (s_7 : Int) (s_8_a : Option Addr) (s_8_l : Nat) (s_8_c : Nat) (s_9 : Int) (s_10 : Int) (s_11 : Int) (s_12 : Bool) (data_a : Option Addr) (data_l : Nat) (data_c : Nat) (w : World) (R : Value → World → Prop) : sxFn Try.prog TT h_ref20_Submit Try.f60 #[(.agg #[.int .i64 s_0, .int .i64 s_1, .int .i64 s_2, .int .i64 s_3, .int .i64 s_4, .int .i64 s_5, .int .i64 s_6, .int .i64 s_7, .slice s_8_a s_8_l s_8_c, .int .i64 s_9, .int .i64 s_10, .int .i64 s_11, .bool s_12]), (.slice data_a data_l data_c)] w R = F_ref20_Submit s_0 s_1 s_2 s_3 s_4 s_5 s_6 s_7 s_8_a s_8_l s_8_c s_9 s_10 s_11 s_12 data_a data_l data_c w R := by kernel_rfl
theorem F_ref20_Submit_ok {R : Ending → World → Prop} (s_0 : Int) (s_1 : Int) (s_2 : Int) (s_3 : Int) (s_4 : Int) (s_5 : Int) (s_6 : Int) (s_7 : Int) (s_8_a : Option Addr) (s_8_l : Nat) (s_8_c : Nat) (s_9 : Int) (s_10 : Int) (s_11 : Int) (s_12 : Bool) (data_a : Option Addr) (data_l : Nat) (data_c : Nat) (w : World) (h : F_ref20_Submit s_0 s_1 s_2 s_3 s_4 s_5 s_6 s_7 s_8_a s_8_l s_8_c s_9 s_10 s_11 s_12 data_a data_l data_c w fun v w' => R (.returned v) w') : Calls Try.prog N_ref20_Submit #[(.agg #[.int .i64 s_0, .int .i64 s_1, .int .i64 s_2, .int .i64 s_3, .int .i64 s_4, .int .i64 s_5, .int .i64 s_6, .int .i64 s_7, .slice s_8_a s_8_l s_8_c, .int .i64 s_9, .int .i64 s_10, .int .i64 s_11, .bool s_12]), (.slice data_a data_l data_c)] w R :=
  calls_of (f := 60) follows_ok Try.func60 (Eq.mpr (F_ref20_Submit_eq s_0 s_1 s_2 s_3 s_4 s_5 s_6 s_7 s_8_a s_8_l s_8_c s_9 s_10 s_11 s_12 data_a data_l data_c w _) h)

def h_ref20_Build : H := (.seq .reg (.cut [] [5, 6, 20, 21, 22, 23, 24, 25, 26, 27, 28, 29, 30, 31, 32, 33, 34, 35, 36] (.block (.seq .reg (.cond (.seq .reg .leaf) (.seq .reg (.cond (.seq .reg .leaf) (.seq .reg (.cond (.seq .reg .leaf) .leaf))))))) (.seq .reg (.seq (.seq .reg (.cond (.seq .reg .leaf) .leaf)) (.seq .reg (.seq .reg (.cut [(13, .p .addr)] [13, 53, 54, 55, 56, 57, 58, 59, 60, 61, 62, 63, 64, 65] (.draw .blk (.one 0 .stable (.one 1 .stable (.one 2 .stable (.one 3 .stable (.one 4 .stable (.one 5 .stable (.one 6 .stable (.one 7 .stable (.one 8 .stable (.one 9 .stable (.one 10 .stable (.one 11 .stable (.alt 12 (.one 13 .keep (.one 14 .last .nil)) (.alt 13 (.one 12 .keep (.one 14 .last .nil)) .endAlt))))))))))))))) (.cut [] [66, 67, 68, 69, 70, 71, 72, 73, 74, 75, 76, 77, 78, 79, 80, 81, 82, 83, 84, 85, 86, 87, 88, 89, 90, 91] (.block (.cut [(66, .p .bool)] [66, 67, 68, 69, 70, 71, 72, 73, 74, 75, 76, 77] .reg (.cond .reg (.seq .reg (.cond .reg (.seq .reg (.cond .reg .leaf))))))) (.seq .reg (.seq (.seq .reg (.cond (.seq .reg .leaf) .leaf)) (.seq .reg (.cut [] [111, 112, 113, 114, 115, 116, 117, 118, 119, 120, 121, 122, 123, 124, 125, 126, 127, 128, 129, 130, 131, 132, 133, 134, 135, 136, 137, 138] (.seq .reg (.cond (.seq .reg (.seq .reg (.cond .reg .leaf))) .reg)) (.seq .reg (.cut [] [17, 143, 144, 145, 146, 147, 148, 149, 150, 151, 152, 153, 154, 155, 156, 157, 158, 159, 160, 161, 162, 163, 164, 165, 166, 167, 168, 169, 170, 171, 172, 173, 174, 175, 176, 177, 178, 179, 180] (.cut [(153, .p .bool)] [143, 144, 145, 146, 147, 148, 149, 150, 151, 152, 153] .reg (.cond (.seq .reg (.seq .reg (.seq (.seq .reg (.block (.loop [(17, .p (.int .i64))] [17, 156, 157, 158, 159, 160, 161, 162, 163, 164, 165, 166, 167, 168, 169, 170, 171, 172, 173, 174, 175, 176] (.seq (.seq .reg (.cond .leaf .leaf)) (.seq (.block (.seq .reg (.cond .reg .leaf))) .reg))))) .reg))) .leaf)) (.seq .reg (.seq .reg .leaf))))))))))))))))
def F_ref20_Build (s_0 : Int) (s_1 : Int) (s_2 : Int) (s_3 : Int) (s_4 : Int) (s_5 : Int) (s_6 : Int) (s_7 : Int) (s_8_a : Option Addr) (s_8_l : Nat) (s_8_c : Nat) (s_9 : Int) (s_10 : Int) (s_11 : Int) (s_12 : Bool) (size : Int) (w : World) (R : Value → World → Prop) : Prop :=
  (kAlloc w #[(.int .i64 s_0), (.int .i64 s_1), (.int .i64 s_2), (.int .i64 s_3), (.int .i64 s_4), (.int .i64 s_5), (.int .i64 s_6), (.int .i64 s_7), (.slice s_8_a s_8_l s_8_c), (.int .i64 s_9), (.int .i64 s_10), (.int .i64 s_11), (.bool s_12)] Ty_api_Sender fun b w1 =>
  (kAlloc w1 #[.int .i64 (0 : Int), .int .i64 (0 : Int), .int .i64 (0 : Int), .int .i64 (0 : Int), .int .i64 (0 : Int), .int .i64 (0 : Int), .int .i64 (0 : Int), .int .i64 (0 : Int), .slice none 0 0, .int .i64 (0 : Int), .int .i64 (0 : Int), .int .i64 (0 : Int), .bool false] Ty_api_Sender fun b1 w2 =>
  (∃ J : World → Prop,
  (∀ (_junk : Env)  (w8 : World), J w8 →
    (∃ x_01 x_13 x_21 x_31 x_41 x_51 x_61 x_71 : Int, ∃ x_8_a1 : Option Addr, ∃ x_8_l1 x_8_c1 : Nat, ∃ x_91 x_101 x_111 : Int, ∃ x_121 : Bool, cellsAt w8 ⟨b, 0, none⟩ 0 [(.int .i64 x_01), (.int .i64 x_13), (.int .i64 x_21), (.int .i64 x_31), (.int .i64 x_41), (.int .i64 x_51), (.int .i64 x_61), (.int .i64 x_71), (.slice x_8_a1 x_8_l1 x_8_c1), (.int .i64 x_91), (.int .i64 x_101), (.int .i64 x_111), (.bool x_121)] ∧
    (Calls Try.prog N_ref20_todo #[(.agg #[.int .i64 x_01, .int .i64 x_13, .int .i64 x_21, .int .i64 x_31, .int .i64 x_41, .int .i64 x_51, .int .i64 x_61, .int .i64 x_71, .slice x_8_a1 x_8_l1 x_8_c1, .int .i64 x_91, .int .i64 x_101, .int .i64 x_111, .bool x_121])] w8 fun e_1 w9 =>
    ∃ r1 r2 r3 : Int, ∃ r4 : Bool, e_1 = .returned (.tuple #[(.int .i64 r1), (.int .i64 r2), (.int .i64 r3), (.bool r4)]) ∧
    (bsplit (!r4)
      ((sxStore w9 ⟨b1, 0, none⟩ 0 [(.int .i64 (0 : Int)), (.int .i64 (0 : Int)), (.int .i64 (0 : Int)), (.int .i64 (0 : Int)), (.int .i64 (0 : Int)), (.int .i64 (0 : Int)), (.int .i64 (0 : Int)), (.int .i64 (0 : Int)), (.slice none 0 0), (.int .i64 (0 : Int)), (.int .i64 (0 : Int)), (.int .i64 (0 : Int)), (.bool false)] fun w10 =>
      (∃ r_04 r_16 r_24 r_34 r_44 r_54 r_64 r_74 : Int, ∃ r_8_a4 : Option Addr, ∃ r_8_l4 r_8_c4 : Nat, ∃ r_94 r_104 r_114 : Int, ∃ r_124 : Bool, cellsAt w10 ⟨b1, 0, none⟩ 0 [(.int .i64 r_04), (.int .i64 r_16), (.int .i64 r_24), (.int .i64 r_34), (.int .i64 r_44), (.int .i64 r_54), (.int .i64 r_64), (.int .i64 r_74), (.slice r_8_a4 r_8_l4 r_8_c4), (.int .i64 r_94), (.int .i64 r_104), (.int .i64 r_114), (.bool r_124)] ∧
      R (.tuple #[(.agg #[.int .i64 r_04, .int .i64 r_16, .int .i64 r_24, .int .i64 r_34, .int .i64 r_44, .int .i64 r_54, .int .i64 r_64, .int .i64 r_74, .slice r_8_a4 r_8_l4 r_8_c4, .int .i64 r_94, .int .i64 r_104, .int .i64 r_114, .bool r_124]), (.slice none 0 0), (.int .i64 (14 : Int))]) w10)))
      ((∃ x_02 x_14 x_22 x_32 x_42 x_52 x_62 x_72 : Int, ∃ x_8_a2 : Option Addr, ∃ x_8_l2 x_8_c2 : Nat, ∃ x_92 x_102 x_112 : Int, ∃ x_122 : Bool, cellsAt w9 ⟨b, 0, none⟩ 0 [(.int .i64 x_02), (.int .i64 x_14), (.int .i64 x_22), (.int .i64 x_32), (.int .i64 x_42), (.int .i64 x_52), (.int .i64 x_62), (.int .i64 x_72), (.slice x_8_a2 x_8_l2 x_8_c2), (.int .i64 x_92), (.int .i64 x_102), (.int .i64 x_112), (.bool x_122)] ∧
      (Calls Try.prog N_ref20_Copy #[(.agg #[.int .i64 x_02, .int .i64 x_14, .int .i64 x_22, .int .i64 x_32, .int .i64 x_42, .int .i64 x_52, .int .i64 x_62, .int .i64 x_72, .slice x_8_a2 x_8_l2 x_8_c2, .int .i64 x_92, .int .i64 x_102, .int .i64 x_112, .bool x_122])] w9 fun e_2 w11 =>
      ∃ r_05 r_17 r_25 r_35 r_45 r_55 r_65 r_75 : Int, ∃ r_8_a5 : Option Addr, ∃ r_8_l5 r_8_c5 : Nat, ∃ r_95 r_105 r_115 : Int, ∃ r_125 : Bool, e_2 = .returned (.agg #[.int .i64 r_05, .int .i64 r_17, .int .i64 r_25, .int .i64 r_35, .int .i64 r_45, .int .i64 r_55, .int .i64 r_65, .int .i64 r_75, .slice r_8_a5 r_8_l5 r_8_c5, .int .i64 r_95, .int .i64 r_105, .int .i64 r_115, .bool r_125]) ∧
      (kAlloc w11 #[.int .i64 (0 : Int), .int .i64 (0 : Int), .int .i64 (0 : Int), .int .i64 (0 : Int), .int .i64 (0 : Int), .int .i64 (0 : Int), .int .i64 (0 : Int), .int .i64 (0 : Int), .slice none 0 0, .int .i64 (0 : Int), .int .i64 (0 : Int), .int .i64 (0 : Int), .bool false] Ty_api_Sender fun b2 w12 =>
      (sxStore w12 ⟨b2, 0, none⟩ 0 [(.int .i64 r_05), (.int .i64 r_17), (.int .i64 r_25), (.int .i64 r_35), (.int .i64 r_45), (.int .i64 r_55), (.int .i64 r_65), (.int .i64 r_75), (.slice r_8_a5 r_8_l5 r_8_c5), (.int .i64 r_95), (.int .i64 r_105), (.int .i64 r_115), (.bool r_125)] fun w13 =>
      (kLdS w13 ⟨b2, 8, none⟩ fun x_a x_l _ =>
      (kIx x_a x_l r1 fun b3 =>
      (∃ J1 : Addr → World → Prop,
      (∀ (_junk : Env) (p : Addr) (w19 : World), J1 p w19 →
        (∃ J2 : World → Prop,
        (∀ (_junk : Env)  (w24 : World), J2 w24 →
          (kLd w24 ⟨b, 0, none⟩ .i64 fun x7 =>
          (∃ x_03 x_15 x_23 x_33 : Int, ∃ x_4_a : Option Addr, ∃ x_4_l x_4_c : Nat, cellsAt w24 p 0 [(.int .i64 x_03), (.int .i64 x_15), (.int .i64 x_23), (.int .i64 x_33), (.slice x_4_a x_4_l x_4_c)] ∧
          (Calls Try.prog N_ref18_Cut #[(.int .i64 x7), (.agg #[.int .i64 x_03, .int .i64 x_15, .int .i64 x_23, .int .i64 x_33, .slice x_4_a x_4_l x_4_c]), (.int .i64 size)] w24 fun e_3 w25 =>
          ∃ r_06 r_18 r_26 r_36 : Int, ∃ r_4_a : Option Addr, ∃ r_4_l r_4_c : Nat, ∃ r_07 r_19 r_27 r_37 : Int, ∃ r_4_a1 : Option Addr, ∃ r_4_l1 r_4_c1 : Nat, ∃ r5 : Int, e_3 = .returned (.tuple #[(.agg #[.int .i64 r_06, .int .i64 r_18, .int .i64 r_26, .int .i64 r_36, .slice r_4_a r_4_l r_4_c]), (.agg #[.int .i64 r_07, .int .i64 r_19, .int .i64 r_27, .int .i64 r_37, .slice r_4_a1 r_4_l1 r_4_c1]), (.int .i64 r5)]) ∧
          (kAlloc w25 #[.int .i64 (0 : Int), .int .i64 (0 : Int), .int .i64 (0 : Int), .int .i64 (0 : Int), .slice none 0 0] Ty_api_Piece fun b6 w26 =>
          (sxStore w26 p 0 [(.int .i64 r_06), (.int .i64 r_18), (.int .i64 r_26), (.int .i64 r_36), (.slice r_4_a r_4_l r_4_c)] fun w27 =>
          (sxStore w27 ⟨b6, 0, none⟩ 0 [(.int .i64 r_07), (.int .i64 r_19), (.int .i64 r_27), (.int .i64 r_37), (.slice r_4_a1 r_4_l1 r_4_c1)] fun w28 =>
          (bsplit (!decide (r5 = (0 : Int)))
            ((sxStore w28 ⟨b1, 0, none⟩ 0 [(.int .i64 (0 : Int)), (.int .i64 (0 : Int)), (.int .i64 (0 : Int)), (.int .i64 (0 : Int)), (.int .i64 (0 : Int)), (.int .i64 (0 : Int)), (.int .i64 (0 : Int)), (.int .i64 (0 : Int)), (.slice none 0 0), (.int .i64 (0 : Int)), (.int .i64 (0 : Int)), (.int .i64 (0 : Int)), (.bool false)] fun w29 =>
            (∃ r_08 r_110 r_28 r_38 r_46 r_56 r_66 r_76 : Int, ∃ r_8_a6 : Option Addr, ∃ r_8_l6 r_8_c6 : Nat, ∃ r_96 r_106 r_116 : Int, ∃ r_126 : Bool, cellsAt w29 ⟨b1, 0, none⟩ 0 [(.int .i64 r_08), (.int .i64 r_110), (.int .i64 r_28), (.int .i64 r_38), (.int .i64 r_46), (.int .i64 r_56), (.int .i64 r_66), (.int .i64 r_76), (.slice r_8_a6 r_8_l6 r_8_c6), (.int .i64 r_96), (.int .i64 r_106), (.int .i64 r_116), (.bool r_126)] ∧
            R (.tuple #[(.agg #[.int .i64 r_08, .int .i64 r_110, .int .i64 r_28, .int .i64 r_38, .int .i64 r_46, .int .i64 r_56, .int .i64 r_66, .int .i64 r_76, .slice r_8_a6 r_8_l6 r_8_c6, .int .i64 r_96, .int .i64 r_106, .int .i64 r_116, .bool r_126]), (.slice none 0 0), (.int .i64 r5)]) w29)))
            ((kLdS w28 (p.add 4) fun _ x_l4 _ =>
            (kW .i64 (r2 + (x_l4 : Int)) fun x8 =>
            (∃ J4 : World → Prop,
            (∀ (_junk : Env)  (w33 : World), J4 w33 →
              (kLd w33 ⟨b2, 9, none⟩ .i64 fun x9 =>
              (kW .i64 (x9 + (1 : Int)) fun x10 =>
              (kSet w33 ⟨b2, 9, none⟩ (.int .i64 x10) fun w34 =>
              (∃ J5 : World → Prop,
              (∀ (_junk : Env)  (w42 : World), J5 w42 →
                (kLd w42 ⟨b, 0, none⟩ .i64 fun x19 =>
                (∃ x_05 x_17 x_25 x_35 : Int, ∃ x_4_a1 : Option Addr, ∃ x_4_l1 x_4_c1 : Nat, cellsAt w42 p 0 [(.int .i64 x_05), (.int .i64 x_17), (.int .i64 x_25), (.int .i64 x_35), (.slice x_4_a1 x_4_l1 x_4_c1)] ∧
                (Calls Try.prog N_ref18_Encode #[(.int .i64 x19), (.agg #[.int .i64 x_05, .int .i64 x_17, .int .i64 x_25, .int .i64 x_35, .slice x_4_a1 x_4_l1 x_4_c1])] w42 fun e_5 w43 =>
                ∃ r_a : Option Addr, ∃ r_l r_c : Nat, ∃ r7 : Int, e_5 = .returned (.tuple #[(.slice r_a r_l r_c), (.int .i64 r7)]) ∧
                (∃ x_06 x_18 x_26 x_36 x_44 x_54 x_64 x_74 : Int, ∃ x_8_a4 : Option Addr, ∃ x_8_l4 x_8_c4 : Nat, ∃ x_94 x_104 x_114 : Int, ∃ x_124 : Bool, cellsAt w43 ⟨b2, 0, none⟩ 0 [(.int .i64 x_06), (.int .i64 x_18), (.int .i64 x_26), (.int .i64 x_36), (.int .i64 x_44), (.int .i64 x_54), (.int .i64 x_64), (.int .i64 x_74), (.slice x_8_a4 x_8_l4 x_8_c4), (.int .i64 x_94), (.int .i64 x_104), (.int .i64 x_114), (.bool x_124)] ∧
                (sxStore w43 ⟨b1, 0, none⟩ 0 [(.int .i64 x_06), (.int .i64 x_18), (.int .i64 x_26), (.int .i64 x_36), (.int .i64 x_44), (.int .i64 x_54), (.int .i64 x_64), (.int .i64 x_74), (.slice x_8_a4 x_8_l4 x_8_c4), (.int .i64 x_94), (.int .i64 x_104), (.int .i64 x_114), (.bool x_124)] fun w44 =>
                (∃ r_09 r_117 r_29 r_39 r_47 r_57 r_67 r_77 : Int, ∃ r_8_a7 : Option Addr, ∃ r_8_l7 r_8_c7 : Nat, ∃ r_97 r_107 r_118 : Int, ∃ r_127 : Bool, cellsAt w44 ⟨b1, 0, none⟩ 0 [(.int .i64 r_09), (.int .i64 r_117), (.int .i64 r_29), (.int .i64 r_39), (.int .i64 r_47), (.int .i64 r_57), (.int .i64 r_67), (.int .i64 r_77), (.slice r_8_a7 r_8_l7 r_8_c7), (.int .i64 r_97), (.int .i64 r_107), (.int .i64 r_118), (.bool r_127)] ∧
                R (.tuple #[(.agg #[.int .i64 r_09, .int .i64 r_117, .int .i64 r_29, .int .i64 r_39, .int .i64 r_47, .int .i64 r_57, .int .i64 r_67, .int .i64 r_77, .slice r_8_a7 r_8_l7 r_8_c7, .int .i64 r_97, .int .i64 r_107, .int .i64 r_118, .bool r_127]), (.slice r_a r_l r_c), (.int .i64 (0 : Int))]) w44))))))) ∧
              (∃ J6 : Bool → World → Prop,
              (∀ (_junk : Env) (x13 : Bool) (w36 : World), J6 x13 w36 →
                (bsplit x13
                  ((kSet w36 (p.add 2) (.int .i64 (1 : Int)) fun w37 =>
                  (kSet w37 ⟨b2, 9, none⟩ (.int .i64 (0 : Int)) fun w38 =>
                  (∃ I : Int → Nat × (World → Prop), (I (0 : Int)).2 w38 ∧
                  (∀ (_junk : Env) (k : Int) (w39 : World), (I k).2 w39 →
                    (kLdS w39 ⟨b2, 8, none⟩ fun _ x_l8 _ =>
                    (bsplit (decide (k < (x_l8 : Int)))
                      ((kLdS w39 ⟨b2, 8, none⟩ fun x_a9 x_l9 _ =>
                      (kIx x_a9 x_l9 k fun b8 =>
                      (kLd w39 ((b8.add (k.toNat * 5)).add 2) .i64 fun x14 =>
                      (bsplit (decide (x14 > (0 : Int)))
                        ((kLdS w39 ⟨b2, 8, none⟩ fun x_a10 x_l10 _ =>
                        (kIx x_a10 x_l10 k fun b9 =>
                        (kLd w39 (b9.add (k.toNat * 5)) .i64 fun x15 =>
                        (kSet w39 ⟨b2, 10, none⟩ (.int .i64 x15) fun w40 =>
                        (kW .i64 (k + (1 : Int)) fun x16 =>
                        ((I x16).2 w40 ∧ (I x16).1 < (I k).1)))))))
                        ((kW .i64 (k + (1 : Int)) fun x17 =>
                        ((I x17).2 w39 ∧ (I x17).1 < (I k).1))))))))
                      ((kLd w39 ⟨b, 2, none⟩ .i64 fun x18 =>
                      (kSet w39 ⟨b2, 11, none⟩ (.int .i64 x18) fun w41 =>
                      J5 w41))))))))))
                  (J5 w36))) ∧
              (kLd w34 ⟨b2, 9, none⟩ .i64 fun x11 =>
              (kLd w34 ⟨b, 1, none⟩ .i64 fun x12 =>
              (bsplit (decide (x11 = x12))
                (J6 true w34)
                ((∃ x_04 x_16 x_24 x_34 x_43 x_53 x_63 x_73 : Int, ∃ x_8_a3 : Option Addr, ∃ x_8_l3 x_8_c3 : Nat, ∃ x_93 x_103 x_113 : Int, ∃ x_123 : Bool, cellsAt w34 ⟨b2, 0, none⟩ 0 [(.int .i64 x_04), (.int .i64 x_16), (.int .i64 x_24), (.int .i64 x_34), (.int .i64 x_43), (.int .i64 x_53), (.int .i64 x_63), (.int .i64 x_73), (.slice x_8_a3 x_8_l3 x_8_c3), (.int .i64 x_93), (.int .i64 x_103), (.int .i64 x_113), (.bool x_123)] ∧
                (Calls Try.prog N_ref20_Left #[(.agg #[.int .i64 x_04, .int .i64 x_16, .int .i64 x_24, .int .i64 x_34, .int .i64 x_43, .int .i64 x_53, .int .i64 x_63, .int .i64 x_73, .slice x_8_a3 x_8_l3 x_8_c3, .int .i64 x_93, .int .i64 x_103, .int .i64 x_113, .bool x_123])] w34 fun e_4 w35 =>
                ∃ r6 : Bool, e_4 = .returned (.bool r6) ∧
                J6 (!r6) w35)))))))))))) ∧
            (kLdS w28 ((b3.add (r1.toNat * 5)).add 4) fun _ x_l5 _ =>
            (bsplit (decide ((x_l5 : Int) > (0 : Int)))
              ((kLdS w28 ((b3.add (r1.toNat * 5)).add 4) fun x_a6 x_l6 _ =>
              (kIx x_a6 x_l6 (0 : Int) fun b7 =>
              (kSet w28 ((b7.add ((0 : Int).toNat * 3)).add 1) (.int .i64 x8) fun w30 =>
              (bsplit (decide (x8 = r3))
                ((kLdS w30 ((b3.add (r1.toNat * 5)).add 4) fun x_a7 x_l7 x_c7 =>
                ((0 ≤ (1 : Int) ∧ (1 : Int) ≤ ((x_l7 : Nat) : Int)) ∧ (kSet w30 ((b3.add (r1.toNat * 5)).add 4) (.slice (slAddr x_c7 ((1 : Int).toNat) 3 x_a7) (x_l7 - (1 : Int).toNat) (x_c7 - (1 : Int).toNat)) fun w31 =>
                J4 w31))))
                (J4 w30))))))
              ((kSet w28 ((b3.add (r1.toNat * 5)).add 2) (.int .i64 x8) fun w32 =>
              J4 w32)))))))))))))))) ∧
        (∃ J3 : Bool → World → Prop,
        (∀ (_junk : Env) (x4 : Bool) (w20 : World), J3 x4 w20 →
          (bsplit x4
            ((kSet w20 (p.add 1) (.int .i64 (0 : Int)) fun w21 =>
            J2 w21))
            ((kLet (decide (r2 = (0 : Int))) fun x5 =>
            (bsplit x5
              ((kSet w20 (p.add 1) (.int .i64 (1 : Int)) fun w22 =>
              J2 w22))
              ((kLdS w20 ((b3.add (r1.toNat * 5)).add 1) fun _ x_l3 _ =>
              (kLet (decide (r3 = (x_l3 : Int))) fun x6 =>
              (bsplit x6
                ((kSet w20 (p.add 1) (.int .i64 (2 : Int)) fun w23 =>
                J2 w23))
                (J2 w20)))))))))) ∧
        (bsplit (decide (r2 = (0 : Int)))
          ((kLdS w19 ((b3.add (r1.toNat * 5)).add 1) fun _ x_l2 _ =>
          (kLet (decide (r3 = (x_l2 : Int))) fun x3 =>
          J3 x3 w19)))
          (J3 false w19))))) ∧
      (kDrew w13 fun w14 =>
      (∃ S : Nat → Prop,
      (S (b3.add (r1.toNat * 5)).block ∧
      (kLd w14 (b3.add (r1.toNat * 5)) .i64 fun x2 =>
      (S ((b3.add (r1.toNat * 5)).add 1).block ∧
      (kLdS w14 ((b3.add (r1.toNat * 5)).add 1) fun x_a1 _ x_c1 =>
      ((0 ≤ r3 ∧ r3 ≤ ((x_c1 : Nat) : Int)) ∧ ((0 ≤ r2 ∧ r2 ≤ ((r3.toNat : Nat) : Int)) ∧ ((KeepsB S w14 w14 ∧ (kAlloc w14 #[.int .i64 (0 : Int), .int .i64 (0 : Int), .int .i64 (0 : Int), .int .i64 (0 : Int), .slice none 0 0] Ty_api_Piece fun b5 w17 =>
      (KeepsB S w14 w17 ∧ (sxStore w17 ⟨b5, 0, none⟩ 0 [(.int .i64 x2), (.int .i64 (3 : Int)), (.int .i64 (0 : Int)), (.int .i64 r2), (.slice (slAddr x_c1 (r2.toNat) 1 x_a1) (r3.toNat - r2.toNat) (x_c1 - r2.toNat))] fun w18 =>
      J1 ⟨b5, 0, none⟩ w18)))) ∧
      ((kAlloc w14 #[.int .i64 (0 : Int), .int .i64 (0 : Int), .int .i64 (0 : Int), .int .i64 (0 : Int), .slice none 0 0] Ty_api_Piece fun b4 w15 =>
      (KeepsB S w14 w15 ∧ (KeepsB S w14 w15 ∧ (sxStore w15 ⟨b4, 0, none⟩ 0 [(.int .i64 x2), (.int .i64 (3 : Int)), (.int .i64 (0 : Int)), (.int .i64 r2), (.slice (slAddr x_c1 (r2.toNat) 1 x_a1) (r3.toNat - r2.toNat) (x_c1 - r2.toNat))] fun w16 =>
      J1 ⟨b4, 0, none⟩ w16)))) ∧
      True)))))))))))))))))))))) ∧
  (∃ x_0 x_1 x_2 x_3 x_4 x_5 x_6 x_7 : Int, ∃ x_8_a : Option Addr, ∃ x_8_l x_8_c : Nat, ∃ x_9 x_10 x_11 : Int, ∃ x_12 : Bool, cellsAt w2 ⟨b, 0, none⟩ 0 [(.int .i64 x_0), (.int .i64 x_1), (.int .i64 x_2), (.int .i64 x_3), (.int .i64 x_4), (.int .i64 x_5), (.int .i64 x_6), (.int .i64 x_7), (.slice x_8_a x_8_l x_8_c), (.int .i64 x_9), (.int .i64 x_10), (.int .i64 x_11), (.bool x_12)] ∧
  (Calls Try.prog N_ref20_Valid #[(.agg #[.int .i64 x_0, .int .i64 x_1, .int .i64 x_2, .int .i64 x_3, .int .i64 x_4, .int .i64 x_5, .int .i64 x_6, .int .i64 x_7, .slice x_8_a x_8_l x_8_c, .int .i64 x_9, .int .i64 x_10, .int .i64 x_11, .bool x_12])] w2 fun e_ w3 =>
  ∃ r : Bool, e_ = .returned (.bool r) ∧
  (bsplit (!r)
    ((sxStore w3 ⟨b1, 0, none⟩ 0 [(.int .i64 (0 : Int)), (.int .i64 (0 : Int)), (.int .i64 (0 : Int)), (.int .i64 (0 : Int)), (.int .i64 (0 : Int)), (.int .i64 (0 : Int)), (.int .i64 (0 : Int)), (.int .i64 (0 : Int)), (.slice none 0 0), (.int .i64 (0 : Int)), (.int .i64 (0 : Int)), (.int .i64 (0 : Int)), (.bool false)] fun w4 =>
    (∃ r_0 r_1 r_2 r_3 r_4 r_5 r_6 r_7 : Int, ∃ r_8_a : Option Addr, ∃ r_8_l r_8_c : Nat, ∃ r_9 r_10 r_11 : Int, ∃ r_12 : Bool, cellsAt w4 ⟨b1, 0, none⟩ 0 [(.int .i64 r_0), (.int .i64 r_1), (.int .i64 r_2), (.int .i64 r_3), (.int .i64 r_4), (.int .i64 r_5), (.int .i64 r_6), (.int .i64 r_7), (.slice r_8_a r_8_l r_8_c), (.int .i64 r_9), (.int .i64 r_10), (.int .i64 r_11), (.bool r_12)] ∧
    R (.tuple #[(.agg #[.int .i64 r_0, .int .i64 r_1, .int .i64 r_2, .int .i64 r_3, .int .i64 r_4, .int .i64 r_5, .int .i64 r_6, .int .i64 r_7, .slice r_8_a r_8_l r_8_c, .int .i64 r_9, .int .i64 r_10, .int .i64 r_11, .bool r_12]), (.slice none 0 0), (.int .i64 (1 : Int))]) w4)))
    ((kLdB w3 ⟨b, 12, none⟩ fun x =>
    (bsplit x
      ((sxStore w3 ⟨b1, 0, none⟩ 0 [(.int .i64 (0 : Int)), (.int .i64 (0 : Int)), (.int .i64 (0 : Int)), (.int .i64 (0 : Int)), (.int .i64 (0 : Int)), (.int .i64 (0 : Int)), (.int .i64 (0 : Int)), (.int .i64 (0 : Int)), (.slice none 0 0), (.int .i64 (0 : Int)), (.int .i64 (0 : Int)), (.int .i64 (0 : Int)), (.bool false)] fun w5 =>
      (∃ r_01 r_13 r_21 r_31 r_41 r_51 r_61 r_71 : Int, ∃ r_8_a1 : Option Addr, ∃ r_8_l1 r_8_c1 : Nat, ∃ r_91 r_101 r_111 : Int, ∃ r_121 : Bool, cellsAt w5 ⟨b1, 0, none⟩ 0 [(.int .i64 r_01), (.int .i64 r_13), (.int .i64 r_21), (.int .i64 r_31), (.int .i64 r_41), (.int .i64 r_51), (.int .i64 r_61), (.int .i64 r_71), (.slice r_8_a1 r_8_l1 r_8_c1), (.int .i64 r_91), (.int .i64 r_101), (.int .i64 r_111), (.bool r_121)] ∧
      R (.tuple #[(.agg #[.int .i64 r_01, .int .i64 r_13, .int .i64 r_21, .int .i64 r_31, .int .i64 r_41, .int .i64 r_51, .int .i64 r_61, .int .i64 r_71, .slice r_8_a1 r_8_l1 r_8_c1, .int .i64 r_91, .int .i64 r_101, .int .i64 r_111, .bool r_121]), (.slice none 0 0), (.int .i64 (16 : Int))]) w5)))
      ((bsplit (decide (size < (0 : Int)))
        ((sxStore w3 ⟨b1, 0, none⟩ 0 [(.int .i64 (0 : Int)), (.int .i64 (0 : Int)), (.int .i64 (0 : Int)), (.int .i64 (0 : Int)), (.int .i64 (0 : Int)), (.int .i64 (0 : Int)), (.int .i64 (0 : Int)), (.int .i64 (0 : Int)), (.slice none 0 0), (.int .i64 (0 : Int)), (.int .i64 (0 : Int)), (.int .i64 (0 : Int)), (.bool false)] fun w6 =>
          (∃ r_02 r_14 r_22 r_32 r_42 r_52 r_62 r_72 : Int, ∃ r_8_a2 : Option Addr, ∃ r_8_l2 r_8_c2 : Nat, ∃ r_92 r_102 r_112 : Int, ∃ r_122 : Bool, cellsAt w6 ⟨b1, 0, none⟩ 0 [(.int .i64 r_02), (.int .i64 r_14), (.int .i64 r_22), (.int .i64 r_32), (.int .i64 r_42), (.int .i64 r_52), (.int .i64 r_62), (.int .i64 r_72), (.slice r_8_a2 r_8_l2 r_8_c2), (.int .i64 r_92), (.int .i64 r_102), (.int .i64 r_112), (.bool r_122)] ∧
          R (.tuple #[(.agg #[.int .i64 r_02, .int .i64 r_14, .int .i64 r_22, .int .i64 r_32, .int .i64 r_42, .int .i64 r_52, .int .i64 r_62, .int .i64 r_72, .slice r_8_a2 r_8_l2 r_8_c2, .int .i64 r_92, .int .i64 r_102, .int .i64 r_112, .bool r_122]), (.slice none 0 0), (.int .i64 (3 : Int))]) w6)))
        ((kLet (decide (size > (4096 : Int))) fun x1 =>
        (bsplit x1
          ((sxStore w3 ⟨b1, 0, none⟩ 0 [(.int .i64 (0 : Int)), (.int .i64 (0 : Int)), (.int .i64 (0 : Int)), (.int .i64 (0 : Int)), (.int .i64 (0 : Int)), (.int .i64 (0 : Int)), (.int .i64 (0 : Int)), (.int .i64 (0 : Int)), (.slice none 0 0), (.int .i64 (0 : Int)), (.int .i64 (0 : Int)), (.int .i64 (0 : Int)), (.bool false)] fun w7 =>
          (∃ r_03 r_15 r_23 r_33 r_43 r_53 r_63 r_73 : Int, ∃ r_8_a3 : Option Addr, ∃ r_8_l3 r_8_c3 : Nat, ∃ r_93 r_103 r_113 : Int, ∃ r_123 : Bool, cellsAt w7 ⟨b1, 0, none⟩ 0 [(.int .i64 r_03), (.int .i64 r_15), (.int .i64 r_23), (.int .i64 r_33), (.int .i64 r_43), (.int .i64 r_53), (.int .i64 r_63), (.int .i64 r_73), (.slice r_8_a3 r_8_l3 r_8_c3), (.int .i64 r_93), (.int .i64 r_103), (.int .i64 r_113), (.bool r_123)] ∧
          R (.tuple #[(.agg #[.int .i64 r_03, .int .i64 r_15, .int .i64 r_23, .int .i64 r_33, .int .i64 r_43, .int .i64 r_53, .int .i64 r_63, .int .i64 r_73, .slice r_8_a3 r_8_l3 r_8_c3, .int .i64 r_93, .int .i64 r_103, .int .i64 r_113, .bool r_123]), (.slice none 0 0), (.int .i64 (3 : Int))]) w7)))
          (J w3)))))))))))))))
theorem F_ref20_Build_eq (s_0 : Int) (s_1 : Int) (s_2 : Int) (s_3 : Int) (s_4 : Int) (s_5 : Int) (s_6 : Int) (s_7 : Int) (s_8_a : Option Addr) (s_8_l : Nat) (s_8_c : Nat) (s_9 : Int) (s_10 : Int) (s_11 : Int) (s_12 : Bool) (size : Int) (w : World) (R : Value → World → Prop) : sxFn Try.prog TT h_ref20_Build Try.f61 #[(.agg #[.int .i64 s_0, .int .i64 s_1, .int .i64 s_2, .int .i64 s_3, .int .i64 s_4, .int .i64 s_5, .int .i64 s_6, .int .i64 s_7, .slice s_8_a s_8_l s_8_c, .int .i64 s_9, .int .i64 s_10, .int .i64 s_11, .bool s_12]), (.int .i64 size)] w R = F_ref20_Build s_0 s_1 s_2 s_3 s_4 s_5 s_6 s_7 s_8_a s_8_l s_8_c s_9 s_10 s_11 s_12 size w R := by kernel_rfl
theorem F_ref20_Build_ok {R : Ending → World → Prop} (s_0 : Int) (s_1 : Int) (s_2 : Int) (s_3 : Int) (s_4 : Int) (s_5 : Int) (s_6 : Int) (s_7 : Int) (s_8_a : Option Addr) (s_8_l : Nat) (s_8_c : Nat) (s_9 : Int) (s_10 : Int) (s_11 : Int) (s_12 : Bool) (size : Int) (w : World) (h : F_ref20_Build s_0 s_1 s_2 s_3 s_4 s_5 s_6 s_7 s_8_a s_8_l s_8_c s_9 s_10 s_11 s_12 size w fun v w' => R (.returned v) w') : Calls Try.prog N_ref20_Build #[(.agg #[.int .i64 s_0, .int .i64 s_1, .int .i64 s_2, .int .i64 s_3, .int .i64 s_4, .int .i64 s_5, .int .i64 s_6, .int .i64 s_7, .slice s_8_a s_8_l s_8_c, .int .i64 s_9, .int .i64 s_10, .int .i64 s_11, .bool s_12]), (.int .i64 size)] w R :=
  calls_of (f := 61) follows_ok Try.func61 (Eq.mpr (F_ref20_Build_eq s_0 s_1 s_2 s_3 s_4 s_5 s_6 s_7 s_8_a s_8_l s_8_c s_9 s_10 s_11 s_12 size w _) h)

def h_ref20_Tick : H := (.seq .reg (.seq (.seq .reg (.cond (.seq .reg .leaf) .leaf)) (.seq (.seq .reg (.cond (.seq .reg .leaf) .leaf)) (.seq .reg (.seq (.seq .reg (.cond (.seq .reg .leaf) .leaf)) (.seq .reg (.seq (.seq .reg (.cond (.seq .reg .leaf) .leaf)) (.seq .reg (.seq (.seq .reg (.cond (.seq .reg (.seq .reg .leaf)) .leaf)) (.seq (.seq .reg (.seq .reg (.cond (.seq .reg (.seq (.draw .blk (.one 0 .stable (.one 1 .pre (.one 2 .pre (.one 3 .pre (.one 4 .pre (.one 5 .pre (.one 6 .pre (.one 7 .pre (.one 8 .pre (.one 9 .keep (.one 10 .keep (.one 11 .stable (.one 12 .stable (.one 13 .last .nil))))))))))))))) .reg)) .leaf))) (.seq .reg .leaf)))))))))))
def F_ref20_Tick (s_0 : Int) (s_1 : Int) (s_2 : Int) (s_3 : Int) (s_4 : Int) (s_5 : Int) (s_6 : Int) (s_7 : Int) (s_8_a : Option Addr) (s_8_l : Nat) (s_8_c : Nat) (s_9 : Int) (s_10 : Int) (s_11 : Int) (s_12 : Bool) (w : World) (R : Value → World → Prop) : Prop :=
  (kAlloc w #[(.int .i64 s_0), (.int .i64 s_1), (.int .i64 s_2), (.int .i64 s_3), (.int .i64 s_4), (.int .i64 s_5), (.int .i64 s_6), (.int .i64 s_7), (.slice s_8_a s_8_l s_8_c), (.int .i64 s_9), (.int .i64 s_10), (.int .i64 s_11), (.bool s_12)] Ty_api_Sender fun b w1 =>
  (kAlloc w1 #[.int .i64 (0 : Int), .int .i64 (0 : Int), .int .i64 (0 : Int), .int .i64 (0 : Int), .int .i64 (0 : Int), .int .i64 (0 : Int), .int .i64 (0 : Int), .int .i64 (0 : Int), .slice none 0 0, .int .i64 (0 : Int), .int .i64 (0 : Int), .int .i64 (0 : Int), .bool false] Ty_api_Sender fun b1 w2 =>
  (∃ x_0 x_1 x_2 x_3 x_4 x_5 x_6 x_7 : Int, ∃ x_8_a : Option Addr, ∃ x_8_l x_8_c : Nat, ∃ x_9 x_10 x_11 : Int, ∃ x_12 : Bool, cellsAt w2 ⟨b, 0, none⟩ 0 [(.int .i64 x_0), (.int .i64 x_1), (.int .i64 x_2), (.int .i64 x_3), (.int .i64 x_4), (.int .i64 x_5), (.int .i64 x_6), (.int .i64 x_7), (.slice x_8_a x_8_l x_8_c), (.int .i64 x_9), (.int .i64 x_10), (.int .i64 x_11), (.bool x_12)] ∧
  (Calls Try.prog N_ref20_Valid #[(.agg #[.int .i64 x_0, .int .i64 x_1, .int .i64 x_2, .int .i64 x_3, .int .i64 x_4, .int .i64 x_5, .int .i64 x_6, .int .i64 x_7, .slice x_8_a x_8_l x_8_c, .int .i64 x_9, .int .i64 x_10, .int .i64 x_11, .bool x_12])] w2 fun e_ w3 =>
  ∃ r : Bool, e_ = .returned (.bool r) ∧
  (bsplit (!r)
    ((sxStore w3 ⟨b1, 0, none⟩ 0 [(.int .i64 (0 : Int)), (.int .i64 (0 : Int)), (.int .i64 (0 : Int)), (.int .i64 (0 : Int)), (.int .i64 (0 : Int)), (.int .i64 (0 : Int)), (.int .i64 (0 : Int)), (.int .i64 (0 : Int)), (.slice none 0 0), (.int .i64 (0 : Int)), (.int .i64 (0 : Int)), (.int .i64 (0 : Int)), (.bool false)] fun w4 =>
    (∃ r_0 r_1 r_2 r_3 r_4 r_5 r_6 r_7 : Int, ∃ r_8_a : Option Addr, ∃ r_8_l r_8_c : Nat, ∃ r_9 r_10 r_11 : Int, ∃ r_12 : Bool, cellsAt w4 ⟨b1, 0, none⟩ 0 [(.int .i64 r_0), (.int .i64 r_1), (.int .i64 r_2), (.int .i64 r_3), (.int .i64 r_4), (.int .i64 r_5), (.int .i64 r_6), (.int .i64 r_7), (.slice r_8_a r_8_l r_8_c), (.int .i64 r_9), (.int .i64 r_10), (.int .i64 r_11), (.bool r_12)] ∧
    R (.tuple #[(.agg #[.int .i64 r_0, .int .i64 r_1, .int .i64 r_2, .int .i64 r_3, .int .i64 r_4, .int .i64 r_5, .int .i64 r_6, .int .i64 r_7, .slice r_8_a r_8_l r_8_c, .int .i64 r_9, .int .i64 r_10, .int .i64 r_11, .bool r_12]), (.int .i64 (1 : Int))]) w4)))
    ((kLdB w3 ⟨b, 12, none⟩ fun x =>
    (bsplit x
      ((sxStore w3 ⟨b1, 0, none⟩ 0 [(.int .i64 (0 : Int)), (.int .i64 (0 : Int)), (.int .i64 (0 : Int)), (.int .i64 (0 : Int)), (.int .i64 (0 : Int)), (.int .i64 (0 : Int)), (.int .i64 (0 : Int)), (.int .i64 (0 : Int)), (.slice none 0 0), (.int .i64 (0 : Int)), (.int .i64 (0 : Int)), (.int .i64 (0 : Int)), (.bool false)] fun w5 =>
      (∃ r_01 r_13 r_21 r_31 r_41 r_51 r_61 r_71 : Int, ∃ r_8_a1 : Option Addr, ∃ r_8_l1 r_8_c1 : Nat, ∃ r_91 r_101 r_111 : Int, ∃ r_121 : Bool, cellsAt w5 ⟨b1, 0, none⟩ 0 [(.int .i64 r_01), (.int .i64 r_13), (.int .i64 r_21), (.int .i64 r_31), (.int .i64 r_41), (.int .i64 r_51), (.int .i64 r_61), (.int .i64 r_71), (.slice r_8_a1 r_8_l1 r_8_c1), (.int .i64 r_91), (.int .i64 r_101), (.int .i64 r_111), (.bool r_121)] ∧
      R (.tuple #[(.agg #[.int .i64 r_01, .int .i64 r_13, .int .i64 r_21, .int .i64 r_31, .int .i64 r_41, .int .i64 r_51, .int .i64 r_61, .int .i64 r_71, .slice r_8_a1 r_8_l1 r_8_c1, .int .i64 r_91, .int .i64 r_101, .int .i64 r_111, .bool r_121]), (.int .i64 (16 : Int))]) w5)))
      ((∃ x_01 x_13 x_21 x_31 x_41 x_51 x_61 x_71 : Int, ∃ x_8_a1 : Option Addr, ∃ x_8_l1 x_8_c1 : Nat, ∃ x_91 x_101 x_111 : Int, ∃ x_121 : Bool, cellsAt w3 ⟨b, 0, none⟩ 0 [(.int .i64 x_01), (.int .i64 x_13), (.int .i64 x_21), (.int .i64 x_31), (.int .i64 x_41), (.int .i64 x_51), (.int .i64 x_61), (.int .i64 x_71), (.slice x_8_a1 x_8_l1 x_8_c1), (.int .i64 x_91), (.int .i64 x_101), (.int .i64 x_111), (.bool x_121)] ∧
      (Calls Try.prog N_ref20_Copy #[(.agg #[.int .i64 x_01, .int .i64 x_13, .int .i64 x_21, .int .i64 x_31, .int .i64 x_41, .int .i64 x_51, .int .i64 x_61, .int .i64 x_71, .slice x_8_a1 x_8_l1 x_8_c1, .int .i64 x_91, .int .i64 x_101, .int .i64 x_111, .bool x_121])] w3 fun e_1 w6 =>
      ∃ r_02 r_14 r_22 r_32 r_42 r_52 r_62 r_72 : Int, ∃ r_8_a2 : Option Addr, ∃ r_8_l2 r_8_c2 : Nat, ∃ r_92 r_102 r_112 : Int, ∃ r_122 : Bool, e_1 = .returned (.agg #[.int .i64 r_02, .int .i64 r_14, .int .i64 r_22, .int .i64 r_32, .int .i64 r_42, .int .i64 r_52, .int .i64 r_62, .int .i64 r_72, .slice r_8_a2 r_8_l2 r_8_c2, .int .i64 r_92, .int .i64 r_102, .int .i64 r_112, .bool r_122]) ∧
      (kAlloc w6 #[.int .i64 (0 : Int), .int .i64 (0 : Int), .int .i64 (0 : Int), .int .i64 (0 : Int), .int .i64 (0 : Int), .int .i64 (0 : Int), .int .i64 (0 : Int), .int .i64 (0 : Int), .slice none 0 0, .int .i64 (0 : Int), .int .i64 (0 : Int), .int .i64 (0 : Int), .bool false] Ty_api_Sender fun b2 w7 =>
      (sxStore w7 ⟨b2, 0, none⟩ 0 [(.int .i64 r_02), (.int .i64 r_14), (.int .i64 r_22), (.int .i64 r_32), (.int .i64 r_42), (.int .i64 r_52), (.int .i64 r_62), (.int .i64 r_72), (.slice r_8_a2 r_8_l2 r_8_c2), (.int .i64 r_92), (.int .i64 r_102), (.int .i64 r_112), (.bool r_122)] fun w8 =>
      (kLd w8 ⟨b2, 11, none⟩ .i64 fun x1 =>
      (bsplit (decide (x1 = (0 : Int)))
        ((∃ x_02 x_14 x_22 x_32 x_42 x_52 x_62 x_72 : Int, ∃ x_8_a2 : Option Addr, ∃ x_8_l2 x_8_c2 : Nat, ∃ x_92 x_102 x_112 : Int, ∃ x_122 : Bool, cellsAt w8 ⟨b2, 0, none⟩ 0 [(.int .i64 x_02), (.int .i64 x_14), (.int .i64 x_22), (.int .i64 x_32), (.int .i64 x_42), (.int .i64 x_52), (.int .i64 x_62), (.int .i64 x_72), (.slice x_8_a2 x_8_l2 x_8_c2), (.int .i64 x_92), (.int .i64 x_102), (.int .i64 x_112), (.bool x_122)] ∧
        (sxStore w8 ⟨b1, 0, none⟩ 0 [(.int .i64 x_02), (.int .i64 x_14), (.int .i64 x_22), (.int .i64 x_32), (.int .i64 x_42), (.int .i64 x_52), (.int .i64 x_62), (.int .i64 x_72), (.slice x_8_a2 x_8_l2 x_8_c2), (.int .i64 x_92), (.int .i64 x_102), (.int .i64 x_112), (.bool x_122)] fun w9 =>
        (∃ r_03 r_15 r_23 r_33 r_43 r_53 r_63 r_73 : Int, ∃ r_8_a3 : Option Addr, ∃ r_8_l3 r_8_c3 : Nat, ∃ r_93 r_103 r_113 : Int, ∃ r_123 : Bool, cellsAt w9 ⟨b1, 0, none⟩ 0 [(.int .i64 r_03), (.int .i64 r_15), (.int .i64 r_23), (.int .i64 r_33), (.int .i64 r_43), (.int .i64 r_53), (.int .i64 r_63), (.int .i64 r_73), (.slice r_8_a3 r_8_l3 r_8_c3), (.int .i64 r_93), (.int .i64 r_103), (.int .i64 r_113), (.bool r_123)] ∧
        R (.tuple #[(.agg #[.int .i64 r_03, .int .i64 r_15, .int .i64 r_23, .int .i64 r_33, .int .i64 r_43, .int .i64 r_53, .int .i64 r_63, .int .i64 r_73, .slice r_8_a3 r_8_l3 r_8_c3, .int .i64 r_93, .int .i64 r_103, .int .i64 r_113, .bool r_123]), (.int .i64 (0 : Int))]) w9))))
        ((kLd w8 ⟨b2, 11, none⟩ .i64 fun x2 =>
        (kW .i64 (x2 - (1 : Int)) fun x3 =>
        (kSet w8 ⟨b2, 11, none⟩ (.int .i64 x3) fun w10 =>
        (kLd w10 ⟨b2, 11, none⟩ .i64 fun x4 =>
        (bsplit (decide (x4 > (0 : Int)))
          ((∃ x_03 x_15 x_23 x_33 x_43 x_53 x_63 x_73 : Int, ∃ x_8_a3 : Option Addr, ∃ x_8_l3 x_8_c3 : Nat, ∃ x_93 x_103 x_113 : Int, ∃ x_123 : Bool, cellsAt w10 ⟨b2, 0, none⟩ 0 [(.int .i64 x_03), (.int .i64 x_15), (.int .i64 x_23), (.int .i64 x_33), (.int .i64 x_43), (.int .i64 x_53), (.int .i64 x_63), (.int .i64 x_73), (.slice x_8_a3 x_8_l3 x_8_c3), (.int .i64 x_93), (.int .i64 x_103), (.int .i64 x_113), (.bool x_123)] ∧
          (sxStore w10 ⟨b1, 0, none⟩ 0 [(.int .i64 x_03), (.int .i64 x_15), (.int .i64 x_23), (.int .i64 x_33), (.int .i64 x_43), (.int .i64 x_53), (.int .i64 x_63), (.int .i64 x_73), (.slice x_8_a3 x_8_l3 x_8_c3), (.int .i64 x_93), (.int .i64 x_103), (.int .i64 x_113), (.bool x_123)] fun w11 =>
          (∃ r_04 r_16 r_24 r_34 r_44 r_54 r_64 r_74 : Int, ∃ r_8_a4 : Option Addr, ∃ r_8_l4 r_8_c4 : Nat, ∃ r_94 r_104 r_114 : Int, ∃ r_124 : Bool, cellsAt w11 ⟨b1, 0, none⟩ 0 [(.int .i64 r_04), (.int .i64 r_16), (.int .i64 r_24), (.int .i64 r_34), (.int .i64 r_44), (.int .i64 r_54), (.int .i64 r_64), (.int .i64 r_74), (.slice r_8_a4 r_8_l4 r_8_c4), (.int .i64 r_94), (.int .i64 r_104), (.int .i64 r_114), (.bool r_124)] ∧
          R (.tuple #[(.agg #[.int .i64 r_04, .int .i64 r_16, .int .i64 r_24, .int .i64 r_34, .int .i64 r_44, .int .i64 r_54, .int .i64 r_64, .int .i64 r_74, .slice r_8_a4 r_8_l4 r_8_c4, .int .i64 r_94, .int .i64 r_104, .int .i64 r_114, .bool r_124]), (.int .i64 (0 : Int))]) w11))))
          ((kSet w10 ⟨b2, 10, none⟩ (.int .i64 (-1 : Int)) fun w12 =>
          (∃ x_04 x_16 x_24 x_34 x_44 x_54 x_64 x_74 : Int, ∃ x_8_a4 : Option Addr, ∃ x_8_l4 x_8_c4 : Nat, ∃ x_94 x_104 x_114 : Int, ∃ x_124 : Bool, cellsAt w12 ⟨b2, 0, none⟩ 0 [(.int .i64 x_04), (.int .i64 x_16), (.int .i64 x_24), (.int .i64 x_34), (.int .i64 x_44), (.int .i64 x_54), (.int .i64 x_64), (.int .i64 x_74), (.slice x_8_a4 x_8_l4 x_8_c4), (.int .i64 x_94), (.int .i64 x_104), (.int .i64 x_114), (.bool x_124)] ∧
          (Calls Try.prog N_ref20_Left #[(.agg #[.int .i64 x_04, .int .i64 x_16, .int .i64 x_24, .int .i64 x_34, .int .i64 x_44, .int .i64 x_54, .int .i64 x_64, .int .i64 x_74, .slice x_8_a4 x_8_l4 x_8_c4, .int .i64 x_94, .int .i64 x_104, .int .i64 x_114, .bool x_124])] w12 fun e_2 w13 =>
          ∃ r1 : Bool, e_2 = .returned (.bool r1) ∧
          (bsplit r1
            ((kLd w13 ⟨b, 1, none⟩ .i64 fun x5 =>
            (kW .i64 (x5 - (1 : Int)) fun x6 =>
            (kSet w13 ⟨b2, 9, none⟩ (.int .i64 x6) fun w14 =>
            (∃ x_05 x_17 x_25 x_35 x_45 x_55 x_65 x_75 : Int, ∃ x_8_a5 : Option Addr, ∃ x_8_l5 x_8_c5 : Nat, ∃ x_95 x_105 x_115 : Int, ∃ x_125 : Bool, cellsAt w14 ⟨b2, 0, none⟩ 0 [(.int .i64 x_05), (.int .i64 x_17), (.int .i64 x_25), (.int .i64 x_35), (.int .i64 x_45), (.int .i64 x_55), (.int .i64 x_65), (.int .i64 x_75), (.slice x_8_a5 x_8_l5 x_8_c5), (.int .i64 x_95), (.int .i64 x_105), (.int .i64 x_115), (.bool x_125)] ∧
            (sxStore w14 ⟨b1, 0, none⟩ 0 [(.int .i64 x_05), (.int .i64 x_17), (.int .i64 x_25), (.int .i64 x_35), (.int .i64 x_45), (.int .i64 x_55), (.int .i64 x_65), (.int .i64 x_75), (.slice x_8_a5 x_8_l5 x_8_c5), (.int .i64 x_95), (.int .i64 x_105), (.int .i64 x_115), (.bool x_125)] fun w15 =>
            (∃ r_05 r_17 r_25 r_35 r_45 r_55 r_65 r_75 : Int, ∃ r_8_a5 : Option Addr, ∃ r_8_l5 r_8_c5 : Nat, ∃ r_95 r_105 r_115 : Int, ∃ r_125 : Bool, cellsAt w15 ⟨b1, 0, none⟩ 0 [(.int .i64 r_05), (.int .i64 r_17), (.int .i64 r_25), (.int .i64 r_35), (.int .i64 r_45), (.int .i64 r_55), (.int .i64 r_65), (.int .i64 r_75), (.slice r_8_a5 r_8_l5 r_8_c5), (.int .i64 r_95), (.int .i64 r_105), (.int .i64 r_115), (.bool r_125)] ∧
            R (.tuple #[(.agg #[.int .i64 r_05, .int .i64 r_17, .int .i64 r_25, .int .i64 r_35, .int .i64 r_45, .int .i64 r_55, .int .i64 r_65, .int .i64 r_75, .slice r_8_a5 r_8_l5 r_8_c5, .int .i64 r_95, .int .i64 r_105, .int .i64 r_115, .bool r_125]), (.int .i64 (0 : Int))]) w15)))))))
            ((kLdS w13 ⟨b2, 8, none⟩ fun _ x_l _ =>
            (bsplit (decide ((x_l : Int) > (0 : Int)))
              ((kLdS w13 ⟨b2, 8, none⟩ fun x_a1 x_l1 _ =>
              (kW .i64 ((x_l : Int) - (1 : Int)) fun x7 =>
              (kIx x_a1 x_l1 x7 fun b3 =>
              (kDrew w13 fun w16 =>
              (∃ S : Nat → Prop,
              (kLd w16 (b3.add (x7.toNat * 5)) .i64 fun x8 =>
              (kLd w16 ((b3.add (x7.toNat * 5)).add 2) .i64 fun x9 =>
              (KeepsB S w16 w16 ∧ (kAlloc w16 #[(.int .i64 x8), (.int .i64 (0 : Int)), (.int .i64 x9)] Ty_api_Range fun b4 w17 =>
              (KeepsB S w16 w17 ∧ (kSet w17 ((b3.add (x7.toNat * 5)).add 4) (.slice (some ⟨b4, 0, none⟩) 1 1) fun w18 =>
              (Calls Try.prog N_ref20_again #[(.pointer (some ⟨b2, 0, none⟩)), (.pointer (some (b3.add (x7.toNat * 5))))] w18 fun e_3 w19 =>
              e_3 = .returned (.tuple #[]) ∧
              (∃ x_06 x_18 x_26 x_36 x_46 x_56 x_66 x_76 : Int, ∃ x_8_a6 : Option Addr, ∃ x_8_l6 x_8_c6 : Nat, ∃ x_96 x_106 x_116 : Int, ∃ x_126 : Bool, cellsAt w19 ⟨b2, 0, none⟩ 0 [(.int .i64 x_06), (.int .i64 x_18), (.int .i64 x_26), (.int .i64 x_36), (.int .i64 x_46), (.int .i64 x_56), (.int .i64 x_66), (.int .i64 x_76), (.slice x_8_a6 x_8_l6 x_8_c6), (.int .i64 x_96), (.int .i64 x_106), (.int .i64 x_116), (.bool x_126)] ∧
              (sxStore w19 ⟨b1, 0, none⟩ 0 [(.int .i64 x_06), (.int .i64 x_18), (.int .i64 x_26), (.int .i64 x_36), (.int .i64 x_46), (.int .i64 x_56), (.int .i64 x_66), (.int .i64 x_76), (.slice x_8_a6 x_8_l6 x_8_c6), (.int .i64 x_96), (.int .i64 x_106), (.int .i64 x_116), (.bool x_126)] fun w20 =>
              (∃ r_06 r_18 r_26 r_36 r_46 r_56 r_66 r_76 : Int, ∃ r_8_a6 : Option Addr, ∃ r_8_l6 r_8_c6 : Nat, ∃ r_96 r_106 r_116 : Int, ∃ r_126 : Bool, cellsAt w20 ⟨b1, 0, none⟩ 0 [(.int .i64 r_06), (.int .i64 r_18), (.int .i64 r_26), (.int .i64 r_36), (.int .i64 r_46), (.int .i64 r_56), (.int .i64 r_66), (.int .i64 r_76), (.slice r_8_a6 r_8_l6 r_8_c6), (.int .i64 r_96), (.int .i64 r_106), (.int .i64 r_116), (.bool r_126)] ∧
              R (.tuple #[(.agg #[.int .i64 r_06, .int .i64 r_18, .int .i64 r_26, .int .i64 r_36, .int .i64 r_46, .int .i64 r_56, .int .i64 r_66, .int .i64 r_76, .slice r_8_a6 r_8_l6 r_8_c6, .int .i64 r_96, .int .i64 r_106, .int .i64 r_116, .bool r_126]), (.int .i64 (0 : Int))]) w20))))))))))))))))
              ((∃ x_07 x_19 x_27 x_37 x_47 x_57 x_67 x_77 : Int, ∃ x_8_a7 : Option Addr, ∃ x_8_l7 x_8_c7 : Nat, ∃ x_97 x_107 x_117 : Int, ∃ x_127 : Bool, cellsAt w13 ⟨b2, 0, none⟩ 0 [(.int .i64 x_07), (.int .i64 x_19), (.int .i64 x_27), (.int .i64 x_37), (.int .i64 x_47), (.int .i64 x_57), (.int .i64 x_67), (.int .i64 x_77), (.slice x_8_a7 x_8_l7 x_8_c7), (.int .i64 x_97), (.int .i64 x_107), (.int .i64 x_117), (.bool x_127)] ∧
              (sxStore w13 ⟨b1, 0, none⟩ 0 [(.int .i64 x_07), (.int .i64 x_19), (.int .i64 x_27), (.int .i64 x_37), (.int .i64 x_47), (.int .i64 x_57), (.int .i64 x_67), (.int .i64 x_77), (.slice x_8_a7 x_8_l7 x_8_c7), (.int .i64 x_97), (.int .i64 x_107), (.int .i64 x_117), (.bool x_127)] fun w21 =>
              (∃ r_07 r_19 r_27 r_37 r_47 r_57 r_67 r_77 : Int, ∃ r_8_a7 : Option Addr, ∃ r_8_l7 r_8_c7 : Nat, ∃ r_97 r_107 r_117 : Int, ∃ r_127 : Bool, cellsAt w21 ⟨b1, 0, none⟩ 0 [(.int .i64 r_07), (.int .i64 r_19), (.int .i64 r_27), (.int .i64 r_37), (.int .i64 r_47), (.int .i64 r_57), (.int .i64 r_67), (.int .i64 r_77), (.slice r_8_a7 r_8_l7 r_8_c7), (.int .i64 r_97), (.int .i64 r_107), (.int .i64 r_117), (.bool r_127)] ∧
              R (.tuple #[(.agg #[.int .i64 r_07, .int .i64 r_19, .int .i64 r_27, .int .i64 r_37, .int .i64 r_47, .int .i64 r_57, .int .i64 r_67, .int .i64 r_77, .slice r_8_a7 r_8_l7 r_8_c7, .int .i64 r_97, .int .i64 r_107, .int .i64 r_117, .bool r_127]), (.int .i64 (0 : Int))]) w21)))))))))))))))))))))))))))))))))
theorem F_ref20_Tick_eq (s_0 : Int) (s_1 : Int) (s_2 : Int) (s_3 : Int) (s_4 : Int) (s_5 : Int) (s_6 : Int) (s_7 : Int) (s_8_a : Option Addr) (s_8_l : Nat) (s_8_c : Nat) (s_9 : Int) (s_10 : Int) (s_11 : Int) (s_12 : Bool) (w : World) (R : Value → World → Prop) : sxFn Try.prog TT h_ref20_Tick Try.f62 #[(.agg #[.int .i64 s_0, .int .i64 s_1, .int .i64 s_2, .int .i64 s_3, .int .i64 s_4, .int .i64 s_5, .int .i64 s_6, .int .i64 s_7, .slice s_8_a s_8_l s_8_c, .int .i64 s_9, .int .i64 s_10, .int .i64 s_11, .bool s_12])] w R = F_ref20_Tick s_0 s_1 s_2 s_3 s_4 s_5 s_6 s_7 s_8_a s_8_l s_8_c s_9 s_10 s_11 s_12 w R := by kernel_rfl
theorem F_ref20_Tick_ok {R : Ending → World → Prop} (s_0 : Int) (s_1 : Int) (s_2 : Int) (s_3 : Int) (s_4 : Int) (s_5 : Int) (s_6 : Int) (s_7 : Int) (s_8_a : Option Addr) (s_8_l : Nat) (s_8_c : Nat) (s_9 : Int) (s_10 : Int) (s_11 : Int) (s_12 : Bool) (w : World) (h : F_ref20_Tick s_0 s_1 s_2 s_3 s_4 s_5 s_6 s_7 s_8_a s_8_l s_8_c s_9 s_10 s_11 s_12 w fun v w' => R (.returned v) w') : Calls Try.prog N_ref20_Tick #[(.agg #[.int .i64 s_0, .int .i64 s_1, .int .i64 s_2, .int .i64 s_3, .int .i64 s_4, .int .i64 s_5, .int .i64 s_6, .int .i64 s_7, .slice s_8_a s_8_l s_8_c, .int .i64 s_9, .int .i64 s_10, .int .i64 s_11, .bool s_12])] w R :=
  calls_of (f := 62) follows_ok Try.func62 (Eq.mpr (F_ref20_Tick_eq s_0 s_1 s_2 s_3 s_4 s_5 s_6 s_7 s_8_a s_8_l s_8_c s_9 s_10 s_11 s_12 w _) h)

def h_ref02_Low : H := (.seq .reg (.seq (.seq .reg (.cond (.seq .reg .leaf) .leaf)) (.seq .reg .leaf)))
def F_ref02_Low (n : Int) (x : Int) (w : World) (R : Value → World → Prop) : Prop :=
  (Calls Try.prog N_ref02_valid #[(.int .i64 n)] w fun e_ w1 =>
  ∃ r : Bool, e_ = .returned (.bool r) ∧
  (bsplit (!r)
    (R (.int .i64 (-1 : Int)) w1)
    ((kW .u64 (n) fun x1 =>
    (0 ≤ x1 ∧ (kW .i64 ((1 : Int) * 2 ^ (min x1.toNat (IntKind.bits .i64))) fun x2 =>
    (kW .i64 (x2 - (1 : Int)) fun x3 =>
    (kLet (bAnd .i64 x x3) fun x4 =>
    R (.int .i64 x4) w1))))))))
theorem F_ref02_Low_eq (n : Int) (x : Int) (w : World) (R : Value → World → Prop) : sxFn Try.prog TT h_ref02_Low Try.f63 #[(.int .i64 n), (.int .i64 x)] w R = F_ref02_Low n x w R := by kernel_rfl
theorem F_ref02_Low_ok {R : Ending → World → Prop} (n : Int) (x : Int) (w : World) (h : F_ref02_Low n x w fun v w' => R (.returned v) w') : Calls Try.prog N_ref02_Low #[(.int .i64 n), (.int .i64 x)] w R :=
  calls_of (f := 63) follows_ok Try.func63 (Eq.mpr (F_ref02_Low_eq n x w _) h)

def h_made_Dice_Ranges : H := (.seq .reg (.seq .reg (.seq .reg (.seq (.seq .reg (.block (.loop [(7, .p .slice), (8, .p (.int .i64)), (9, .p (.int .i64))] [7, 8, 9, 10, 17, 18, 19, 20, 21, 22, 23, 24, 25, 26, 27, 28, 29, 30, 31, 32, 33, 34, 35, 36, 37] (.seq (.seq .reg (.cond .leaf .leaf)) (.seq (.block (.seq .reg (.seq .reg .reg))) .reg))))) (.seq .reg .leaf)))))
def F_made_Dice_Ranges (d_b : Nat) (d_o : Nat) (sn : Int) (most : Int) (w : World) (R : Value → World → Prop) : Prop :=
  (Calls Try.prog N_made_Dice_Next #[(.pointer (some ⟨d_b, d_o, none⟩)), (.int .i64 (3 : Int))] w fun e_ w1 =>
  ∃ r : Int, e_ = .returned (.int .i64 r) ∧
  (kW .i64 (most + (1 : Int)) fun x =>
  (Calls Try.prog N_made_Dice_Next #[(.pointer (some ⟨d_b, d_o, none⟩)), (.int .i64 x)] w1 fun e_1 w2 =>
  ∃ r1 : Int, e_1 = .returned (.int .i64 r1) ∧
  (∃ I : Option Addr → Nat → Nat → Int → Int → Nat × (World → Prop), (I none 0 0 r r1).2 w2 ∧
  (∀ (_junk : Env) (l_a : Option Addr) (l_l : Nat) (l_c : Nat) (at1 : Int) (n : Int) (w3 : World), (I l_a l_l l_c at1 n).2 w3 →
    (bsplit (decide (n > (0 : Int)))
      ((kW .i64 (at1 + (1 : Int)) fun x1 =>
      (Calls Try.prog N_made_Dice_Next #[(.pointer (some ⟨d_b, d_o, none⟩)), (.int .i64 (6 : Int))] w3 fun e_2 w4 =>
      ∃ r2 : Int, e_2 = .returned (.int .i64 r2) ∧
      (kW .i64 (x1 + r2) fun x2 =>
      (kAlloc w4 #[(.int .i64 sn), (.int .i64 at1), (.int .i64 x2)] Ty_api_Range fun b w5 =>
      (AppP Try.prog #[Ty_S_api_Range, Ty_S_api_Range] Ty_S_api_Range #[(.slice l_a l_l l_c), (.slice (some ⟨b, 0, none⟩) 1 1)] w5 fun x_a x_l x_c w6 =>
      (kW .i64 (x2 + (1 : Int)) fun x3 =>
      (Calls Try.prog N_made_Dice_Next #[(.pointer (some ⟨d_b, d_o, none⟩)), (.int .i64 (4 : Int))] w6 fun e_3 w7 =>
      ∃ r3 : Int, e_3 = .returned (.int .i64 r3) ∧
      (kW .i64 (x3 + r3) fun x4 =>
      (kW .i64 (n - (1 : Int)) fun x5 =>
      ((I x_a x_l x_c x4 x5).2 w7 ∧ (I x_a x_l x_c x4 x5).1 < (I l_a l_l l_c at1 n).1)))))))))))
      (R (.slice l_a l_l l_c) w3)))))))
theorem F_made_Dice_Ranges_eq (d_b : Nat) (d_o : Nat) (sn : Int) (most : Int) (w : World) (R : Value → World → Prop) : sxFn Try.prog TT h_made_Dice_Ranges Try.f64 #[(.pointer (some ⟨d_b, d_o, none⟩)), (.int .i64 sn), (.int .i64 most)] w R = F_made_Dice_Ranges d_b d_o sn most w R := by kernel_rfl
theorem F_made_Dice_Ranges_ok {R : Ending → World → Prop} (d_b : Nat) (d_o : Nat) (sn : Int) (most : Int) (w : World) (h : F_made_Dice_Ranges d_b d_o sn most w fun v w' => R (.returned v) w') : Calls Try.prog N_made_Dice_Ranges #[(.pointer (some ⟨d_b, d_o, none⟩)), (.int .i64 sn), (.int .i64 most)] w R :=
  calls_of (f := 64) follows_ok Try.func64 (Eq.mpr (F_made_Dice_Ranges_eq d_b d_o sn most w _) h)

def h_status_Valid : H := (.seq .reg (.cut [] [4, 10, 11, 12, 13, 14, 15, 16, 17, 18, 19, 20, 21, 22, 23, 24, 25, 26, 27, 28, 29, 30] (.seq (.draw .blk (.one 0 .pre (.one 1 .keep (.one 2 .stable (.one 3 .stable (.one 4 .stable (.one 5 .stable (.one 6 .stable (.one 7 .stable (.one 8 .stable (.one 9 .stable (.one 10 .stable (.one 11 .stable (.one 12 .stable (.one 13 .stable (.one 14 .stable (.one 15 .stable (.one 16 .stable (.one 17 .stable (.one 18 .stable (.one 19 .stable (.one 20 .stable .nil)))))))))))))))))))))) (.cond (.seq .reg .leaf) .leaf)) (.seq .reg (.seq (.seq .reg (.block (.loop [(5, .p (.int .i64)), (38, .p (.int .i64))] [4, 5, 6, 7, 8, 9, 38, 39, 40, 41, 42, 43, 44, 45, 46, 47, 48, 49, 50, 51, 52, 53, 54, 55, 56, 57, 58, 59, 60, 61, 62, 63, 64, 65, 66, 67, 68, 69, 70, 71, 72, 73, 74, 75, 76, 77, 78, 79, 80, 81, 82, 83, 84, 85, 86, 87, 88, 89, 90, 91, 92, 93, 94, 95, 96, 97, 98, 99, 100, 101, 102, 103, 104, 105, 106, 107, 108, 109, 110, 111, 112] (.seq .reg (.seq (.cond .leaf .leaf) (.seq (.block (.seq .reg (.seq .reg (.seq (.cut [(84, .p .bool)] [49, 50, 51, 52, 53, 54, 55, 56, 57, 58, 59, 60, 61, 62, 63, 64, 65, 66, 67, 68, 69, 70, 71, 72, 73, 74, 75, 76, 77, 78, 79, 80, 81, 82, 83, 84] (.draw .blk (.one 0 .pre (.one 1 .pre (.one 2 .pre (.one 3 .pre (.one 4 .pre (.one 5 .pre (.one 6 .pre (.one 7 .pre (.one 8 .pre (.one 9 .pre (.one 10 .pre (.one 11 .pre (.one 12 .pre (.one 13 .pre (.one 14 .pre (.one 15 .pre (.one 16 .pre (.one 17 .pre (.one 18 .pre (.one 19 .pre (.one 20 .pre (.one 21 .pre (.one 22 .pre (.one 23 .pre (.one 24 .pre (.one 25 .pre (.one 26 .pre (.one 27 .pre (.one 28 .keep (.one 29 .stable (.one 30 .stable (.one 31 .stable (.one 32 .keep (.one 33 .stable (.one 34 .stable (.one 35 .stable .nil))))))))))))))))))))))))))))))))))))) (.cond (.seq .reg .leaf) .leaf)) (.seq (.cut [(91, .p .bool)] [85, 86, 87, 88, 89, 90, 91] .reg (.cond (.seq .reg (.seq .reg (.cond (.seq .reg .leaf) .leaf))) .leaf)) .reg))))) .reg)))))) (.seq .reg .leaf)))))
def F_status_Valid (bits : Int) (s_0 : Int) (s_1_a : Option Addr) (s_1_l : Nat) (s_1_c : Nat) (w : World) (R : Value → World → Prop) : Prop :=
  (kAlloc w #[(.int .i64 s_0), (.slice s_1_a s_1_l s_1_c)] Ty_api_Status fun b w1 =>
  (∃ J : World → Prop,
  (∀ (_junk : Env)  (w4 : World), J w4 →
    (kW .i64 (bits - (1 : Int)) fun x3 =>
    (0 ≤ x3 ∧ (kW .i64 ((1 : Int) * 2 ^ (min x3.toNat (IntKind.bits .i64))) fun x4 =>
    (kW .i64 (x4 + (1 : Int)) fun x5 =>
    (kLdS w4 ⟨b, 1, none⟩ fun x_a1 x_l1 _ =>
    (∃ I : Int → Int → Nat × (World → Prop), (I x5 (0 : Int)).2 w4 ∧
    (∀ (_junk : Env) (before : Int) (x6 : Int) (w5 : World), (I before x6).2 w5 →
      (bsplit (decide (x6 < (x_l1 : Int)))
        ((kIx x_a1 x_l1 x6 fun b1 =>
        (∃ x_0 x_1 x_2 : Int, cellsAt w5 (b1.add (x6.toNat * 3)) 0 [(.int .i64 x_0), (.int .i64 x_1), (.int .i64 x_2)] ∧
        (kAlloc w5 #[.int .i64 (0 : Int), .int .i64 (0 : Int), .int .i64 (0 : Int)] Ty_api_Range fun b2 w6 =>
        (sxStore w6 ⟨b2, 0, none⟩ 0 [(.int .i64 x_0), (.int .i64 x_1), (.int .i64 x_2)] fun w7 =>
        (kLd w7 ⟨b2, 0, none⟩ .i64 fun x7 =>
        (kLd w7 ⟨b, 0, none⟩ .i64 fun x8 =>
        (Calls Try.prog N_serial_Distance #[(.int .i64 bits), (.int .i64 x7), (.int .i64 x8)] w7 fun e_1 w8 =>
        ∃ r1 : Int, e_1 = .returned (.int .i64 r1) ∧
        (∃ J1 : Bool → World → Prop,
        (∀ (_junk : Env) (x14 : Bool) (w12 : World), J1 x14 w12 →
          (bsplit x14
            (R (.bool false) w12)
            ((∃ J2 : Bool → World → Prop,
            (∀ (_junk : Env) (x15 : Bool) (w13 : World), J2 x15 w13 →
              (bsplit x15
                ((kLdS w13 ⟨b, 1, none⟩ fun x_a2 x_l2 _ =>
                (kW .i64 (x6 - (1 : Int)) fun x16 =>
                (kIx x_a2 x_l2 x16 fun b3 =>
                (∃ x_03 x_13 x_23 : Int, cellsAt w13 (b3.add (x16.toNat * 3)) 0 [(.int .i64 x_03), (.int .i64 x_13), (.int .i64 x_23)] ∧
                (kAlloc w13 #[.int .i64 (0 : Int), .int .i64 (0 : Int), .int .i64 (0 : Int)] Ty_api_Range fun b4 w14 =>
                (sxStore w14 ⟨b4, 0, none⟩ 0 [(.int .i64 x_03), (.int .i64 x_13), (.int .i64 x_23)] fun w15 =>
                (∃ x_04 x_14 x_24 : Int, cellsAt w15 ⟨b4, 0, none⟩ 0 [(.int .i64 x_04), (.int .i64 x_14), (.int .i64 x_24)] ∧
                (Calls Try.prog N_status_Whole #[(.agg #[.int .i64 x_04, .int .i64 x_14, .int .i64 x_24])] w15 fun e_4 w16 =>
                ∃ r4 : Bool, e_4 = .returned (.bool r4) ∧
                (bsplit r4
                  (R (.bool false) w16)
                  ((∃ x_05 x_15 x_25 : Int, cellsAt w16 ⟨b2, 0, none⟩ 0 [(.int .i64 x_05), (.int .i64 x_15), (.int .i64 x_25)] ∧
                  (Calls Try.prog N_status_Whole #[(.agg #[.int .i64 x_05, .int .i64 x_15, .int .i64 x_25])] w16 fun e_5 w17 =>
                  ∃ r5 : Bool, e_5 = .returned (.bool r5) ∧
                  (bsplit r5
                    (R (.bool false) w17)
                    ((kLd w17 ⟨b2, 1, none⟩ .i64 fun x19 =>
                    (kLd w17 ⟨b4, 2, none⟩ .i64 fun x20 =>
                    (bsplit (decide (x19 ≤ x20))
                      (R (.bool false) w17)
                      ((kW .i64 (x6 + (1 : Int)) fun x21 =>
                      ((I r1 x21).2 w17 ∧ (I r1 x21).1 < (I before x6).1)))))))))))))))))))))
                ((kW .i64 (x6 + (1 : Int)) fun x22 =>
                ((I r1 x22).2 w13 ∧ (I r1 x22).1 < (I before x6).1))))) ∧
            (bsplit (decide (r1 = before))
              (J2 (decide (x6 > (0 : Int))) w12)
              (J2 false w12)))))) ∧
        (kDrew w8 fun w9 =>
        (∃ S1 : Nat → Prop,
        (kLd w9 ⟨b2, 0, none⟩ .i64 fun x9 =>
        (bsplit (decide (x9 < (0 : Int)))
          (J1 true w9)
          ((kLd w9 ⟨b2, 0, none⟩ .i64 fun x10 =>
          (0 ≤ bits ∧ (kW .i64 ((1 : Int) * 2 ^ (min bits.toNat (IntKind.bits .i64))) fun x11 =>
          (bsplit (decide (x10 ≥ x11))
            (J1 true w9)
            ((bsplit (decide (r1 < (1 : Int)))
              (J1 true w9)
              ((bsplit (decide (r1 > before))
                (J1 true w9)
                ((kW .i64 (bits - (1 : Int)) fun x12 =>
                (0 ≤ x12 ∧ (kW .i64 ((1 : Int) * 2 ^ (min x12.toNat (IntKind.bits .i64))) fun x13 =>
                (bsplit (decide (r1 > x13))
                  (J1 true w9)
                  ((∃ x_01 x_11 x_21 : Int, cellsAt w9 ⟨b2, 0, none⟩ 0 [(.int .i64 x_01), (.int .i64 x_11), (.int .i64 x_21)] ∧
                  (Calls Try.prog N_status_Whole #[(.agg #[.int .i64 x_01, .int .i64 x_11, .int .i64 x_21])] w9 fun e_2 w10 =>
                  ∃ r2 : Bool, e_2 = .returned (.bool r2) ∧
                  (KeepsB S1 w9 w10 ∧ (bsplit (!r2)
                    ((S1 b2 ∧
                    (∃ x_02 x_12 x_22 : Int, cellsAt w9 ⟨b2, 0, none⟩ 0 [(.int .i64 x_02), (.int .i64 x_12), (.int .i64 x_22)] ∧
                    (Calls Try.prog N_status_part #[(.agg #[.int .i64 x_02, .int .i64 x_12, .int .i64 x_22])] w10 fun e_3 w11 =>
                    ∃ r3 : Bool, e_3 = .returned (.bool r3) ∧
                    (KeepsB S1 w9 w11 ∧ J1 (!r3) w11)))))
                    (J1 false w10)))))))))))))))))))))))))))))))))
        (R (.bool true) w5)))))))))) ∧
  (kDrew w1 fun w2 =>
  (∃ S : Nat → Prop,
  (Calls Try.prog N_counter_Bits #[(.int .i64 bits)] w2 fun e_ w3 =>
  ∃ r : Bool, e_ = .returned (.bool r) ∧
  (KeepsB S w2 w3 ∧ (bsplit (!r)
    (R (.bool false) w3)
    ((S b ∧
    (kLd w2 ⟨b, 0, none⟩ .i64 fun x =>
    (bsplit (decide (x < (0 : Int)))
      (R (.bool false) w3)
      ((S b ∧
      (kLd w2 ⟨b, 0, none⟩ .i64 fun x1 =>
      (0 ≤ bits ∧ (kW .i64 ((1 : Int) * 2 ^ (min bits.toNat (IntKind.bits .i64))) fun x2 =>
      (bsplit (decide (x1 ≥ x2))
        (R (.bool false) w3)
        ((S b ∧
        (kLdS w2 ⟨b, 1, none⟩ fun _ x_l _ =>
        (bsplit (decide ((x_l : Int) > (64 : Int)))
          (R (.bool false) w3)
          (J w3))))))))))))))))))))))
theorem F_status_Valid_eq (bits : Int) (s_0 : Int) (s_1_a : Option Addr) (s_1_l : Nat) (s_1_c : Nat) (w : World) (R : Value → World → Prop) : sxFn Try.prog TT h_status_Valid Try.f65 #[(.int .i64 bits), (.agg #[.int .i64 s_0, .slice s_1_a s_1_l s_1_c])] w R = F_status_Valid bits s_0 s_1_a s_1_l s_1_c w R := by kernel_rfl
theorem F_status_Valid_ok {R : Ending → World → Prop} (bits : Int) (s_0 : Int) (s_1_a : Option Addr) (s_1_l : Nat) (s_1_c : Nat) (w : World) (h : F_status_Valid bits s_0 s_1_a s_1_l s_1_c w fun v w' => R (.returned v) w') : Calls Try.prog N_status_Valid #[(.int .i64 bits), (.agg #[.int .i64 s_0, .slice s_1_a s_1_l s_1_c])] w R :=
  calls_of (f := 65) follows_ok Try.func65 (Eq.mpr (F_status_Valid_eq bits s_0 s_1_a s_1_l s_1_c w _) h)

def h_sender_missing : H := (.seq .reg (.seq (.seq .reg (.block (.loop [(4, .p .slice), (5, .p .bool), (11, .p (.int .i64))] [4, 5, 7, 11, 12, 13, 14, 15, 16, 17, 18, 19, 20, 21, 22, 23, 24, 25, 26, 27, 28, 29, 30, 31, 32, 33, 34, 35, 36, 37, 38, 39, 40] (.seq .reg (.seq (.cond .leaf .leaf) (.seq (.block (.seq .reg (.seq (.seq .reg (.cond .leaf .leaf)) (.seq .reg (.cut [] [20, 21, 22, 23, 24] (.seq .reg (.cond .reg .leaf)) (.seq .reg (.seq .reg (.cond .reg .leaf)))))))) .reg)))))) (.seq .reg .leaf)))
def F_sender_missing (u_0 : Int) (u_1_a : Option Addr) (u_1_l : Nat) (u_1_c : Nat) (u_2 : Int) (u_3 : Int) (u_4_a : Option Addr) (u_4_l : Nat) (u_4_c : Nat) (r_0 : Int) (r_1_a : Option Addr) (r_1_l : Nat) (r_1_c : Nat) (w : World) (R : Value → World → Prop) : Prop :=
  (kAlloc w #[(.int .i64 u_0), (.slice u_1_a u_1_l u_1_c), (.int .i64 u_2), (.int .i64 u_3), (.slice u_4_a u_4_l u_4_c)] Ty_api_Unit fun b w1 =>
  (kAlloc w1 #[(.int .i64 r_0), (.slice r_1_a r_1_l r_1_c)] Ty_api_Status fun b1 w2 =>
  (kLdS w2 ⟨b1, 1, none⟩ fun x_a x_l _ =>
  (∃ I : Option Addr → Nat → Nat → Bool → Int → Nat × (World → Prop), (I none 0 0 false (0 : Int)).2 w2 ∧
  (∀ (_junk : Env) (out_a : Option Addr) (out_l : Nat) (out_c : Nat) (named : Bool) (x : Int) (w3 : World), (I out_a out_l out_c named x).2 w3 →
    (bsplit (decide (x < (x_l : Int)))
      ((kIx x_a x_l x fun b2 =>
      (∃ x_0 x_1 x_2 : Int, cellsAt w3 (b2.add (x.toNat * 3)) 0 [(.int .i64 x_0), (.int .i64 x_1), (.int .i64 x_2)] ∧
      (kAlloc w3 #[.int .i64 (0 : Int), .int .i64 (0 : Int), .int .i64 (0 : Int)] Ty_api_Range fun b3 w4 =>
      (sxStore w4 ⟨b3, 0, none⟩ 0 [(.int .i64 x_0), (.int .i64 x_1), (.int .i64 x_2)] fun w5 =>
      (kLd w5 ⟨b3, 0, none⟩ .i64 fun x1 =>
      (kLd w5 ⟨b, 0, none⟩ .i64 fun x2 =>
      (bsplit (!decide (x1 = x2))
        ((kW .i64 (x + (1 : Int)) fun x3 =>
        ((I out_a out_l out_c named x3).2 w5 ∧ (I out_a out_l out_c named x3).1 < (I out_a out_l out_c named x).1)))
        ((∃ J : World → Prop,
        (∀ (_junk : Env)  (w8 : World), J w8 →
          (kLd w8 ⟨b3, 2, none⟩ .i64 fun x5 =>
          (kLd w8 ⟨b, 2, none⟩ .i64 fun x6 =>
          (kSet w8 ⟨b3, 2, none⟩ (.int .i64 (if x6 < x5 then x6 else x5)) fun w9 =>
          (kLd w9 ⟨b3, 1, none⟩ .i64 fun x7 =>
          (kLd w9 ⟨b3, 2, none⟩ .i64 fun x8 =>
          (bsplit (decide (x7 < x8))
            ((∃ x_02 x_12 x_22 : Int, cellsAt w9 ⟨b3, 0, none⟩ 0 [(.int .i64 x_02), (.int .i64 x_12), (.int .i64 x_22)] ∧
            (kAlloc w9 #[(.int .i64 x_02), (.int .i64 x_12), (.int .i64 x_22)] Ty_api_Range fun b4 w10 =>
            (AppP Try.prog #[Ty_S_api_Range, Ty_S_api_Range] Ty_S_api_Range #[(.slice out_a out_l out_c), (.slice (some ⟨b4, 0, none⟩) 1 1)] w10 fun x_a1 x_l1 x_c1 w11 =>
            (kW .i64 (x + (1 : Int)) fun x9 =>
            ((I x_a1 x_l1 x_c1 true x9).2 w11 ∧ (I x_a1 x_l1 x_c1 true x9).1 < (I out_a out_l out_c named x).1))))))
            ((kW .i64 (x + (1 : Int)) fun x10 =>
            ((I out_a out_l out_c true x10).2 w9 ∧ (I out_a out_l out_c true x10).1 < (I out_a out_l out_c named x).1)))))))))) ∧
        (∃ x_01 x_11 x_21 : Int, cellsAt w5 ⟨b3, 0, none⟩ 0 [(.int .i64 x_01), (.int .i64 x_11), (.int .i64 x_21)] ∧
        (Calls Try.prog N_status_Whole #[(.agg #[.int .i64 x_01, .int .i64 x_11, .int .i64 x_21])] w5 fun e_ w6 =>
        ∃ r : Bool, e_ = .returned (.bool r) ∧
        (bsplit r
          ((kLd w6 ⟨b, 2, none⟩ .i64 fun x4 =>
          (kSet w6 ⟨b3, 2, none⟩ (.int .i64 x4) fun w7 =>
          J w7)))
          (J w6))))))))))))))
      (R (.tuple #[(.slice out_a out_l out_c), (.bool named)]) w3)))))))
theorem F_sender_missing_eq (u_0 : Int) (u_1_a : Option Addr) (u_1_l : Nat) (u_1_c : Nat) (u_2 : Int) (u_3 : Int) (u_4_a : Option Addr) (u_4_l : Nat) (u_4_c : Nat) (r_0 : Int) (r_1_a : Option Addr) (r_1_l : Nat) (r_1_c : Nat) (w : World) (R : Value → World → Prop) : sxFn Try.prog TT h_sender_missing Try.f66 #[(.agg #[.int .i64 u_0, .slice u_1_a u_1_l u_1_c, .int .i64 u_2, .int .i64 u_3, .slice u_4_a u_4_l u_4_c]), (.agg #[.int .i64 r_0, .slice r_1_a r_1_l r_1_c])] w R = F_sender_missing u_0 u_1_a u_1_l u_1_c u_2 u_3 u_4_a u_4_l u_4_c r_0 r_1_a r_1_l r_1_c w R := by kernel_rfl
theorem F_sender_missing_ok {R : Ending → World → Prop} (u_0 : Int) (u_1_a : Option Addr) (u_1_l : Nat) (u_1_c : Nat) (u_2 : Int) (u_3 : Int) (u_4_a : Option Addr) (u_4_l : Nat) (u_4_c : Nat) (r_0 : Int) (r_1_a : Option Addr) (r_1_l : Nat) (r_1_c : Nat) (w : World) (h : F_sender_missing u_0 u_1_a u_1_l u_1_c u_2 u_3 u_4_a u_4_l u_4_c r_0 r_1_a r_1_l r_1_c w fun v w' => R (.returned v) w') : Calls Try.prog N_sender_missing #[(.agg #[.int .i64 u_0, .slice u_1_a u_1_l u_1_c, .int .i64 u_2, .int .i64 u_3, .slice u_4_a u_4_l u_4_c]), (.agg #[.int .i64 r_0, .slice r_1_a r_1_l r_1_c])] w R :=
  calls_of (f := 66) follows_ok Try.func66 (Eq.mpr (F_sender_missing_eq u_0 u_1_a u_1_l u_1_c u_2 u_3 u_4_a u_4_l u_4_c r_0 r_1_a r_1_l r_1_c w _) h)

def h_sender_side_again : H := (.seq (.seq (.draw .no (.one 0 .stable (.one 1 .stable (.one 2 .stable (.one 3 .stable (.one 4 .stable (.one 5 .stable (.one 6 .stable (.one 7 .stable (.one 8 .stable (.one 9 .stable (.one 10 .stable .nil)))))))))))) (.cond (.seq .reg .leaf) .leaf)) .reg)
def F_sender_side_again (s_b : Nat) (s_o : Nat) (u_b : Nat) (u_o : Nat) (w : World) (R : Value → World → Prop) : Prop :=
  (kDrew w fun w1 =>
  (kLd w1 ⟨u_b, u_o + 3, none⟩ .i64 fun x =>
  (kLd w1 ⟨s_b, s_o + 5, none⟩ .i64 fun x1 =>
  (bsplit (decide (x = x1))
    ((kSet w1 ⟨s_b, s_o + 12, none⟩ (.bool true) fun w2 =>
    R (.tuple #[]) w2))
    ((kLd w1 ⟨u_b, u_o + 3, none⟩ .i64 fun x2 =>
    (kW .i64 (x2 + (1 : Int)) fun x3 =>
    (kSet w1 ⟨u_b, u_o + 3, none⟩ (.int .i64 x3) fun w3 =>
    R (.tuple #[]) w3))))))))
theorem F_sender_side_again_eq (s_b : Nat) (s_o : Nat) (u_b : Nat) (u_o : Nat) (w : World) (R : Value → World → Prop) : sxFn Try.prog TT h_sender_side_again Try.f67 #[(.pointer (some ⟨s_b, s_o, none⟩)), (.pointer (some ⟨u_b, u_o, none⟩))] w R = F_sender_side_again s_b s_o u_b u_o w R := by kernel_rfl
theorem F_sender_side_again_ok {R : Ending → World → Prop} (s_b : Nat) (s_o : Nat) (u_b : Nat) (u_o : Nat) (w : World) (h : F_sender_side_again s_b s_o u_b u_o w fun v w' => R (.returned v) w') : Calls Try.prog N_sender_side_again #[(.pointer (some ⟨s_b, s_o, none⟩)), (.pointer (some ⟨u_b, u_o, none⟩))] w R :=
  calls_of (f := 67) follows_ok Try.func67 (Eq.mpr (F_sender_side_again_eq s_b s_o u_b u_o w _) h)

def h_sender_whole : H := (.seq .reg (.seq .reg .leaf))
def F_sender_whole (u_0 : Int) (u_1_a : Option Addr) (u_1_l : Nat) (u_1_c : Nat) (u_2 : Int) (u_3 : Int) (u_4_a : Option Addr) (u_4_l : Nat) (u_4_c : Nat) (w : World) (R : Value → World → Prop) : Prop :=
  (kAlloc w #[(.int .i64 u_0), (.slice u_1_a u_1_l u_1_c), (.int .i64 u_2), (.int .i64 u_3), (.slice u_4_a u_4_l u_4_c)] Ty_api_Unit fun b w1 =>
  (kLd w1 ⟨b, 2, none⟩ .i64 fun x =>
  (kLdS w1 ⟨b, 1, none⟩ fun _ x_l _ =>
  (kLet (decide (x = (x_l : Int))) fun x1 =>
  R (.bool x1) w1))))
theorem F_sender_whole_eq (u_0 : Int) (u_1_a : Option Addr) (u_1_l : Nat) (u_1_c : Nat) (u_2 : Int) (u_3 : Int) (u_4_a : Option Addr) (u_4_l : Nat) (u_4_c : Nat) (w : World) (R : Value → World → Prop) : sxFn Try.prog TT h_sender_whole Try.f68 #[(.agg #[.int .i64 u_0, .slice u_1_a u_1_l u_1_c, .int .i64 u_2, .int .i64 u_3, .slice u_4_a u_4_l u_4_c])] w R = F_sender_whole u_0 u_1_a u_1_l u_1_c u_2 u_3 u_4_a u_4_l u_4_c w R := by kernel_rfl
theorem F_sender_whole_ok {R : Ending → World → Prop} (u_0 : Int) (u_1_a : Option Addr) (u_1_l : Nat) (u_1_c : Nat) (u_2 : Int) (u_3 : Int) (u_4_a : Option Addr) (u_4_l : Nat) (u_4_c : Nat) (w : World) (h : F_sender_whole u_0 u_1_a u_1_l u_1_c u_2 u_3 u_4_a u_4_l u_4_c w fun v w' => R (.returned v) w') : Calls Try.prog N_sender_whole #[(.agg #[.int .i64 u_0, .slice u_1_a u_1_l u_1_c, .int .i64 u_2, .int .i64 u_3, .slice u_4_a u_4_l u_4_c])] w R :=
  calls_of (f := 68) follows_ok Try.func68 (Eq.mpr (F_sender_whole_eq u_0 u_1_a u_1_l u_1_c u_2 u_3 u_4_a u_4_l u_4_c w _) h)

def h_ref20_Valid : H := (.seq .reg (.seq (.seq .reg (.cond (.seq .reg .leaf) .leaf)) (.seq .reg (.seq .reg (.cut [] [2, 20, 21, 22, 23, 24, 25, 26, 27, 28, 29, 30, 31, 32, 33, 34, 35, 36, 37, 38, 39] (.seq .reg (.cond (.seq .reg .leaf) .leaf)) (.seq .reg (.seq (.cut [(72, .p .bool)] [46, 47, 48, 49, 50, 51, 52, 53, 54, 55, 56, 57, 58, 59, 60, 61, 62, 63, 64, 65, 66, 67, 68, 69, 70, 71, 72] .reg (.cond (.seq .reg .leaf) .leaf)) (.seq (.seq .reg (.block (.loop [(6, .p (.int .i64))] [2, 6, 7, 8, 73, 74, 75, 76, 77, 78, 79, 80, 81, 82, 83, 84, 85, 86, 87, 88, 89, 90, 91, 92, 93, 94, 95, 96, 97, 98, 99, 100, 101, 102, 103, 104, 105, 106, 107, 108, 109, 110, 111, 112, 113, 114, 115, 116, 117, 118, 119, 120, 121, 122, 123, 124, 125, 126, 127, 128, 129, 130, 131, 132, 133, 134, 135, 136, 137, 138, 139, 140, 141, 142, 143, 144, 145, 146, 147, 148, 149, 150, 151] (.seq (.seq .reg (.cond .leaf .leaf)) (.seq (.block (.seq .reg (.seq (.seq .reg (.cond (.seq .reg .leaf) .leaf)) (.seq .reg (.cut [(151, .p .bool)] [95, 96, 97, 98, 99, 100, 101, 102, 103, 104, 105, 106, 107, 108, 109, 110, 111, 112, 113, 114, 115, 116, 117, 118, 119, 120, 121, 122, 123, 124, 125, 126, 127, 128, 129, 130, 131, 132, 133, 134, 135, 136, 137, 138, 139, 140, 141, 142, 143, 144, 145, 146, 147, 148, 149, 150, 151] (.draw .blk (.one 0 .pre (.one 1 .pre (.one 2 .pre (.one 3 .pre (.one 4 .pre (.one 5 .pre (.one 6 .pre (.one 7 .pre (.one 8 .pre (.one 9 .pre (.one 10 .pre (.one 11 .pre (.one 12 .pre (.one 13 .pre (.one 14 .pre (.one 15 .stable (.one 16 .pre (.one 17 .pre (.one 18 .pre (.one 19 .pre (.one 20 .pre (.one 21 .pre (.one 22 .pre (.one 23 .pre (.one 24 .pre (.one 25 .pre (.one 26 .keep (.one 27 .stable (.one 28 .stable (.one 29 .stable (.one 30 .stable (.one 31 .stable (.one 32 .stable (.one 33 .stable (.one 34 .stable (.one 35 .stable (.one 36 .stable (.one 37 .stable (.one 38 .stable (.one 39 .stable (.one 40 .stable (.one 41 .stable (.one 42 .stable (.one 43 .stable (.one 44 .stable (.one 45 .stable (.one 46 .stable (.one 47 .stable (.one 48 .stable (.one 49 .stable (.one 50 .stable (.one 51 .stable (.one 52 .stable (.one 53 .stable (.one 54 .stable (.one 55 .stable (.one 56 .stable .nil)))))))))))))))))))))))))))))))))))))))))))))))))))))))))) (.cond (.seq .reg .leaf) .leaf)))))) .reg))))) (.seq (.seq .reg (.cond (.seq .reg .leaf) .leaf)) (.seq (.seq .reg (.block (.loop [(9, .p (.int .i64))] [2, 9, 158, 159, 160, 161, 162, 163, 164, 165, 166, 167, 168, 169, 170, 171, 172, 173, 174, 175, 176, 177, 178, 179, 180, 181, 182, 183, 184, 185, 186, 187, 188, 189, 190, 191, 192, 193] (.seq (.seq .reg (.cond .leaf .leaf)) (.seq (.block (.cut [(182, .p .bool)] [165, 166, 167, 168, 169, 170, 171, 172, 173, 174, 175, 176, 177, 178, 179, 180, 181, 182] (.draw .no (.one 0 .stable (.one 1 .stable (.one 2 .stable (.one 3 .stable (.one 4 .stable (.one 5 .stable (.one 6 .stable (.one 7 .stable (.one 8 .stable (.one 9 .stable (.one 10 .stable (.one 11 .stable (.one 12 .stable (.one 13 .stable (.one 14 .stable (.one 15 .stable (.one 16 .stable (.one 17 .stable .nil))))))))))))))))))) (.cond (.seq .reg .leaf) .leaf))) .reg))))) (.seq .reg .leaf)))))))))))
def F_ref20_Valid (s_0 : Int) (s_1 : Int) (s_2 : Int) (s_3 : Int) (s_4 : Int) (s_5 : Int) (s_6 : Int) (s_7 : Int) (s_8_a : Option Addr) (s_8_l : Nat) (s_8_c : Nat) (s_9 : Int) (s_10 : Int) (s_11 : Int) (s_12 : Bool) (w : World) (R : Value → World → Prop) : Prop :=
  (kAlloc w #[(.int .i64 s_0), (.int .i64 s_1), (.int .i64 s_2), (.int .i64 s_3), (.int .i64 s_4), (.int .i64 s_5), (.int .i64 s_6), (.int .i64 s_7), (.slice s_8_a s_8_l s_8_c), (.int .i64 s_9), (.int .i64 s_10), (.int .i64 s_11), (.bool s_12)] Ty_api_Sender fun b w1 =>
  (∃ x_0 x_1 x_2 x_3 x_4 x_5 : Int, cellsAt w1 ⟨b, 0, none⟩ 0 [(.int .i64 x_0), (.int .i64 x_1), (.int .i64 x_2), (.int .i64 x_3), (.int .i64 x_4), (.int .i64 x_5)] ∧
  (Calls Try.prog N_ref20_ValidLink #[(.agg #[.int .i64 x_0, .int .i64 x_1, .int .i64 x_2, .int .i64 x_3, .int .i64 x_4, .int .i64 x_5])] w1 fun e_ w2 =>
  ∃ r : Bool, e_ = .returned (.bool r) ∧
  (bsplit (!r)
    (R (.bool false) w2)
    ((kLd w2 ⟨b, 0, none⟩ .i64 fun x =>
    (kW .u64 (x) fun x1 =>
    (0 ≤ x1 ∧ (kW .i64 ((1 : Int) * 2 ^ (min x1.toNat (IntKind.bits .i64))) fun x2 =>
    (∃ J : World → Prop,
    (∀ (_junk : Env)  (w3 : World), J w3 →
      (kLd w3 ⟨b, 6, none⟩ .i64 fun x7 =>
      (kLd w3 ⟨b, 7, none⟩ .i64 fun x8 =>
      (Calls Try.prog N_ref20_Place #[(.int .i64 x), (.int .i64 x7), (.int .i64 x8)] w3 fun e_1 w4 =>
      ∃ r1 : Int, e_1 = .returned (.int .i64 r1) ∧
      (∃ J1 : Bool → World → Prop,
      (∀ (_junk : Env) (x16 : Bool) (w5 : World), J1 x16 w5 →
        (bsplit x16
          (R (.bool false) w5)
          ((∃ I : Int → Nat × (World → Prop), (I (0 : Int)).2 w5 ∧
          (∀ (_junk : Env) (i : Int) (w6 : World), (I i).2 w6 →
            (kLdS w6 ⟨b, 8, none⟩ fun _ x_l1 _ =>
            (bsplit (decide (i < (x_l1 : Int)))
              ((kLdS w6 ⟨b, 8, none⟩ fun x_a2 x_l2 _ =>
              (kIx x_a2 x_l2 i fun b1 =>
              (∃ x_01 : Int, ∃ x_1_a : Option Addr, ∃ x_1_l x_1_c : Nat, ∃ x_21 x_31 : Int, ∃ x_4_a : Option Addr, ∃ x_4_l x_4_c : Nat, cellsAt w6 (b1.add (i.toNat * 5)) 0 [(.int .i64 x_01), (.slice x_1_a x_1_l x_1_c), (.int .i64 x_21), (.int .i64 x_31), (.slice x_4_a x_4_l x_4_c)] ∧
              (kAlloc w6 #[.int .i64 (0 : Int), .slice none 0 0, .int .i64 (0 : Int), .int .i64 (0 : Int), .slice none 0 0] Ty_api_Unit fun b2 w7 =>
              (sxStore w7 ⟨b2, 0, none⟩ 0 [(.int .i64 x_01), (.slice x_1_a x_1_l x_1_c), (.int .i64 x_21), (.int .i64 x_31), (.slice x_4_a x_4_l x_4_c)] fun w8 =>
              (∃ x_02 x_11 x_22 x_32 x_41 x_51 x_6 x_7 : Int, ∃ x_8_a : Option Addr, ∃ x_8_l x_8_c : Nat, ∃ x_9 x_10 x_111 : Int, ∃ x_12 : Bool, cellsAt w8 ⟨b, 0, none⟩ 0 [(.int .i64 x_02), (.int .i64 x_11), (.int .i64 x_22), (.int .i64 x_32), (.int .i64 x_41), (.int .i64 x_51), (.int .i64 x_6), (.int .i64 x_7), (.slice x_8_a x_8_l x_8_c), (.int .i64 x_9), (.int .i64 x_10), (.int .i64 x_111), (.bool x_12)] ∧
              (∃ x_03 : Int, ∃ x_1_a1 : Option Addr, ∃ x_1_l1 x_1_c1 : Nat, ∃ x_23 x_33 : Int, ∃ x_4_a1 : Option Addr, ∃ x_4_l1 x_4_c1 : Nat, cellsAt w8 ⟨b2, 0, none⟩ 0 [(.int .i64 x_03), (.slice x_1_a1 x_1_l1 x_1_c1), (.int .i64 x_23), (.int .i64 x_33), (.slice x_4_a1 x_4_l1 x_4_c1)] ∧
              (Calls Try.prog N_ref20_unit #[(.agg #[.int .i64 x_02, .int .i64 x_11, .int .i64 x_22, .int .i64 x_32, .int .i64 x_41, .int .i64 x_51, .int .i64 x_6, .int .i64 x_7, .slice x_8_a x_8_l x_8_c, .int .i64 x_9, .int .i64 x_10, .int .i64 x_111, .bool x_12]), (.agg #[.int .i64 x_03, .slice x_1_a1 x_1_l1 x_1_c1, .int .i64 x_23, .int .i64 x_33, .slice x_4_a1 x_4_l1 x_4_c1])] w8 fun e_2 w9 =>
              ∃ r2 : Bool, e_2 = .returned (.bool r2) ∧
              (bsplit (!r2)
                (R (.bool false) w9)
                ((kLd w9 ⟨b, 6, none⟩ .i64 fun x17 =>
                (kLd w9 ⟨b2, 0, none⟩ .i64 fun x18 =>
                (Calls Try.prog N_ref20_Place #[(.int .i64 x), (.int .i64 x17), (.int .i64 x18)] w9 fun e_3 w10 =>
                ∃ r3 : Int, e_3 = .returned (.int .i64 r3) ∧
                (∃ J2 : Bool → World → Prop,
                (∀ (_junk : Env) (x41 : Bool) (w14 : World), J2 x41 w14 →
                  (bsplit x41
                    (R (.bool false) w14)
                    ((kW .i64 (i + (1 : Int)) fun x42 =>
                    ((I x42).2 w14 ∧ (I x42).1 < (I i).1))))) ∧
                (kDrew w10 fun w11 =>
                (∃ S : Nat → Prop,
                (bsplit (decide (r3 ≥ r1))
                  (J2 true w11)
                  ((bsplit (decide (i = (0 : Int)))
                    ((bsplit (!decide (r3 = (0 : Int)))
                      (J2 true w11)
                      ((bsplit (decide (i > (0 : Int)))
                        ((kLd w11 ⟨b, 6, none⟩ .i64 fun x19 =>
                        (kLdS w11 ⟨b, 8, none⟩ fun x_a3 x_l3 _ =>
                        (kW .i64 (i - (1 : Int)) fun x20 =>
                        (kIx x_a3 x_l3 x20 fun b3 =>
                        (kLd w11 (b3.add (x20.toNat * 5)) .i64 fun x21 =>
                        (Calls Try.prog N_ref20_Place #[(.int .i64 x), (.int .i64 x19), (.int .i64 x21)] w11 fun e_4 w12 =>
                        ∃ r4 : Int, e_4 = .returned (.int .i64 r4) ∧
                        (KeepsB S w11 w12 ∧ (bsplit (decide (r3 ≤ r4))
                          (J2 true w12)
                          ((bsplit (decide (i > (0 : Int)))
                            ((S b2 ∧
                            (kLd w11 ⟨b2, 2, none⟩ .i64 fun x22 =>
                            (bsplit (decide (x22 > (0 : Int)))
                              ((S b ∧
                              (kLdS w11 ⟨b, 8, none⟩ fun x_a4 x_l4 _ =>
                              (kW .i64 (i - (1 : Int)) fun x23 =>
                              (kIx x_a4 x_l4 x23 fun b4 =>
                              (S ((b4.add (x23.toNat * 5)).add 2).block ∧
                              (kLd w11 ((b4.add (x23.toNat * 5)).add 2) .i64 fun x24 =>
                              (S b ∧
                              (kLdS w11 ⟨b, 8, none⟩ fun x_a5 x_l5 _ =>
                              (kW .i64 (i - (1 : Int)) fun x25 =>
                              (kIx x_a5 x_l5 x25 fun b5 =>
                              (S ((b5.add (x25.toNat * 5)).add 1).block ∧
                              (kLdS w11 ((b5.add (x25.toNat * 5)).add 1) fun _ x_l6 _ =>
                              J2 (decide (x24 < (x_l6 : Int))) w12)))))))))))))
                              (J2 false w12)))))
                            (J2 false w12))))))))))))
                        ((bsplit (decide (i > (0 : Int)))
                          ((S b2 ∧
                          (kLd w11 ⟨b2, 2, none⟩ .i64 fun x26 =>
                          (bsplit (decide (x26 > (0 : Int)))
                            ((S b ∧
                            (kLdS w11 ⟨b, 8, none⟩ fun x_a7 x_l7 _ =>
                            (kW .i64 (i - (1 : Int)) fun x27 =>
                            (kIx x_a7 x_l7 x27 fun b6 =>
                            (S ((b6.add (x27.toNat * 5)).add 2).block ∧
                            (kLd w11 ((b6.add (x27.toNat * 5)).add 2) .i64 fun x28 =>
                            (S b ∧
                            (kLdS w11 ⟨b, 8, none⟩ fun x_a8 x_l8 _ =>
                            (kW .i64 (i - (1 : Int)) fun x29 =>
                            (kIx x_a8 x_l8 x29 fun b7 =>
                            (S ((b7.add (x29.toNat * 5)).add 1).block ∧
                            (kLdS w11 ((b7.add (x29.toNat * 5)).add 1) fun _ x_l9 _ =>
                            J2 (decide (x28 < (x_l9 : Int))) w11)))))))))))))
                            (J2 false w11)))))
                          (J2 false w11)))))))
                    ((bsplit (decide (i > (0 : Int)))
                      ((kLd w11 ⟨b, 6, none⟩ .i64 fun x30 =>
                      (kLdS w11 ⟨b, 8, none⟩ fun x_a10 x_l10 _ =>
                      (kW .i64 (i - (1 : Int)) fun x31 =>
                      (kIx x_a10 x_l10 x31 fun b8 =>
                      (kLd w11 (b8.add (x31.toNat * 5)) .i64 fun x32 =>
                      (Calls Try.prog N_ref20_Place #[(.int .i64 x), (.int .i64 x30), (.int .i64 x32)] w11 fun e_5 w13 =>
                      ∃ r5 : Int, e_5 = .returned (.int .i64 r5) ∧
                      (KeepsB S w11 w13 ∧ (bsplit (decide (r3 ≤ r5))
                        (J2 true w13)
                        ((bsplit (decide (i > (0 : Int)))
                          ((S b2 ∧
                          (kLd w11 ⟨b2, 2, none⟩ .i64 fun x33 =>
                          (bsplit (decide (x33 > (0 : Int)))
                            ((S b ∧
                            (kLdS w11 ⟨b, 8, none⟩ fun x_a11 x_l11 _ =>
                            (kW .i64 (i - (1 : Int)) fun x34 =>
                            (kIx x_a11 x_l11 x34 fun b9 =>
                            (S ((b9.add (x34.toNat * 5)).add 2).block ∧
                            (kLd w11 ((b9.add (x34.toNat * 5)).add 2) .i64 fun x35 =>
                            (S b ∧
                            (kLdS w11 ⟨b, 8, none⟩ fun x_a12 x_l12 _ =>
                            (kW .i64 (i - (1 : Int)) fun x36 =>
                            (kIx x_a12 x_l12 x36 fun b10 =>
                            (S ((b10.add (x36.toNat * 5)).add 1).block ∧
                            (kLdS w11 ((b10.add (x36.toNat * 5)).add 1) fun _ x_l13 _ =>
                            J2 (decide (x35 < (x_l13 : Int))) w13)))))))))))))
                            (J2 false w13)))))
                          (J2 false w13))))))))))))
                      ((bsplit (decide (i > (0 : Int)))
                        ((S b2 ∧
                        (kLd w11 ⟨b2, 2, none⟩ .i64 fun x37 =>
                        (bsplit (decide (x37 > (0 : Int)))
                          ((S b ∧
                          (kLdS w11 ⟨b, 8, none⟩ fun x_a14 x_l14 _ =>
                          (kW .i64 (i - (1 : Int)) fun x38 =>
                          (kIx x_a14 x_l14 x38 fun b11 =>
                          (S ((b11.add (x38.toNat * 5)).add 2).block ∧
                          (kLd w11 ((b11.add (x38.toNat * 5)).add 2) .i64 fun x39 =>
                          (S b ∧
                          (kLdS w11 ⟨b, 8, none⟩ fun x_a15 x_l15 _ =>
                          (kW .i64 (i - (1 : Int)) fun x40 =>
                          (kIx x_a15 x_l15 x40 fun b12 =>
                          (S ((b12.add (x40.toNat * 5)).add 1).block ∧
                          (kLdS w11 ((b12.add (x40.toNat * 5)).add 1) fun _ x_l16 _ =>
                          J2 (decide (x39 < (x_l16 : Int))) w11)))))))))))))
                          (J2 false w11)))))
                        (J2 false w11)))))))))))))))))))))))))
              ((kLd w6 ⟨b, 10, none⟩ .i64 fun x43 =>
              (bsplit (decide (x43 = (-1 : Int)))
                ((kLd w6 ⟨b, 11, none⟩ .i64 fun x44 =>
                (kLet (decide (x44 = (0 : Int))) fun x45 =>
                R (.bool x45) w6)))
                ((∃ I1 : Int → Nat × (World → Prop), (I1 (0 : Int)).2 w6 ∧
                (∀ (_junk : Env) (i1 : Int) (w15 : World), (I1 i1).2 w15 →
                  (kLdS w15 ⟨b, 8, none⟩ fun _ x_l17 _ =>
                  (bsplit (decide (i1 < (x_l17 : Int)))
                    ((∃ J3 : Bool → World → Prop,
                    (∀ (_junk : Env) (x49 : Bool) (w17 : World), J3 x49 w17 →
                      (bsplit x49
                        ((kLd w17 ⟨b, 11, none⟩ .i64 fun x50 =>
                        (bsplit (decide (x50 ≥ (1 : Int)))
                          ((kLd w17 ⟨b, 11, none⟩ .i64 fun x51 =>
                          (kLd w17 ⟨b, 2, none⟩ .i64 fun x52 =>
                          (kLet (decide (x51 ≤ x52)) fun x53 =>
                          R (.bool x53) w17))))
                          (R (.bool false) w17))))
                        ((kW .i64 (i1 + (1 : Int)) fun x54 =>
                        ((I1 x54).2 w17 ∧ (I1 x54).1 < (I1 i1).1))))) ∧
                    (kDrew w15 fun w16 =>
                    (kLdS w16 ⟨b, 8, none⟩ fun x_a18 x_l18 _ =>
                    (kIx x_a18 x_l18 i1 fun b13 =>
                    (kLd w16 (b13.add (i1.toNat * 5)) .i64 fun x46 =>
                    (kLd w16 ⟨b, 10, none⟩ .i64 fun x47 =>
                    (bsplit (decide (x46 = x47))
                      ((kLdS w16 ⟨b, 8, none⟩ fun x_a19 x_l19 _ =>
                      (kIx x_a19 x_l19 i1 fun b14 =>
                      (kLd w16 ((b14.add (i1.toNat * 5)).add 2) .i64 fun x48 =>
                      J3 (decide (x48 > (0 : Int))) w16))))
                      (J3 false w16)))))))))
                    (R (.bool false) w15)))))))))))))))) ∧
      (kW .i64 (Int.tdiv x2 (2 : Int)) fun x9 =>
      (bsplit (decide (r1 > x9))
        (J1 true w4)
        ((kLdS w4 ⟨b, 8, none⟩ fun _ x_l _ =>
        (bsplit (decide ((x_l : Int) = (0 : Int)))
          ((bsplit (!decide (r1 = (0 : Int)))
            (J1 true w4)
            ((kLd w4 ⟨b, 9, none⟩ .i64 fun x10 =>
            (bsplit (decide (x10 < (0 : Int)))
              (J1 true w4)
              ((kLd w4 ⟨b, 9, none⟩ .i64 fun x11 =>
              (kLd w4 ⟨b, 1, none⟩ .i64 fun x12 =>
              J1 (decide (x11 ≥ x12)) w4))))))))
          ((kLd w4 ⟨b, 9, none⟩ .i64 fun x13 =>
          (bsplit (decide (x13 < (0 : Int)))
            (J1 true w4)
            ((kLd w4 ⟨b, 9, none⟩ .i64 fun x14 =>
            (kLd w4 ⟨b, 1, none⟩ .i64 fun x15 =>
            J1 (decide (x14 ≥ x15)) w4)))))))))))))))) ∧
    (kLd w2 ⟨b, 6, none⟩ .i64 fun x3 =>
    (bsplit (decide (x3 < (0 : Int)))
      (R (.bool false) w2)
      ((kLd w2 ⟨b, 6, none⟩ .i64 fun x4 =>
      (bsplit (decide (x4 ≥ x2))
        (R (.bool false) w2)
        ((kLd w2 ⟨b, 7, none⟩ .i64 fun x5 =>
        (bsplit (decide (x5 < (0 : Int)))
          (R (.bool false) w2)
          ((kLd w2 ⟨b, 7, none⟩ .i64 fun x6 =>
          (bsplit (decide (x6 ≥ x2))
            (R (.bool false) w2)
            (J w2))))))))))))))))))))))
theorem F_ref20_Valid_eq (s_0 : Int) (s_1 : Int) (s_2 : Int) (s_3 : Int) (s_4 : Int) (s_5 : Int) (s_6 : Int) (s_7 : Int) (s_8_a : Option Addr) (s_8_l : Nat) (s_8_c : Nat) (s_9 : Int) (s_10 : Int) (s_11 : Int) (s_12 : Bool) (w : World) (R : Value → World → Prop) : sxFn Try.prog TT h_ref20_Valid Try.f69 #[(.agg #[.int .i64 s_0, .int .i64 s_1, .int .i64 s_2, .int .i64 s_3, .int .i64 s_4, .int .i64 s_5, .int .i64 s_6, .int .i64 s_7, .slice s_8_a s_8_l s_8_c, .int .i64 s_9, .int .i64 s_10, .int .i64 s_11, .bool s_12])] w R = F_ref20_Valid s_0 s_1 s_2 s_3 s_4 s_5 s_6 s_7 s_8_a s_8_l s_8_c s_9 s_10 s_11 s_12 w R := by kernel_rfl
theorem F_ref20_Valid_ok {R : Ending → World → Prop} (s_0 : Int) (s_1 : Int) (s_2 : Int) (s_3 : Int) (s_4 : Int) (s_5 : Int) (s_6 : Int) (s_7 : Int) (s_8_a : Option Addr) (s_8_l : Nat) (s_8_c : Nat) (s_9 : Int) (s_10 : Int) (s_11 : Int) (s_12 : Bool) (w : World) (h : F_ref20_Valid s_0 s_1 s_2 s_3 s_4 s_5 s_6 s_7 s_8_a s_8_l s_8_c s_9 s_10 s_11 s_12 w fun v w' => R (.returned v) w') : Calls Try.prog N_ref20_Valid #[(.agg #[.int .i64 s_0, .int .i64 s_1, .int .i64 s_2, .int .i64 s_3, .int .i64 s_4, .int .i64 s_5, .int .i64 s_6, .int .i64 s_7, .slice s_8_a s_8_l s_8_c, .int .i64 s_9, .int .i64 s_10, .int .i64 s_11, .bool s_12])] w R :=
  calls_of (f := 69) follows_ok Try.func69 (Eq.mpr (F_ref20_Valid_eq s_0 s_1 s_2 s_3 s_4 s_5 s_6 s_7 s_8_a s_8_l s_8_c s_9 s_10 s_11 s_12 w _) h)

end Go.Proofs.Ytmhggobilcmdmaa
