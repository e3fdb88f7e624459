import Derived.Test.YthceaojjeokclaaGreatBase
import Derived.KernelRfl
namespace Go.Proofs.YthceaojjeokclaaGreat
open Go.Sx Go.RowKit
set_option maxRecDepth 100000

def h_receiver_Valid : H := (.seq .reg (.seq .reg (.cut [] [2, 8, 9, 10, 11, 12, 13, 14, 15, 16, 17, 18, 19, 20, 21, 22, 23, 24, 25, 26, 27, 28, 29, 30, 31, 32] (.seq .reg (.cond (.seq .reg .leaf) .leaf)) (.seq .reg (.seq (.cut [(69, .p .bool)] [37, 38, 39, 40, 41, 42, 43, 44, 45, 46, 47, 48, 49, 50, 51, 52, 53, 54, 55, 56, 57, 58, 59, 60, 61, 62, 63, 64, 65, 66, 67, 68, 69] .reg (.cond (.seq .reg .leaf) .leaf)) (.seq (.seq .reg (.cond (.seq .reg .leaf) .leaf)) (.seq .reg .leaf)))))))
def F_receiver_Valid (r_0 r_1 r_2 r_3 r_4 r_5 r_6 r_7 r_8 r_9 r_10 r_11 : Int) (r_12 : Bool) (r_13_a : OA) (r_13_l r_13_c : Nat) (w : World) (R : Value → WP) : Prop :=
 (kAlloc w #[(Iv r_0), (Iv r_1), (Iv r_2), (Iv r_3), (Iv r_4), (Iv r_5), (Iv r_6), (Iv r_7), (Iv r_8), (Iv r_9), (Iv r_10), (Iv r_11), (.bool r_12), (.slice r_13_a r_13_l r_13_c)] Ty_api_Receiver fun b w1 =>
 (∃ x_0 x_1 x_2 x_3 x_4 x_5 x_6 x_7 x_8 x_9 x_10 x_11 : Int, ∃ x_12 : Bool, ∃ x_13_a : OA, ∃ x_13_l x_13_c : Nat, cellsAt w1 ⟨b, 0, none⟩ 0 [(Iv x_0), (Iv x_1), (Iv x_2), (Iv x_3), (Iv x_4), (Iv x_5), (Iv x_6), (Iv x_7), (Iv x_8), (Iv x_9), (Iv x_10), (Iv x_11), (.bool x_12), (.slice x_13_a x_13_l x_13_c)] ∧
 (kAlloc w1 #[(Iv x_0), (Iv x_1), (Iv x_2), (Iv x_3), (Iv x_4), (Iv x_5), (Iv x_6), (Iv x_7), (Iv x_8), (Iv x_9), (Iv x_10), (Iv x_11), (.bool x_12), (.slice x_13_a x_13_l x_13_c)] Ty_receiver_side fun b1 w2 =>
 (∃ J : WP,
 (∀ (_ : Env)  (w7 : World), J w7 →
 (kLd w7 ⟨b, 7, none⟩ .i64 fun x3 =>
 (CP N_receiver_side_place #[(.pointer (some ⟨b1, 0, none⟩)), (Iv x3)] w7 fun e_4 w8 =>
 ∃ r4 : Int, e_4 = .returned (Iv r4) ∧
 (∃ J1 : Bool → WP,
 (∀ (_ : Env) (x11 : Bool) (w11 : World), J1 x11 w11 →
 (bsplit x11
 (R (.bool false) w11)
 ((kLd w11 ⟨b, 9, none⟩ .i64 fun x12 =>
 (bsplit (decide (x12 = (-1 : Int)))
 ((kLd w11 ⟨b, 10, none⟩ .i64 fun x13 =>
 (kLet (decide (x13 = (0 : Int))) fun x14 =>
 R (.bool x14) w11)))
 ((kLd w11 ⟨b, 9, none⟩ .i64 fun x15 =>
 (CP N_receiver_side_number #[(.pointer (some ⟨b1, 0, none⟩)), (Iv x15)] w11 fun e_7 w12 =>
 ∃ r7 : Bool, e_7 = .returned (.bool r7) ∧
 (bsplit r7
 ((kLd w12 ⟨b, 9, none⟩ .i64 fun x16 =>
 (CP N_receiver_side_place #[(.pointer (some ⟨b1, 0, none⟩)), (Iv x16)] w12 fun e_8 w13 =>
 ∃ r8 : Int, e_8 = .returned (Iv r8) ∧
 (bsplit (decide (r8 ≥ (1 : Int)))
 ((kLd w13 ⟨b, 9, none⟩ .i64 fun x17 =>
 (CP N_receiver_side_place #[(.pointer (some ⟨b1, 0, none⟩)), (Iv x17)] w13 fun e_9 w14 =>
 ∃ r9 : Int, e_9 = .returned (Iv r9) ∧
 (bsplit (decide (r9 ≤ r4))
 ((kLd w14 ⟨b, 10, none⟩ .i64 fun x18 =>
 (bsplit (decide (x18 ≥ (1 : Int)))
 ((kLd w14 ⟨b, 10, none⟩ .i64 fun x19 =>
 (kLd w14 ⟨b, 3, none⟩ .i64 fun x20 =>
 (kLet (decide (x19 ≤ x20)) fun x21 =>
 R (.bool x21) w14))))
 (R (.bool false) w14))))
 (R (.bool false) w14)))))
 (R (.bool false) w13)))))
 (R (.bool false) w12)))))))))) ∧
 (kLd w8 ⟨b, 0, none⟩ .i64 fun x4 =>
 (kW .i64 (x4 - (1 : Int)) fun x5 =>
 (0 ≤ x5 ∧ (kW .i64 ((1 : Int) * 2 ^ (min x5.toNat (IntKind.bits .i64))) fun x6 =>
 (bsplit (decide (r4 > x6))
 (J1 true w8)
 ((kLd w8 ⟨b, 8, none⟩ .i64 fun x7 =>
 (CP N_receiver_side_place #[(.pointer (some ⟨b1, 0, none⟩)), (Iv x7)] w8 fun e_5 w9 =>
 ∃ r5 : Int, e_5 = .returned (Iv r5) ∧
 (bsplit (decide (r5 > r4))
 (J1 true w9)
 ((kLd w9 ⟨b, 11, none⟩ .i64 fun x8 =>
 (bsplit (decide (x8 < (0 : Int)))
 (J1 true w9)
 ((kLd w9 ⟨b, 11, none⟩ .i64 fun x9 =>
 (kLd w9 ⟨b, 4, none⟩ .i64 fun x10 =>
 (bsplit (decide (x9 > x10))
 (J1 true w9)
 ((CP N_receiver_side_partials #[(.pointer (some ⟨b1, 0, none⟩))] w9 fun e_6 w10 =>
 ∃ r6 : Bool, e_6 = .returned (.bool r6) ∧
 J1 (!r6) w10)))))))))))))))))))))) ∧
 (∃ x_01 x_13 x_21 x_31 x_41 x_51 : Int, cellsAt w2 ⟨b, 0, none⟩ 0 [(Iv x_01), (Iv x_13), (Iv x_21), (Iv x_31), (Iv x_41), (Iv x_51)] ∧
 (CP N_sender_ValidLink #[(.agg #[Iv x_01, Iv x_13, Iv x_21, Iv x_31, Iv x_41, Iv x_51])] w2 fun e_ w3 =>
 ∃ r : Bool, e_ = .returned (.bool r) ∧
 (bsplit (!r)
 (R (.bool false) w3)
 ((kLd w3 ⟨b, 6, none⟩ .i64 fun x =>
 (CP N_receiver_side_number #[(.pointer (some ⟨b1, 0, none⟩)), (Iv x)] w3 fun e_1 w4 =>
 ∃ r1 : Bool, e_1 = .returned (.bool r1) ∧
 (bsplit (!r1)
 (R (.bool false) w4)
 ((kLd w4 ⟨b, 7, none⟩ .i64 fun x1 =>
 (CP N_receiver_side_number #[(.pointer (some ⟨b1, 0, none⟩)), (Iv x1)] w4 fun e_2 w5 =>
 ∃ r2 : Bool, e_2 = .returned (.bool r2) ∧
 (bsplit (!r2)
 (R (.bool false) w5)
 ((kLd w5 ⟨b, 8, none⟩ .i64 fun x2 =>
 (CP N_receiver_side_number #[(.pointer (some ⟨b1, 0, none⟩)), (Iv x2)] w5 fun e_3 w6 =>
 ∃ r3 : Bool, e_3 = .returned (.bool r3) ∧
 (bsplit (!r3)
 (R (.bool false) w6)
 (J w6))))))))))))))))))))
theorem F_receiver_Valid_eq (r_0 r_1 r_2 r_3 r_4 r_5 r_6 r_7 r_8 r_9 r_10 r_11 : Int) (r_12 : Bool) (r_13_a : Option Addr) (r_13_l r_13_c : Nat) (w : World) (R : Value → World → Prop) : sxFn Tryz.prog TT h_receiver_Valid Tryz.f27 #[(.agg #[.int .i64 r_0, .int .i64 r_1, .int .i64 r_2, .int .i64 r_3, .int .i64 r_4, .int .i64 r_5, .int .i64 r_6, .int .i64 r_7, .int .i64 r_8, .int .i64 r_9, .int .i64 r_10, .int .i64 r_11, .bool r_12, .slice r_13_a r_13_l r_13_c])] w R = F_receiver_Valid r_0 r_1 r_2 r_3 r_4 r_5 r_6 r_7 r_8 r_9 r_10 r_11 r_12 r_13_a r_13_l r_13_c w R := by kernel_rfl
theorem F_receiver_Valid_ok {R : Ending → World → Prop} (r_0 r_1 r_2 r_3 r_4 r_5 r_6 r_7 r_8 r_9 r_10 r_11 : Int) (r_12 : Bool) (r_13_a : Option Addr) (r_13_l r_13_c : Nat) (w : World) (h : F_receiver_Valid r_0 r_1 r_2 r_3 r_4 r_5 r_6 r_7 r_8 r_9 r_10 r_11 r_12 r_13_a r_13_l r_13_c w fun v w' => R (.returned v) w') : Calls Tryz.prog N_receiver_Valid #[(.agg #[.int .i64 r_0, .int .i64 r_1, .int .i64 r_2, .int .i64 r_3, .int .i64 r_4, .int .i64 r_5, .int .i64 r_6, .int .i64 r_7, .int .i64 r_8, .int .i64 r_9, .int .i64 r_10, .int .i64 r_11, .bool r_12, .slice r_13_a r_13_l r_13_c])] w R :=
 calls_of (f := 27) follows_ok Tryz.func27 (Eq.mpr (F_receiver_Valid_eq r_0 r_1 r_2 r_3 r_4 r_5 r_6 r_7 r_8 r_9 r_10 r_11 r_12 r_13_a r_13_l r_13_c w _) h)

def h_sender_ValidLink : H := (.seq .reg (.cut [(3, .p .bool)] [3, 4, 5, 6, 7, 8, 9, 10, 11, 12, 13, 14, 15, 16] .reg (.seq .reg .leaf)))
def F_sender_ValidLink (l_0 l_1 l_2 l_3 l_4 l_5 : Int) (w : World) (R : Value → WP) : Prop :=
 (kAlloc w #[(Iv l_0), (Iv l_1), (Iv l_2), (Iv l_3), (Iv l_4), (Iv l_5)] Ty_api_Link fun b w1 =>
 (∃ J : Bool → WP,
 (∀ (_ : Env) (times : Bool) (w5 : World), J times w5 →
 (kLd w5 ⟨b, 0, none⟩ .i64 fun x3 =>
 (CP N_counter_Bits #[(Iv x3)] w5 fun e_3 w6 =>
 ∃ r3 : Bool, e_3 = .returned (.bool r3) ∧
 (bsplit r3
 ((kLd w6 ⟨b, 1, none⟩ .i64 fun x4 =>
 (CP N_sender_between #[(Iv x4), (Iv (1 : Int)), (Iv (64 : Int))] w6 fun e_4 w7 =>
 ∃ r4 : Bool, e_4 = .returned (.bool r4) ∧
 (bsplit r4
 ((bsplit times
 ((kLd w7 ⟨b, 5, none⟩ .i64 fun x5 =>
 (CP N_sender_between #[(Iv x5), (Iv (1 : Int)), (Iv (32 : Int))] w7 fun e_5 w8 =>
 ∃ r5 : Bool, e_5 = .returned (.bool r5) ∧
 R (.bool r5) w8)))
 (R (.bool false) w7)))
 (R (.bool false) w7)))))
 (R (.bool false) w6))))) ∧
 (kLd w1 ⟨b, 2, none⟩ .i64 fun x =>
 (CP N_sender_between #[(Iv x), (Iv (1 : Int)), (Iv (1000 : Int))] w1 fun e_ w2 =>
 ∃ r : Bool, e_ = .returned (.bool r) ∧
 (bsplit r
 ((kLd w2 ⟨b, 3, none⟩ .i64 fun x1 =>
 (CP N_sender_between #[(Iv x1), (Iv (1 : Int)), (Iv (1000 : Int))] w2 fun e_1 w3 =>
 ∃ r1 : Bool, e_1 = .returned (.bool r1) ∧
 (bsplit r1
 ((kLd w3 ⟨b, 4, none⟩ .i64 fun x2 =>
 (CP N_sender_between #[(Iv x2), (Iv (0 : Int)), (Iv (1000 : Int))] w3 fun e_2 w4 =>
 ∃ r2 : Bool, e_2 = .returned (.bool r2) ∧
 J r2 w4)))
 (J false w3)))))
 (J false w2))))))
theorem F_sender_ValidLink_eq (l_0 l_1 l_2 l_3 l_4 l_5 : Int) (w : World) (R : Value → World → Prop) : sxFn Tryz.prog TT h_sender_ValidLink Tryz.f28 #[(.agg #[.int .i64 l_0, .int .i64 l_1, .int .i64 l_2, .int .i64 l_3, .int .i64 l_4, .int .i64 l_5])] w R = F_sender_ValidLink l_0 l_1 l_2 l_3 l_4 l_5 w R := by kernel_rfl
theorem F_sender_ValidLink_ok {R : Ending → World → Prop} (l_0 l_1 l_2 l_3 l_4 l_5 : Int) (w : World) (h : F_sender_ValidLink l_0 l_1 l_2 l_3 l_4 l_5 w fun v w' => R (.returned v) w') : Calls Tryz.prog N_sender_ValidLink #[(.agg #[.int .i64 l_0, .int .i64 l_1, .int .i64 l_2, .int .i64 l_3, .int .i64 l_4, .int .i64 l_5])] w R :=
 calls_of (f := 28) follows_ok Tryz.func28 (Eq.mpr (F_sender_ValidLink_eq l_0 l_1 l_2 l_3 l_4 l_5 w _) h)

def h_ref20_ValidLink : H := (.seq .reg (.seq .reg .leaf))
def F_ref20_ValidLink (l_0 l_1 l_2 l_3 l_4 l_5 : Int) (w : World) (R : Value → WP) : Prop :=
 (kAlloc w #[(Iv l_0), (Iv l_1), (Iv l_2), (Iv l_3), (Iv l_4), (Iv l_5)] Ty_api_Link fun b w1 =>
 (kLd w1 ⟨b, 0, none⟩ .i64 fun x =>
 (CP N_ref15_Bits #[(Iv x)] w1 fun e_ w2 =>
 ∃ r : Bool, e_ = .returned (.bool r) ∧
 (bsplit r
 ((kLd w2 ⟨b, 1, none⟩ .i64 fun x1 =>
 (bsplit (decide (x1 ≥ (1 : Int)))
 ((kLd w2 ⟨b, 1, none⟩ .i64 fun x2 =>
 (bsplit (decide (x2 ≤ (64 : Int)))
 ((kLd w2 ⟨b, 2, none⟩ .i64 fun x3 =>
 (bsplit (decide (x3 ≥ (1 : Int)))
 ((kLd w2 ⟨b, 2, none⟩ .i64 fun x4 =>
 (bsplit (decide (x4 ≤ (1000 : Int)))
 ((kLd w2 ⟨b, 3, none⟩ .i64 fun x5 =>
 (bsplit (decide (x5 ≥ (1 : Int)))
 ((kLd w2 ⟨b, 3, none⟩ .i64 fun x6 =>
 (bsplit (decide (x6 ≤ (1000 : Int)))
 ((kLd w2 ⟨b, 4, none⟩ .i64 fun x7 =>
 (bsplit (decide (x7 ≥ (0 : Int)))
 ((kLd w2 ⟨b, 4, none⟩ .i64 fun x8 =>
 (bsplit (decide (x8 ≤ (1000 : Int)))
 ((kLd w2 ⟨b, 5, none⟩ .i64 fun x9 =>
 (bsplit (decide (x9 ≥ (1 : Int)))
 ((kLd w2 ⟨b, 5, none⟩ .i64 fun x10 =>
 (kLet (decide (x10 ≤ (32 : Int))) fun x11 =>
 R (.bool x11) w2)))
 (R (.bool false) w2))))
 (R (.bool false) w2))))
 (R (.bool false) w2))))
 (R (.bool false) w2))))
 (R (.bool false) w2))))
 (R (.bool false) w2))))
 (R (.bool false) w2))))
 (R (.bool false) w2))))
 (R (.bool false) w2))))
 (R (.bool false) w2)))))
theorem F_ref20_ValidLink_eq (l_0 l_1 l_2 l_3 l_4 l_5 : Int) (w : World) (R : Value → World → Prop) : sxFn Tryz.prog TT h_ref20_ValidLink Tryz.f29 #[(.agg #[.int .i64 l_0, .int .i64 l_1, .int .i64 l_2, .int .i64 l_3, .int .i64 l_4, .int .i64 l_5])] w R = F_ref20_ValidLink l_0 l_1 l_2 l_3 l_4 l_5 w R := by kernel_rfl
theorem F_ref20_ValidLink_ok {R : Ending → World → Prop} (l_0 l_1 l_2 l_3 l_4 l_5 : Int) (w : World) (h : F_ref20_ValidLink l_0 l_1 l_2 l_3 l_4 l_5 w fun v w' => R (.returned v) w') : Calls Tryz.prog N_ref20_ValidLink #[(.agg #[.int .i64 l_0, .int .i64 l_1, .int .i64 l_2, .int .i64 l_3, .int .i64 l_4, .int .i64 l_5])] w R :=
 calls_of (f := 29) follows_ok Tryz.func29 (Eq.mpr (F_ref20_ValidLink_eq l_0 l_1 l_2 l_3 l_4 l_5 w _) h)

def h_ref01_Same : H := (.seq .reg (.seq .reg .leaf))
def F_ref01_Same (a_a : OA) (a_l a_c : Nat) (b_a : OA) (b_l b_c : Nat) (w : World) (R : Value → WP) : Prop :=
 (ConvS Tryz.prog Ty_S_uint8 Ty_string (.slice a_a a_l a_c) w fun x =>
 (ConvS Tryz.prog Ty_S_uint8 Ty_string (.slice b_a b_l b_c) w fun x1 =>
 R (.bool (x == x1)) w))
theorem F_ref01_Same_eq (a_a : Option Addr) (a_l a_c : Nat) (b_a : Option Addr) (b_l b_c : Nat) (w : World) (R : Value → World → Prop) : sxFn Tryz.prog TT h_ref01_Same Tryz.f30 #[(.slice a_a a_l a_c), (.slice b_a b_l b_c)] w R = F_ref01_Same a_a a_l a_c b_a b_l b_c w R := by kernel_rfl
theorem F_ref01_Same_ok {R : Ending → World → Prop} (a_a : Option Addr) (a_l a_c : Nat) (b_a : Option Addr) (b_l b_c : Nat) (w : World) (h : F_ref01_Same a_a a_l a_c b_a b_l b_c w fun v w' => R (.returned v) w') : Calls Tryz.prog N_ref01_Same #[(.slice a_a a_l a_c), (.slice b_a b_l b_c)] w R :=
 calls_of (f := 30) follows_ok Tryz.func30 (Eq.mpr (F_ref01_Same_eq a_a a_l a_c b_a b_l b_c w _) h)

def h_ref18_SameRanges : H := (.seq .reg (.seq (.seq .reg (.cond (.seq .reg .leaf) .leaf)) (.seq (.seq .reg (.block (.loop [(5, .p (.int .i64))] [4, 5, 11, 12, 13, 14, 15, 16, 17, 18, 19, 20, 21, 22, 23, 24, 25] (.seq (.seq .reg (.cond .leaf .leaf)) (.seq (.block (.seq (.draw .no (.one 0 .stable (.one 1 .stable (.one 2 .stable (.one 3 .stable (.one 4 .stable (.one 5 .stable (.one 6 .stable (.one 7 .stable (.one 8 .stable .nil)))))))))) (.cond (.seq .reg .leaf) .leaf))) .reg))))) (.seq .reg .leaf))))
def F_ref18_SameRanges (a_a : OA) (a_l _ : Nat) (b_a : OA) (b_l _ : Nat) (w : World) (R : Value → WP) : Prop :=
 (bsplit (!decide ((a_l : Int) = (b_l : Int)))
 (R (.bool false) w)
 ((∃ I : Int → Nat × (WP), (I (0 : Int)).2 w ∧
 (∀ (_ : Env) (i : Int) (w1 : World), (I i).2 w1 →
 (bsplit (decide (i < (a_l : Int)))
 ((kDrew w1 fun w2 =>
 (kIx a_a a_l i fun b =>
 (∃ x_0 x_1 x_2 : Int, cellsAt w2 (b.add (i.toNat * 3)) 0 [(Iv x_0), (Iv x_1), (Iv x_2)] ∧
 (kIx b_a b_l i fun b1 =>
 (∃ x_01 x_11 x_21 : Int, cellsAt w2 (b1.add (i.toNat * 3)) 0 [(Iv x_01), (Iv x_11), (Iv x_21)] ∧
 (EqP Tryz.prog .neq Ty_api_Range (.tmp 20) (.tmp 24) (.agg #[Iv x_0, Iv x_1, Iv x_2]) (.agg #[Iv x_01, Iv x_11, Iv x_21]) fun r =>
 (bsplit r
 (R (.bool false) w2)
 ((kW .i64 (i + (1 : Int)) fun x =>
 ((I x).2 w2 ∧ (I x).1 < (I i).1)))))))))))
 (R (.bool true) w1))))))
theorem F_ref18_SameRanges_eq (a_a : Option Addr) (a_l a_c : Nat) (b_a : Option Addr) (b_l b_c : Nat) (w : World) (R : Value → World → Prop) : sxFn Tryz.prog TT h_ref18_SameRanges Tryz.f31 #[(.slice a_a a_l a_c), (.slice b_a b_l b_c)] w R = F_ref18_SameRanges a_a a_l a_c b_a b_l b_c w R := by kernel_rfl
theorem F_ref18_SameRanges_ok {R : Ending → World → Prop} (a_a : Option Addr) (a_l a_c : Nat) (b_a : Option Addr) (b_l b_c : Nat) (w : World) (h : F_ref18_SameRanges a_a a_l a_c b_a b_l b_c w fun v w' => R (.returned v) w') : Calls Tryz.prog N_ref18_SameRanges #[(.slice a_a a_l a_c), (.slice b_a b_l b_c)] w R :=
 calls_of (f := 31) follows_ok Tryz.func31 (Eq.mpr (F_ref18_SameRanges_eq a_a a_l a_c b_a b_l b_c w _) h)

def h_ref21_Receive : H := (.seq .reg (.seq (.seq .reg (.cond (.seq .reg .leaf) .leaf)) (.seq .reg (.seq .reg (.seq (.seq .reg (.cond (.seq .reg .leaf) .leaf)) (.seq .reg (.seq (.seq .reg (.cond .reg .leaf)) (.seq .reg .leaf))))))))
def F_ref21_Receive (r_0 r_1 r_2 r_3 r_4 r_5 r_6 r_7 r_8 r_9 r_10 r_11 : Int) (r_12 : Bool) (r_13_a : OA) (r_13_l r_13_c : Nat) (b_a : OA) (b_l b_c : Nat) (w : World) (R : Value → WP) : Prop :=
 (kAlloc w #[(Iv r_0), (Iv r_1), (Iv r_2), (Iv r_3), (Iv r_4), (Iv r_5), (Iv r_6), (Iv r_7), (Iv r_8), (Iv r_9), (Iv r_10), (Iv r_11), (.bool r_12), (.slice r_13_a r_13_l r_13_c)] Ty_api_Receiver fun b w1 =>
 (kAlloc w1 #[Iv (0 : Int), Iv (0 : Int), Iv (0 : Int), Iv (0 : Int), Iv (0 : Int), Iv (0 : Int), Iv (0 : Int), Iv (0 : Int), Iv (0 : Int), Iv (0 : Int), Iv (0 : Int), Iv (0 : Int), .bool false, .slice none 0 0] Ty_api_Receiver fun b1 w2 =>
 (∃ x_0 x_1 x_2 x_3 x_4 x_5 x_6 x_7 x_8 x_9 x_10 x_11 : Int, ∃ x_12 : Bool, ∃ x_13_a : OA, ∃ x_13_l x_13_c : Nat, cellsAt w2 ⟨b, 0, none⟩ 0 [(Iv x_0), (Iv x_1), (Iv x_2), (Iv x_3), (Iv x_4), (Iv x_5), (Iv x_6), (Iv x_7), (Iv x_8), (Iv x_9), (Iv x_10), (Iv x_11), (.bool x_12), (.slice x_13_a x_13_l x_13_c)] ∧
 (CP N_ref21_Valid #[(.agg #[Iv x_0, Iv x_1, Iv x_2, Iv x_3, Iv x_4, Iv x_5, Iv x_6, Iv x_7, Iv x_8, Iv x_9, Iv x_10, Iv x_11, .bool x_12, .slice x_13_a x_13_l x_13_c])] w2 fun e_ w3 =>
 ∃ r : Bool, e_ = .returned (.bool r) ∧
 (bsplit (!r)
 ((sxStore w3 ⟨b1, 0, none⟩ 0 [(Iv (0 : Int)), (Iv (0 : Int)), (Iv (0 : Int)), (Iv (0 : Int)), (Iv (0 : Int)), (Iv (0 : Int)), (Iv (0 : Int)), (Iv (0 : Int)), (Iv (0 : Int)), (Iv (0 : Int)), (Iv (0 : Int)), (Iv (0 : Int)), (.bool false), (.slice none 0 0)] fun w4 =>
 (∃ r_01 r_13 r_21 r_31 r_41 r_51 r_61 r_71 r_81 r_91 r_101 r_111 : Int, ∃ r_121 : Bool, ∃ r_13_a1 : OA, ∃ r_13_l1 r_13_c1 : Nat, cellsAt w4 ⟨b1, 0, none⟩ 0 [(Iv r_01), (Iv r_13), (Iv r_21), (Iv r_31), (Iv r_41), (Iv r_51), (Iv r_61), (Iv r_71), (Iv r_81), (Iv r_91), (Iv r_101), (Iv r_111), (.bool r_121), (.slice r_13_a1 r_13_l1 r_13_c1)] ∧
 R (.tuple #[(.agg #[Iv r_01, Iv r_13, Iv r_21, Iv r_31, Iv r_41, Iv r_51, Iv r_61, Iv r_71, Iv r_81, Iv r_91, Iv r_101, Iv r_111, .bool r_121, .slice r_13_a1 r_13_l1 r_13_c1]), (.slice none 0 0), (Iv (1 : Int))]) w4)))
 ((∃ x_01 x_13 x_21 x_31 x_41 x_51 x_61 x_71 x_81 x_91 x_101 x_111 : Int, ∃ x_121 : Bool, ∃ x_13_a1 : OA, ∃ x_13_l1 x_13_c1 : Nat, cellsAt w3 ⟨b, 0, none⟩ 0 [(Iv x_01), (Iv x_13), (Iv x_21), (Iv x_31), (Iv x_41), (Iv x_51), (Iv x_61), (Iv x_71), (Iv x_81), (Iv x_91), (Iv x_101), (Iv x_111), (.bool x_121), (.slice x_13_a1 x_13_l1 x_13_c1)] ∧
 (CP N_ref21_Copy #[(.agg #[Iv x_01, Iv x_13, Iv x_21, Iv x_31, Iv x_41, Iv x_51, Iv x_61, Iv x_71, Iv x_81, Iv x_91, Iv x_101, Iv x_111, .bool x_121, .slice x_13_a1 x_13_l1 x_13_c1])] w3 fun e_1 w5 =>
 ∃ r_02 r_14 r_22 r_32 r_42 r_52 r_62 r_72 r_82 r_92 r_102 r_112 : Int, ∃ r_122 : Bool, ∃ r_13_a2 : OA, ∃ r_13_l2 r_13_c2 : Nat, e_1 = .returned (.agg #[Iv r_02, Iv r_14, Iv r_22, Iv r_32, Iv r_42, Iv r_52, Iv r_62, Iv r_72, Iv r_82, Iv r_92, Iv r_102, Iv r_112, .bool r_122, .slice r_13_a2 r_13_l2 r_13_c2]) ∧
 (kAlloc w5 #[Iv (0 : Int), Iv (0 : Int), Iv (0 : Int), Iv (0 : Int), Iv (0 : Int), Iv (0 : Int), Iv (0 : Int), Iv (0 : Int), Iv (0 : Int), Iv (0 : Int), Iv (0 : Int), Iv (0 : Int), .bool false, .slice none 0 0] Ty_api_Receiver fun b2 w6 =>
 (sxStore w6 ⟨b2, 0, none⟩ 0 [(Iv r_02), (Iv r_14), (Iv r_22), (Iv r_32), (Iv r_42), (Iv r_52), (Iv r_62), (Iv r_72), (Iv r_82), (Iv r_92), (Iv r_102), (Iv r_112), (.bool r_122), (.slice r_13_a2 r_13_l2 r_13_c2)] fun w7 =>
 (kLd w7 ⟨b, 0, none⟩ .i64 fun x =>
 (CP N_ref18_Decode #[(Iv x), (.slice b_a b_l b_c)] w7 fun e_2 w8 =>
 ∃ r_03 r_15 r_23 r_33 : Int, ∃ r_4_a : OA, ∃ r_4_l r_4_c : Nat, ∃ r1 : Int, e_2 = .returned (.tuple #[(.agg #[Iv r_03, Iv r_15, Iv r_23, Iv r_33, .slice r_4_a r_4_l r_4_c]), (Iv r1)]) ∧
 (kAlloc w8 #[Iv (0 : Int), Iv (0 : Int), Iv (0 : Int), Iv (0 : Int), .slice none 0 0] Ty_api_Piece fun b3 w9 =>
 (sxStore w9 ⟨b3, 0, none⟩ 0 [(Iv r_03), (Iv r_15), (Iv r_23), (Iv r_33), (.slice r_4_a r_4_l r_4_c)] fun w10 =>
 (bsplit (!decide (r1 = (0 : Int)))
 ((∃ x_02 x_14 x_22 x_32 x_42 x_52 x_62 x_72 x_82 x_92 x_102 x_112 : Int, ∃ x_122 : Bool, ∃ x_13_a2 : OA, ∃ x_13_l2 x_13_c2 : Nat, cellsAt w10 ⟨b2, 0, none⟩ 0 [(Iv x_02), (Iv x_14), (Iv x_22), (Iv x_32), (Iv x_42), (Iv x_52), (Iv x_62), (Iv x_72), (Iv x_82), (Iv x_92), (Iv x_102), (Iv x_112), (.bool x_122), (.slice x_13_a2 x_13_l2 x_13_c2)] ∧
 (sxStore w10 ⟨b1, 0, none⟩ 0 [(Iv x_02), (Iv x_14), (Iv x_22), (Iv x_32), (Iv x_42), (Iv x_52), (Iv x_62), (Iv x_72), (Iv x_82), (Iv x_92), (Iv x_102), (Iv x_112), (.bool x_122), (.slice x_13_a2 x_13_l2 x_13_c2)] fun w11 =>
 (∃ r_04 r_16 r_24 r_34 r_43 r_53 r_63 r_73 r_83 r_93 r_103 r_113 : Int, ∃ r_123 : Bool, ∃ r_13_a3 : OA, ∃ r_13_l3 r_13_c3 : Nat, cellsAt w11 ⟨b1, 0, none⟩ 0 [(Iv r_04), (Iv r_16), (Iv r_24), (Iv r_34), (Iv r_43), (Iv r_53), (Iv r_63), (Iv r_73), (Iv r_83), (Iv r_93), (Iv r_103), (Iv r_113), (.bool r_123), (.slice r_13_a3 r_13_l3 r_13_c3)] ∧
 R (.tuple #[(.agg #[Iv r_04, Iv r_16, Iv r_24, Iv r_34, Iv r_43, Iv r_53, Iv r_63, Iv r_73, Iv r_83, Iv r_93, Iv r_103, Iv r_113, .bool r_123, .slice r_13_a3 r_13_l3 r_13_c3]), (.slice none 0 0), (Iv r1)]) w11))))
 ((∃ x_03 x_15 x_23 x_33 x_43 x_53 x_63 x_73 x_83 x_93 x_103 x_113 : Int, ∃ x_123 : Bool, ∃ x_13_a3 : OA, ∃ x_13_l3 x_13_c3 : Nat, cellsAt w10 ⟨b2, 0, none⟩ 0 [(Iv x_03), (Iv x_15), (Iv x_23), (Iv x_33), (Iv x_43), (Iv x_53), (Iv x_63), (Iv x_73), (Iv x_83), (Iv x_93), (Iv x_103), (Iv x_113), (.bool x_123), (.slice x_13_a3 x_13_l3 x_13_c3)] ∧
 (∃ x_04 x_16 x_24 x_34 : Int, ∃ x_4_a : OA, ∃ x_4_l x_4_c : Nat, cellsAt w10 ⟨b3, 0, none⟩ 0 [(Iv x_04), (Iv x_16), (Iv x_24), (Iv x_34), (.slice x_4_a x_4_l x_4_c)] ∧
 (CP N_ref21_put #[(.agg #[Iv x_03, Iv x_15, Iv x_23, Iv x_33, Iv x_43, Iv x_53, Iv x_63, Iv x_73, Iv x_83, Iv x_93, Iv x_103, Iv x_113, .bool x_123, .slice x_13_a3 x_13_l3 x_13_c3]), (.agg #[Iv x_04, Iv x_16, Iv x_24, Iv x_34, .slice x_4_a x_4_l x_4_c])] w10 fun e_3 w12 =>
 ∃ r_05 r_17 r_25 r_35 r_44 r_54 r_64 r_74 r_84 r_94 r_104 r_114 : Int, ∃ r_124 : Bool, ∃ r_13_a4 : OA, ∃ r_13_l4 r_13_c4 : Nat, ∃ r_a : OA, ∃ r_l r_c : Nat, ∃ r2 : Int, e_3 = .returned (.tuple #[(.agg #[Iv r_05, Iv r_17, Iv r_25, Iv r_35, Iv r_44, Iv r_54, Iv r_64, Iv r_74, Iv r_84, Iv r_94, Iv r_104, Iv r_114, .bool r_124, .slice r_13_a4 r_13_l4 r_13_c4]), (.slice r_a r_l r_c), (Iv r2)]) ∧
 (sxStore w12 ⟨b2, 0, none⟩ 0 [(Iv r_05), (Iv r_17), (Iv r_25), (Iv r_35), (Iv r_44), (Iv r_54), (Iv r_64), (Iv r_74), (Iv r_84), (Iv r_94), (Iv r_104), (Iv r_114), (.bool r_124), (.slice r_13_a4 r_13_l4 r_13_c4)] fun w13 =>
 (kLd w13 ⟨b3, 2, none⟩ .i64 fun x1 =>
 (bsplit (decide (x1 = (1 : Int)))
 ((kLd w13 ⟨b2, 7, none⟩ .i64 fun x2 =>
 (kSet w13 ⟨b2, 12, none⟩ (.bool true) fun w14 =>
 (kSet w14 ⟨b2, 8, none⟩ (Iv x2) fun w15 =>
 (∃ x_05 x_17 x_25 x_35 x_44 x_54 x_64 x_74 x_84 x_94 x_104 x_114 : Int, ∃ x_124 : Bool, ∃ x_13_a4 : OA, ∃ x_13_l4 x_13_c4 : Nat, cellsAt w15 ⟨b2, 0, none⟩ 0 [(Iv x_05), (Iv x_17), (Iv x_25), (Iv x_35), (Iv x_44), (Iv x_54), (Iv x_64), (Iv x_74), (Iv x_84), (Iv x_94), (Iv x_104), (Iv x_114), (.bool x_124), (.slice x_13_a4 x_13_l4 x_13_c4)] ∧
 (sxStore w15 ⟨b1, 0, none⟩ 0 [(Iv x_05), (Iv x_17), (Iv x_25), (Iv x_35), (Iv x_44), (Iv x_54), (Iv x_64), (Iv x_74), (Iv x_84), (Iv x_94), (Iv x_104), (Iv x_114), (.bool x_124), (.slice x_13_a4 x_13_l4 x_13_c4)] fun w16 =>
 (∃ r_06 r_18 r_26 r_36 r_45 r_55 r_65 r_75 r_85 r_95 r_105 r_115 : Int, ∃ r_125 : Bool, ∃ r_13_a5 : OA, ∃ r_13_l5 r_13_c5 : Nat, cellsAt w16 ⟨b1, 0, none⟩ 0 [(Iv r_06), (Iv r_18), (Iv r_26), (Iv r_36), (Iv r_45), (Iv r_55), (Iv r_65), (Iv r_75), (Iv r_85), (Iv r_95), (Iv r_105), (Iv r_115), (.bool r_125), (.slice r_13_a5 r_13_l5 r_13_c5)] ∧
 R (.tuple #[(.agg #[Iv r_06, Iv r_18, Iv r_26, Iv r_36, Iv r_45, Iv r_55, Iv r_65, Iv r_75, Iv r_85, Iv r_95, Iv r_105, Iv r_115, .bool r_125, .slice r_13_a5 r_13_l5 r_13_c5]), (.slice r_a r_l r_c), (Iv r2)]) w16)))))))
 ((∃ x_06 x_18 x_26 x_36 x_45 x_55 x_65 x_75 x_85 x_95 x_105 x_115 : Int, ∃ x_125 : Bool, ∃ x_13_a5 : OA, ∃ x_13_l5 x_13_c5 : Nat, cellsAt w13 ⟨b2, 0, none⟩ 0 [(Iv x_06), (Iv x_18), (Iv x_26), (Iv x_36), (Iv x_45), (Iv x_55), (Iv x_65), (Iv x_75), (Iv x_85), (Iv x_95), (Iv x_105), (Iv x_115), (.bool x_125), (.slice x_13_a5 x_13_l5 x_13_c5)] ∧
 (sxStore w13 ⟨b1, 0, none⟩ 0 [(Iv x_06), (Iv x_18), (Iv x_26), (Iv x_36), (Iv x_45), (Iv x_55), (Iv x_65), (Iv x_75), (Iv x_85), (Iv x_95), (Iv x_105), (Iv x_115), (.bool x_125), (.slice x_13_a5 x_13_l5 x_13_c5)] fun w17 =>
 (∃ r_07 r_19 r_27 r_37 r_46 r_56 r_66 r_76 r_86 r_96 r_106 r_116 : Int, ∃ r_126 : Bool, ∃ r_13_a6 : OA, ∃ r_13_l6 r_13_c6 : Nat, cellsAt w17 ⟨b1, 0, none⟩ 0 [(Iv r_07), (Iv r_19), (Iv r_27), (Iv r_37), (Iv r_46), (Iv r_56), (Iv r_66), (Iv r_76), (Iv r_86), (Iv r_96), (Iv r_106), (Iv r_116), (.bool r_126), (.slice r_13_a6 r_13_l6 r_13_c6)] ∧
 R (.tuple #[(.agg #[Iv r_07, Iv r_19, Iv r_27, Iv r_37, Iv r_46, Iv r_56, Iv r_66, Iv r_76, Iv r_86, Iv r_96, Iv r_106, Iv r_116, .bool r_126, .slice r_13_a6 r_13_l6 r_13_c6]), (.slice r_a r_l r_c), (Iv r2)]) w17))))))))))))))))))))))))))
theorem F_ref21_Receive_eq (r_0 r_1 r_2 r_3 r_4 r_5 r_6 r_7 r_8 r_9 r_10 r_11 : Int) (r_12 : Bool) (r_13_a : Option Addr) (r_13_l r_13_c : Nat) (b_a : Option Addr) (b_l b_c : Nat) (w : World) (R : Value → World → Prop) : sxFn Tryz.prog TT h_ref21_Receive Tryz.f32 #[(.agg #[.int .i64 r_0, .int .i64 r_1, .int .i64 r_2, .int .i64 r_3, .int .i64 r_4, .int .i64 r_5, .int .i64 r_6, .int .i64 r_7, .int .i64 r_8, .int .i64 r_9, .int .i64 r_10, .int .i64 r_11, .bool r_12, .slice r_13_a r_13_l r_13_c]), (.slice b_a b_l b_c)] w R = F_ref21_Receive r_0 r_1 r_2 r_3 r_4 r_5 r_6 r_7 r_8 r_9 r_10 r_11 r_12 r_13_a r_13_l r_13_c b_a b_l b_c w R := by kernel_rfl
theorem F_ref21_Receive_ok {R : Ending → World → Prop} (r_0 r_1 r_2 r_3 r_4 r_5 r_6 r_7 r_8 r_9 r_10 r_11 : Int) (r_12 : Bool) (r_13_a : Option Addr) (r_13_l r_13_c : Nat) (b_a : Option Addr) (b_l b_c : Nat) (w : World) (h : F_ref21_Receive r_0 r_1 r_2 r_3 r_4 r_5 r_6 r_7 r_8 r_9 r_10 r_11 r_12 r_13_a r_13_l r_13_c b_a b_l b_c w fun v w' => R (.returned v) w') : Calls Tryz.prog N_ref21_Receive #[(.agg #[.int .i64 r_0, .int .i64 r_1, .int .i64 r_2, .int .i64 r_3, .int .i64 r_4, .int .i64 r_5, .int .i64 r_6, .int .i64 r_7, .int .i64 r_8, .int .i64 r_9, .int .i64 r_10, .int .i64 r_11, .bool r_12, .slice r_13_a r_13_l r_13_c]), (.slice b_a b_l b_c)] w R :=
 calls_of (f := 32) follows_ok Tryz.func32 (Eq.mpr (F_ref21_Receive_eq r_0 r_1 r_2 r_3 r_4 r_5 r_6 r_7 r_8 r_9 r_10 r_11 r_12 r_13_a r_13_l r_13_c b_a b_l b_c w _) h)

def h_ref21_Tick : H := (.seq .reg (.seq (.seq .reg (.cond (.seq .reg .leaf) .leaf)) (.seq .reg (.seq .reg (.seq (.seq .reg (.cond (.seq .reg .leaf) .leaf)) (.seq .reg (.seq (.seq .reg (.cond (.seq .reg .leaf) .leaf)) (.seq (.seq (.draw .blk (.one 0 .pre (.one 1 .pre (.one 2 .pre (.one 4 .stable (.one 5 .stable (.one 6 .stable (.one 3 .keep (.one 7 .keep (.one 8 .stable .nil)))))))))) (.cond .reg .leaf)) (.seq .reg (.seq .reg .leaf))))))))))
def F_ref21_Tick (r_0 r_1 r_2 r_3 r_4 r_5 r_6 r_7 r_8 r_9 r_10 r_11 : Int) (r_12 : Bool) (r_13_a : OA) (r_13_l r_13_c : Nat) (w : World) (R : Value → WP) : Prop :=
 (kAlloc w #[(Iv r_0), (Iv r_1), (Iv r_2), (Iv r_3), (Iv r_4), (Iv r_5), (Iv r_6), (Iv r_7), (Iv r_8), (Iv r_9), (Iv r_10), (Iv r_11), (.bool r_12), (.slice r_13_a r_13_l r_13_c)] Ty_api_Receiver fun b w1 =>
 (kAlloc w1 #[Iv (0 : Int), Iv (0 : Int), Iv (0 : Int), Iv (0 : Int), Iv (0 : Int), Iv (0 : Int), Iv (0 : Int), Iv (0 : Int), Iv (0 : Int), Iv (0 : Int), Iv (0 : Int), Iv (0 : Int), .bool false, .slice none 0 0] Ty_api_Receiver fun b1 w2 =>
 (∃ x_0 x_1 x_2 x_3 x_4 x_5 x_6 x_7 x_8 x_9 x_10 x_11 : Int, ∃ x_12 : Bool, ∃ x_13_a : OA, ∃ x_13_l x_13_c : Nat, cellsAt w2 ⟨b, 0, none⟩ 0 [(Iv x_0), (Iv x_1), (Iv x_2), (Iv x_3), (Iv x_4), (Iv x_5), (Iv x_6), (Iv x_7), (Iv x_8), (Iv x_9), (Iv x_10), (Iv x_11), (.bool x_12), (.slice x_13_a x_13_l x_13_c)] ∧
 (CP N_ref21_Valid #[(.agg #[Iv x_0, Iv x_1, Iv x_2, Iv x_3, Iv x_4, Iv x_5, Iv x_6, Iv x_7, Iv x_8, Iv x_9, Iv x_10, Iv x_11, .bool x_12, .slice x_13_a x_13_l x_13_c])] w2 fun e_ w3 =>
 ∃ r : Bool, e_ = .returned (.bool r) ∧
 (bsplit (!r)
 ((sxStore w3 ⟨b1, 0, none⟩ 0 [(Iv (0 : Int)), (Iv (0 : Int)), (Iv (0 : Int)), (Iv (0 : Int)), (Iv (0 : Int)), (Iv (0 : Int)), (Iv (0 : Int)), (Iv (0 : Int)), (Iv (0 : Int)), (Iv (0 : Int)), (Iv (0 : Int)), (Iv (0 : Int)), (.bool false), (.slice none 0 0)] fun w4 =>
 (∃ r_01 r_13 r_21 r_31 r_41 r_51 r_61 r_71 r_81 r_91 r_101 r_111 : Int, ∃ r_121 : Bool, ∃ r_13_a1 : OA, ∃ r_13_l1 r_13_c1 : Nat, cellsAt w4 ⟨b1, 0, none⟩ 0 [(Iv r_01), (Iv r_13), (Iv r_21), (Iv r_31), (Iv r_41), (Iv r_51), (Iv r_61), (Iv r_71), (Iv r_81), (Iv r_91), (Iv r_101), (Iv r_111), (.bool r_121), (.slice r_13_a1 r_13_l1 r_13_c1)] ∧
 R (.tuple #[(.agg #[Iv r_01, Iv r_13, Iv r_21, Iv r_31, Iv r_41, Iv r_51, Iv r_61, Iv r_71, Iv r_81, Iv r_91, Iv r_101, Iv r_111, .bool r_121, .slice r_13_a1 r_13_l1 r_13_c1]), (Iv (1 : Int))]) w4)))
 ((∃ x_01 x_13 x_21 x_31 x_41 x_51 x_61 x_71 x_81 x_91 x_101 x_111 : Int, ∃ x_121 : Bool, ∃ x_13_a1 : OA, ∃ x_13_l1 x_13_c1 : Nat, cellsAt w3 ⟨b, 0, none⟩ 0 [(Iv x_01), (Iv x_13), (Iv x_21), (Iv x_31), (Iv x_41), (Iv x_51), (Iv x_61), (Iv x_71), (Iv x_81), (Iv x_91), (Iv x_101), (Iv x_111), (.bool x_121), (.slice x_13_a1 x_13_l1 x_13_c1)] ∧
 (CP N_ref21_Copy #[(.agg #[Iv x_01, Iv x_13, Iv x_21, Iv x_31, Iv x_41, Iv x_51, Iv x_61, Iv x_71, Iv x_81, Iv x_91, Iv x_101, Iv x_111, .bool x_121, .slice x_13_a1 x_13_l1 x_13_c1])] w3 fun e_1 w5 =>
 ∃ r_02 r_14 r_22 r_32 r_42 r_52 r_62 r_72 r_82 r_92 r_102 r_112 : Int, ∃ r_122 : Bool, ∃ r_13_a2 : OA, ∃ r_13_l2 r_13_c2 : Nat, e_1 = .returned (.agg #[Iv r_02, Iv r_14, Iv r_22, Iv r_32, Iv r_42, Iv r_52, Iv r_62, Iv r_72, Iv r_82, Iv r_92, Iv r_102, Iv r_112, .bool r_122, .slice r_13_a2 r_13_l2 r_13_c2]) ∧
 (kAlloc w5 #[Iv (0 : Int), Iv (0 : Int), Iv (0 : Int), Iv (0 : Int), Iv (0 : Int), Iv (0 : Int), Iv (0 : Int), Iv (0 : Int), Iv (0 : Int), Iv (0 : Int), Iv (0 : Int), Iv (0 : Int), .bool false, .slice none 0 0] Ty_api_Receiver fun b2 w6 =>
 (sxStore w6 ⟨b2, 0, none⟩ 0 [(Iv r_02), (Iv r_14), (Iv r_22), (Iv r_32), (Iv r_42), (Iv r_52), (Iv r_62), (Iv r_72), (Iv r_82), (Iv r_92), (Iv r_102), (Iv r_112), (.bool r_122), (.slice r_13_a2 r_13_l2 r_13_c2)] fun w7 =>
 (kLd w7 ⟨b2, 11, none⟩ .i64 fun x =>
 (kW .i64 (x - (1 : Int)) fun x1 =>
 (kSet w7 ⟨b2, 11, none⟩ (Iv (if x1 > (0 : Int) then x1 else (0 : Int))) fun w8 =>
 (kLd w8 ⟨b2, 10, none⟩ .i64 fun x2 =>
 (bsplit (decide (x2 = (0 : Int)))
 ((∃ x_02 x_14 x_22 x_32 x_42 x_52 x_62 x_72 x_82 x_92 x_102 x_112 : Int, ∃ x_122 : Bool, ∃ x_13_a2 : OA, ∃ x_13_l2 x_13_c2 : Nat, cellsAt w8 ⟨b2, 0, none⟩ 0 [(Iv x_02), (Iv x_14), (Iv x_22), (Iv x_32), (Iv x_42), (Iv x_52), (Iv x_62), (Iv x_72), (Iv x_82), (Iv x_92), (Iv x_102), (Iv x_112), (.bool x_122), (.slice x_13_a2 x_13_l2 x_13_c2)] ∧
 (sxStore w8 ⟨b1, 0, none⟩ 0 [(Iv x_02), (Iv x_14), (Iv x_22), (Iv x_32), (Iv x_42), (Iv x_52), (Iv x_62), (Iv x_72), (Iv x_82), (Iv x_92), (Iv x_102), (Iv x_112), (.bool x_122), (.slice x_13_a2 x_13_l2 x_13_c2)] fun w9 =>
 (∃ r_03 r_15 r_23 r_33 r_43 r_53 r_63 r_73 r_83 r_93 r_103 r_113 : Int, ∃ r_123 : Bool, ∃ r_13_a3 : OA, ∃ r_13_l3 r_13_c3 : Nat, cellsAt w9 ⟨b1, 0, none⟩ 0 [(Iv r_03), (Iv r_15), (Iv r_23), (Iv r_33), (Iv r_43), (Iv r_53), (Iv r_63), (Iv r_73), (Iv r_83), (Iv r_93), (Iv r_103), (Iv r_113), (.bool r_123), (.slice r_13_a3 r_13_l3 r_13_c3)] ∧
 R (.tuple #[(.agg #[Iv r_03, Iv r_15, Iv r_23, Iv r_33, Iv r_43, Iv r_53, Iv r_63, Iv r_73, Iv r_83, Iv r_93, Iv r_103, Iv r_113, .bool r_123, .slice r_13_a3 r_13_l3 r_13_c3]), (Iv (0 : Int))]) w9))))
 ((kLd w8 ⟨b2, 10, none⟩ .i64 fun x3 =>
 (kW .i64 (x3 - (1 : Int)) fun x4 =>
 (kSet w8 ⟨b2, 10, none⟩ (Iv x4) fun w10 =>
 (kLd w10 ⟨b2, 10, none⟩ .i64 fun x5 =>
 (bsplit (decide (x5 > (0 : Int)))
 ((∃ x_03 x_15 x_23 x_33 x_43 x_53 x_63 x_73 x_83 x_93 x_103 x_113 : Int, ∃ x_123 : Bool, ∃ x_13_a3 : OA, ∃ x_13_l3 x_13_c3 : Nat, cellsAt w10 ⟨b2, 0, none⟩ 0 [(Iv x_03), (Iv x_15), (Iv x_23), (Iv x_33), (Iv x_43), (Iv x_53), (Iv x_63), (Iv x_73), (Iv x_83), (Iv x_93), (Iv x_103), (Iv x_113), (.bool x_123), (.slice x_13_a3 x_13_l3 x_13_c3)] ∧
 (sxStore w10 ⟨b1, 0, none⟩ 0 [(Iv x_03), (Iv x_15), (Iv x_23), (Iv x_33), (Iv x_43), (Iv x_53), (Iv x_63), (Iv x_73), (Iv x_83), (Iv x_93), (Iv x_103), (Iv x_113), (.bool x_123), (.slice x_13_a3 x_13_l3 x_13_c3)] fun w11 =>
 (∃ r_04 r_16 r_24 r_34 r_44 r_54 r_64 r_74 r_84 r_94 r_104 r_114 : Int, ∃ r_124 : Bool, ∃ r_13_a4 : OA, ∃ r_13_l4 r_13_c4 : Nat, cellsAt w11 ⟨b1, 0, none⟩ 0 [(Iv r_04), (Iv r_16), (Iv r_24), (Iv r_34), (Iv r_44), (Iv r_54), (Iv r_64), (Iv r_74), (Iv r_84), (Iv r_94), (Iv r_104), (Iv r_114), (.bool r_124), (.slice r_13_a4 r_13_l4 r_13_c4)] ∧
 R (.tuple #[(.agg #[Iv r_04, Iv r_16, Iv r_24, Iv r_34, Iv r_44, Iv r_54, Iv r_64, Iv r_74, Iv r_84, Iv r_94, Iv r_104, Iv r_114, .bool r_124, .slice r_13_a4 r_13_l4 r_13_c4]), (Iv (0 : Int))]) w11))))
 ((kDrew w10 fun w12 =>
 (∃ S : Nat → Prop,
 (∃ x_04 x_16 x_24 x_34 x_44 x_54 x_64 x_74 x_84 x_94 x_104 x_114 : Int, ∃ x_124 : Bool, ∃ x_13_a4 : OA, ∃ x_13_l4 x_13_c4 : Nat, cellsAt w12 ⟨b2, 0, none⟩ 0 [(Iv x_04), (Iv x_16), (Iv x_24), (Iv x_34), (Iv x_44), (Iv x_54), (Iv x_64), (Iv x_74), (Iv x_84), (Iv x_94), (Iv x_104), (Iv x_114), (.bool x_124), (.slice x_13_a4 x_13_l4 x_13_c4)] ∧
 (kLd w12 ⟨b2, 9, none⟩ .i64 fun x6 =>
 (S b2 ∧
 (∃ x_05 x_17 x_25 x_35 x_45 x_55 x_65 x_75 x_85 x_95 x_105 x_115 : Int, ∃ x_125 : Bool, ∃ x_13_a5 : OA, ∃ x_13_l5 x_13_c5 : Nat, cellsAt w12 ⟨b2, 0, none⟩ 0 [(Iv x_05), (Iv x_17), (Iv x_25), (Iv x_35), (Iv x_45), (Iv x_55), (Iv x_65), (Iv x_75), (Iv x_85), (Iv x_95), (Iv x_105), (Iv x_115), (.bool x_125), (.slice x_13_a5 x_13_l5 x_13_c5)] ∧
 (S b2 ∧
 (kLd w12 ⟨b2, 8, none⟩ .i64 fun x7 =>
 (CP N_ref21_place #[(.agg #[Iv x_04, Iv x_16, Iv x_24, Iv x_34, Iv x_44, Iv x_54, Iv x_64, Iv x_74, Iv x_84, Iv x_94, Iv x_104, Iv x_114, .bool x_124, .slice x_13_a4 x_13_l4 x_13_c4]), (Iv x6)] w12 fun e_2 w13 =>
 ∃ r1 : Int, e_2 = .returned (Iv r1) ∧
 (KeepsB S w12 w13 ∧ (CP N_ref21_place #[(.agg #[Iv x_05, Iv x_17, Iv x_25, Iv x_35, Iv x_45, Iv x_55, Iv x_65, Iv x_75, Iv x_85, Iv x_95, Iv x_105, Iv x_115, .bool x_125, .slice x_13_a5 x_13_l5 x_13_c5]), (Iv x7)] w13 fun e_3 w14 =>
 ∃ r2 : Int, e_3 = .returned (Iv r2) ∧
 (KeepsB S w12 w14 ∧ (bsplit (decide (r1 > r2))
 ((kLd w14 ⟨b2, 9, none⟩ .i64 fun x8 =>
 (kSet w14 ⟨b2, 8, none⟩ (Iv x8) fun w15 =>
 (kSet w15 ⟨b2, 12, none⟩ (.bool true) fun w16 =>
 (kSet w16 ⟨b2, 9, none⟩ (Iv (-1 : Int)) fun w17 =>
 (∃ x_06 x_18 x_26 x_36 x_46 x_56 x_66 x_76 x_86 x_96 x_106 x_116 : Int, ∃ x_126 : Bool, ∃ x_13_a6 : OA, ∃ x_13_l6 x_13_c6 : Nat, cellsAt w17 ⟨b2, 0, none⟩ 0 [(Iv x_06), (Iv x_18), (Iv x_26), (Iv x_36), (Iv x_46), (Iv x_56), (Iv x_66), (Iv x_76), (Iv x_86), (Iv x_96), (Iv x_106), (Iv x_116), (.bool x_126), (.slice x_13_a6 x_13_l6 x_13_c6)] ∧
 (CP N_ref21_start #[(.agg #[Iv x_06, Iv x_18, Iv x_26, Iv x_36, Iv x_46, Iv x_56, Iv x_66, Iv x_76, Iv x_86, Iv x_96, Iv x_106, Iv x_116, .bool x_126, .slice x_13_a6 x_13_l6 x_13_c6])] w17 fun e_4 w18 =>
 ∃ r_05 r_17 r_25 r_35 r_45 r_55 r_65 r_75 r_85 r_95 r_105 r_115 : Int, ∃ r_125 : Bool, ∃ r_13_a5 : OA, ∃ r_13_l5 r_13_c5 : Nat, e_4 = .returned (.agg #[Iv r_05, Iv r_17, Iv r_25, Iv r_35, Iv r_45, Iv r_55, Iv r_65, Iv r_75, Iv r_85, Iv r_95, Iv r_105, Iv r_115, .bool r_125, .slice r_13_a5 r_13_l5 r_13_c5]) ∧
 (sxStore w18 ⟨b1, 0, none⟩ 0 [(Iv r_05), (Iv r_17), (Iv r_25), (Iv r_35), (Iv r_45), (Iv r_55), (Iv r_65), (Iv r_75), (Iv r_85), (Iv r_95), (Iv r_105), (Iv r_115), (.bool r_125), (.slice r_13_a5 r_13_l5 r_13_c5)] fun w19 =>
 (∃ r_06 r_18 r_26 r_36 r_46 r_56 r_66 r_76 r_86 r_96 r_106 r_116 : Int, ∃ r_126 : Bool, ∃ r_13_a6 : OA, ∃ r_13_l6 r_13_c6 : Nat, cellsAt w19 ⟨b1, 0, none⟩ 0 [(Iv r_06), (Iv r_18), (Iv r_26), (Iv r_36), (Iv r_46), (Iv r_56), (Iv r_66), (Iv r_76), (Iv r_86), (Iv r_96), (Iv r_106), (Iv r_116), (.bool r_126), (.slice r_13_a6 r_13_l6 r_13_c6)] ∧
 R (.tuple #[(.agg #[Iv r_06, Iv r_18, Iv r_26, Iv r_36, Iv r_46, Iv r_56, Iv r_66, Iv r_76, Iv r_86, Iv r_96, Iv r_106, Iv r_116, .bool r_126, .slice r_13_a6 r_13_l6 r_13_c6]), (Iv (0 : Int))]) w19)))))))))
 ((kSet w14 ⟨b2, 12, none⟩ (.bool true) fun w20 =>
 (kSet w20 ⟨b2, 9, none⟩ (Iv (-1 : Int)) fun w21 =>
 (∃ x_07 x_19 x_27 x_37 x_47 x_57 x_67 x_77 x_87 x_97 x_107 x_117 : Int, ∃ x_127 : Bool, ∃ x_13_a7 : OA, ∃ x_13_l7 x_13_c7 : Nat, cellsAt w21 ⟨b2, 0, none⟩ 0 [(Iv x_07), (Iv x_19), (Iv x_27), (Iv x_37), (Iv x_47), (Iv x_57), (Iv x_67), (Iv x_77), (Iv x_87), (Iv x_97), (Iv x_107), (Iv x_117), (.bool x_127), (.slice x_13_a7 x_13_l7 x_13_c7)] ∧
 (CP N_ref21_start #[(.agg #[Iv x_07, Iv x_19, Iv x_27, Iv x_37, Iv x_47, Iv x_57, Iv x_67, Iv x_77, Iv x_87, Iv x_97, Iv x_107, Iv x_117, .bool x_127, .slice x_13_a7 x_13_l7 x_13_c7])] w21 fun e_5 w22 =>
 ∃ r_07 r_19 r_27 r_37 r_47 r_57 r_67 r_77 r_87 r_97 r_107 r_117 : Int, ∃ r_127 : Bool, ∃ r_13_a7 : OA, ∃ r_13_l7 r_13_c7 : Nat, e_5 = .returned (.agg #[Iv r_07, Iv r_19, Iv r_27, Iv r_37, Iv r_47, Iv r_57, Iv r_67, Iv r_77, Iv r_87, Iv r_97, Iv r_107, Iv r_117, .bool r_127, .slice r_13_a7 r_13_l7 r_13_c7]) ∧
 (sxStore w22 ⟨b1, 0, none⟩ 0 [(Iv r_07), (Iv r_19), (Iv r_27), (Iv r_37), (Iv r_47), (Iv r_57), (Iv r_67), (Iv r_77), (Iv r_87), (Iv r_97), (Iv r_107), (Iv r_117), (.bool r_127), (.slice r_13_a7 r_13_l7 r_13_c7)] fun w23 =>
 (∃ r_08 r_110 r_28 r_38 r_48 r_58 r_68 r_78 r_88 r_98 r_108 r_118 : Int, ∃ r_128 : Bool, ∃ r_13_a8 : OA, ∃ r_13_l8 r_13_c8 : Nat, cellsAt w23 ⟨b1, 0, none⟩ 0 [(Iv r_08), (Iv r_110), (Iv r_28), (Iv r_38), (Iv r_48), (Iv r_58), (Iv r_68), (Iv r_78), (Iv r_88), (Iv r_98), (Iv r_108), (Iv r_118), (.bool r_128), (.slice r_13_a8 r_13_l8 r_13_c8)] ∧
 R (.tuple #[(.agg #[Iv r_08, Iv r_110, Iv r_28, Iv r_38, Iv r_48, Iv r_58, Iv r_68, Iv r_78, Iv r_88, Iv r_98, Iv r_108, Iv r_118, .bool r_128, .slice r_13_a8 r_13_l8 r_13_c8]), (Iv (0 : Int))]) w23))))))))))))))))))))))))))))))))))))))))))
theorem F_ref21_Tick_eq (r_0 r_1 r_2 r_3 r_4 r_5 r_6 r_7 r_8 r_9 r_10 r_11 : Int) (r_12 : Bool) (r_13_a : Option Addr) (r_13_l r_13_c : Nat) (w : World) (R : Value → World → Prop) : sxFn Tryz.prog TT h_ref21_Tick Tryz.f33 #[(.agg #[.int .i64 r_0, .int .i64 r_1, .int .i64 r_2, .int .i64 r_3, .int .i64 r_4, .int .i64 r_5, .int .i64 r_6, .int .i64 r_7, .int .i64 r_8, .int .i64 r_9, .int .i64 r_10, .int .i64 r_11, .bool r_12, .slice r_13_a r_13_l r_13_c])] w R = F_ref21_Tick r_0 r_1 r_2 r_3 r_4 r_5 r_6 r_7 r_8 r_9 r_10 r_11 r_12 r_13_a r_13_l r_13_c w R := by kernel_rfl
theorem F_ref21_Tick_ok {R : Ending → World → Prop} (r_0 r_1 r_2 r_3 r_4 r_5 r_6 r_7 r_8 r_9 r_10 r_11 : Int) (r_12 : Bool) (r_13_a : Option Addr) (r_13_l r_13_c : Nat) (w : World) (h : F_ref21_Tick r_0 r_1 r_2 r_3 r_4 r_5 r_6 r_7 r_8 r_9 r_10 r_11 r_12 r_13_a r_13_l r_13_c w fun v w' => R (.returned v) w') : Calls Tryz.prog N_ref21_Tick #[(.agg #[.int .i64 r_0, .int .i64 r_1, .int .i64 r_2, .int .i64 r_3, .int .i64 r_4, .int .i64 r_5, .int .i64 r_6, .int .i64 r_7, .int .i64 r_8, .int .i64 r_9, .int .i64 r_10, .int .i64 r_11, .bool r_12, .slice r_13_a r_13_l r_13_c])] w R :=
 calls_of (f := 33) follows_ok Tryz.func33 (Eq.mpr (F_ref21_Tick_eq r_0 r_1 r_2 r_3 r_4 r_5 r_6 r_7 r_8 r_9 r_10 r_11 r_12 r_13_a r_13_l r_13_c w _) h)

def h_ref21_Report : H := (.seq .reg (.cut [] [5, 6, 13, 14, 15, 16, 17, 18, 19, 20, 21, 22, 23, 24, 25, 26, 27, 28, 29, 30, 31, 32, 33, 34, 35] (.block (.seq .reg (.cond (.seq .reg .leaf) (.cut [(18, .p .bool)] [18, 19, 20, 21, 22, 23, 24] .reg (.cond (.seq .reg .leaf) (.seq .reg (.cond (.seq .reg .leaf) .leaf))))))) (.seq .reg (.seq .reg (.seq (.seq .reg (.cond (.seq .reg .leaf) .leaf)) (.seq .reg (.seq .reg (.seq (.draw .blk (.one 0 .stable (.one 1 .stable (.one 2 .stable (.one 3 .pre (.one 4 .keep (.one 5 .stable (.one 6 .last .nil)))))))) (.seq .reg .leaf)))))))))
def F_ref21_Report (r_0 r_1 r_2 r_3 r_4 r_5 r_6 r_7 r_8 r_9 r_10 r_11 : Int) (r_12 : Bool) (r_13_a : OA) (r_13_l r_13_c : Nat) (size : Int) (w : World) (R : Value → WP) : Prop :=
 (kAlloc w #[(Iv r_0), (Iv r_1), (Iv r_2), (Iv r_3), (Iv r_4), (Iv r_5), (Iv r_6), (Iv r_7), (Iv r_8), (Iv r_9), (Iv r_10), (Iv r_11), (.bool r_12), (.slice r_13_a r_13_l r_13_c)] Ty_api_Receiver fun b w1 =>
 (kAlloc w1 #[Iv (0 : Int), Iv (0 : Int), Iv (0 : Int), Iv (0 : Int), Iv (0 : Int), Iv (0 : Int), Iv (0 : Int), Iv (0 : Int), Iv (0 : Int), Iv (0 : Int), Iv (0 : Int), Iv (0 : Int), .bool false, .slice none 0 0] Ty_api_Receiver fun b1 w2 =>
 (∃ J : WP,
 (∀ (_ : Env)  (w9 : World), J w9 →
 (∃ x_01 x_13 x_21 x_31 x_41 x_51 x_61 x_71 x_81 x_91 x_101 x_111 : Int, ∃ x_121 : Bool, ∃ x_13_a1 : OA, ∃ x_13_l1 x_13_c1 : Nat, cellsAt w9 ⟨b, 0, none⟩ 0 [(Iv x_01), (Iv x_13), (Iv x_21), (Iv x_31), (Iv x_41), (Iv x_51), (Iv x_61), (Iv x_71), (Iv x_81), (Iv x_91), (Iv x_101), (Iv x_111), (.bool x_121), (.slice x_13_a1 x_13_l1 x_13_c1)] ∧
 (CP N_ref21_Status #[(.agg #[Iv x_01, Iv x_13, Iv x_21, Iv x_31, Iv x_41, Iv x_51, Iv x_61, Iv x_71, Iv x_81, Iv x_91, Iv x_101, Iv x_111, .bool x_121, .slice x_13_a1 x_13_l1 x_13_c1])] w9 fun e_1 w10 =>
 ∃ r_05 : Int, ∃ r_1_a : OA, ∃ r_1_l r_1_c : Nat, ∃ r1 : Int, e_1 = .returned (.tuple #[(.agg #[Iv r_05, .slice r_1_a r_1_l r_1_c]), (Iv r1)]) ∧
 (kAlloc w10 #[Iv (0 : Int), .slice none 0 0] Ty_api_Status fun b2 w11 =>
 (sxStore w11 ⟨b2, 0, none⟩ 0 [(Iv r_05), (.slice r_1_a r_1_l r_1_c)] fun w12 =>
 (kLd w12 ⟨b, 0, none⟩ .i64 fun x5 =>
 (∃ x_02 : Int, ∃ x_1_a : OA, ∃ x_1_l x_1_c : Nat, cellsAt w12 ⟨b2, 0, none⟩ 0 [(Iv x_02), (.slice x_1_a x_1_l x_1_c)] ∧
 (CP N_ref19_Fit #[(Iv x5), (.agg #[Iv x_02, .slice x_1_a x_1_l x_1_c]), (Iv size)] w12 fun e_2 w13 =>
 ∃ r_06 : Int, ∃ r_1_a1 : OA, ∃ r_1_l1 r_1_c1 : Nat, ∃ r2 : Int, e_2 = .returned (.tuple #[(.agg #[Iv r_06, .slice r_1_a1 r_1_l1 r_1_c1]), (Iv r2)]) ∧
 (sxStore w13 ⟨b2, 0, none⟩ 0 [(Iv r_06), (.slice r_1_a1 r_1_l1 r_1_c1)] fun w14 =>
 (bsplit (!decide (r2 = (0 : Int)))
 ((sxStore w14 ⟨b1, 0, none⟩ 0 [(Iv (0 : Int)), (Iv (0 : Int)), (Iv (0 : Int)), (Iv (0 : Int)), (Iv (0 : Int)), (Iv (0 : Int)), (Iv (0 : Int)), (Iv (0 : Int)), (Iv (0 : Int)), (Iv (0 : Int)), (Iv (0 : Int)), (Iv (0 : Int)), (.bool false), (.slice none 0 0)] fun w15 =>
 (∃ r_07 r_17 r_25 r_35 r_45 r_55 r_65 r_75 r_85 r_95 r_105 r_115 : Int, ∃ r_125 : Bool, ∃ r_13_a5 : OA, ∃ r_13_l5 r_13_c5 : Nat, cellsAt w15 ⟨b1, 0, none⟩ 0 [(Iv r_07), (Iv r_17), (Iv r_25), (Iv r_35), (Iv r_45), (Iv r_55), (Iv r_65), (Iv r_75), (Iv r_85), (Iv r_95), (Iv r_105), (Iv r_115), (.bool r_125), (.slice r_13_a5 r_13_l5 r_13_c5)] ∧
 R (.tuple #[(.agg #[Iv r_07, Iv r_17, Iv r_25, Iv r_35, Iv r_45, Iv r_55, Iv r_65, Iv r_75, Iv r_85, Iv r_95, Iv r_105, Iv r_115, .bool r_125, .slice r_13_a5 r_13_l5 r_13_c5]), (.slice none 0 0), (Iv r2)]) w15)))
 ((kLd w14 ⟨b, 0, none⟩ .i64 fun x6 =>
 (∃ x_03 : Int, ∃ x_1_a1 : OA, ∃ x_1_l1 x_1_c1 : Nat, cellsAt w14 ⟨b2, 0, none⟩ 0 [(Iv x_03), (.slice x_1_a1 x_1_l1 x_1_c1)] ∧
 (CP N_ref19_Encode #[(Iv x6), (.agg #[Iv x_03, .slice x_1_a1 x_1_l1 x_1_c1])] w14 fun e_3 w16 =>
 ∃ r_a : OA, ∃ r_l r_c : Nat, ∃ r3 : Int, e_3 = .returned (.tuple #[(.slice r_a r_l r_c), (Iv r3)]) ∧
 (∃ x_04 x_14 x_22 x_32 x_42 x_52 x_62 x_72 x_82 x_92 x_102 x_112 : Int, ∃ x_122 : Bool, ∃ x_13_a2 : OA, ∃ x_13_l2 x_13_c2 : Nat, cellsAt w16 ⟨b, 0, none⟩ 0 [(Iv x_04), (Iv x_14), (Iv x_22), (Iv x_32), (Iv x_42), (Iv x_52), (Iv x_62), (Iv x_72), (Iv x_82), (Iv x_92), (Iv x_102), (Iv x_112), (.bool x_122), (.slice x_13_a2 x_13_l2 x_13_c2)] ∧
 (CP N_ref21_Copy #[(.agg #[Iv x_04, Iv x_14, Iv x_22, Iv x_32, Iv x_42, Iv x_52, Iv x_62, Iv x_72, Iv x_82, Iv x_92, Iv x_102, Iv x_112, .bool x_122, .slice x_13_a2 x_13_l2 x_13_c2])] w16 fun e_4 w17 =>
 ∃ r_08 r_18 r_26 r_36 r_46 r_56 r_66 r_76 r_86 r_96 r_106 r_116 : Int, ∃ r_126 : Bool, ∃ r_13_a6 : OA, ∃ r_13_l6 r_13_c6 : Nat, e_4 = .returned (.agg #[Iv r_08, Iv r_18, Iv r_26, Iv r_36, Iv r_46, Iv r_56, Iv r_66, Iv r_76, Iv r_86, Iv r_96, Iv r_106, Iv r_116, .bool r_126, .slice r_13_a6 r_13_l6 r_13_c6]) ∧
 (kAlloc w17 #[Iv (0 : Int), Iv (0 : Int), Iv (0 : Int), Iv (0 : Int), Iv (0 : Int), Iv (0 : Int), Iv (0 : Int), Iv (0 : Int), Iv (0 : Int), Iv (0 : Int), Iv (0 : Int), Iv (0 : Int), .bool false, .slice none 0 0] Ty_api_Receiver fun b3 w18 =>
 (sxStore w18 ⟨b3, 0, none⟩ 0 [(Iv r_08), (Iv r_18), (Iv r_26), (Iv r_36), (Iv r_46), (Iv r_56), (Iv r_66), (Iv r_76), (Iv r_86), (Iv r_96), (Iv r_106), (Iv r_116), (.bool r_126), (.slice r_13_a6 r_13_l6 r_13_c6)] fun w19 =>
 (kDrew w19 fun w20 =>
 (∃ S : Nat → Prop,
 (S b ∧
 (kLd w20 ⟨b, 4, none⟩ .i64 fun x7 =>
 (kSet w20 ⟨b3, 12, none⟩ (.bool false) fun w21 =>
 (KeepsB S w20 w21 ∧ (kSet w21 ⟨b3, 11, none⟩ (Iv x7) fun w22 =>
 (∃ x_05 x_15 x_23 x_33 x_43 x_53 x_63 x_73 x_83 x_93 x_103 x_113 : Int, ∃ x_123 : Bool, ∃ x_13_a3 : OA, ∃ x_13_l3 x_13_c3 : Nat, cellsAt w22 ⟨b3, 0, none⟩ 0 [(Iv x_05), (Iv x_15), (Iv x_23), (Iv x_33), (Iv x_43), (Iv x_53), (Iv x_63), (Iv x_73), (Iv x_83), (Iv x_93), (Iv x_103), (Iv x_113), (.bool x_123), (.slice x_13_a3 x_13_l3 x_13_c3)] ∧
 (sxStore w22 ⟨b1, 0, none⟩ 0 [(Iv x_05), (Iv x_15), (Iv x_23), (Iv x_33), (Iv x_43), (Iv x_53), (Iv x_63), (Iv x_73), (Iv x_83), (Iv x_93), (Iv x_103), (Iv x_113), (.bool x_123), (.slice x_13_a3 x_13_l3 x_13_c3)] fun w23 =>
 (∃ r_09 r_19 r_27 r_37 r_47 r_57 r_67 r_77 r_87 r_97 r_107 r_117 : Int, ∃ r_127 : Bool, ∃ r_13_a7 : OA, ∃ r_13_l7 r_13_c7 : Nat, cellsAt w23 ⟨b1, 0, none⟩ 0 [(Iv r_09), (Iv r_19), (Iv r_27), (Iv r_37), (Iv r_47), (Iv r_57), (Iv r_67), (Iv r_77), (Iv r_87), (Iv r_97), (Iv r_107), (Iv r_117), (.bool r_127), (.slice r_13_a7 r_13_l7 r_13_c7)] ∧
 R (.tuple #[(.agg #[Iv r_09, Iv r_19, Iv r_27, Iv r_37, Iv r_47, Iv r_57, Iv r_67, Iv r_77, Iv r_87, Iv r_97, Iv r_107, Iv r_117, .bool r_127, .slice r_13_a7 r_13_l7 r_13_c7]), (.slice r_a r_l r_c), (Iv (0 : Int))]) w23)))))))))))))))))))))))))))) ∧
 (∃ x_0 x_1 x_2 x_3 x_4 x_5 x_6 x_7 x_8 x_9 x_10 x_11 : Int, ∃ x_12 : Bool, ∃ x_13_a : OA, ∃ x_13_l x_13_c : Nat, cellsAt w2 ⟨b, 0, none⟩ 0 [(Iv x_0), (Iv x_1), (Iv x_2), (Iv x_3), (Iv x_4), (Iv x_5), (Iv x_6), (Iv x_7), (Iv x_8), (Iv x_9), (Iv x_10), (Iv x_11), (.bool x_12), (.slice x_13_a x_13_l x_13_c)] ∧
 (CP N_ref21_Valid #[(.agg #[Iv x_0, Iv x_1, Iv x_2, Iv x_3, Iv x_4, Iv x_5, Iv x_6, Iv x_7, Iv x_8, Iv x_9, Iv x_10, Iv x_11, .bool x_12, .slice x_13_a x_13_l x_13_c])] w2 fun e_ w3 =>
 ∃ r : Bool, e_ = .returned (.bool r) ∧
 (bsplit (!r)
 ((sxStore w3 ⟨b1, 0, none⟩ 0 [(Iv (0 : Int)), (Iv (0 : Int)), (Iv (0 : Int)), (Iv (0 : Int)), (Iv (0 : Int)), (Iv (0 : Int)), (Iv (0 : Int)), (Iv (0 : Int)), (Iv (0 : Int)), (Iv (0 : Int)), (Iv (0 : Int)), (Iv (0 : Int)), (.bool false), (.slice none 0 0)] fun w4 =>
 (∃ r_01 r_13 r_21 r_31 r_41 r_51 r_61 r_71 r_81 r_91 r_101 r_111 : Int, ∃ r_121 : Bool, ∃ r_13_a1 : OA, ∃ r_13_l1 r_13_c1 : Nat, cellsAt w4 ⟨b1, 0, none⟩ 0 [(Iv r_01), (Iv r_13), (Iv r_21), (Iv r_31), (Iv r_41), (Iv r_51), (Iv r_61), (Iv r_71), (Iv r_81), (Iv r_91), (Iv r_101), (Iv r_111), (.bool r_121), (.slice r_13_a1 r_13_l1 r_13_c1)] ∧
 R (.tuple #[(.agg #[Iv r_01, Iv r_13, Iv r_21, Iv r_31, Iv r_41, Iv r_51, Iv r_61, Iv r_71, Iv r_81, Iv r_91, Iv r_101, Iv r_111, .bool r_121, .slice r_13_a1 r_13_l1 r_13_c1]), (.slice none 0 0), (Iv (1 : Int))]) w4)))
 ((∃ J1 : Bool → WP,
 (∀ (_ : Env) (x1 : Bool) (w5 : World), J1 x1 w5 →
 (bsplit x1
 ((sxStore w5 ⟨b1, 0, none⟩ 0 [(Iv (0 : Int)), (Iv (0 : Int)), (Iv (0 : Int)), (Iv (0 : Int)), (Iv (0 : Int)), (Iv (0 : Int)), (Iv (0 : Int)), (Iv (0 : Int)), (Iv (0 : Int)), (Iv (0 : Int)), (Iv (0 : Int)), (Iv (0 : Int)), (.bool false), (.slice none 0 0)] fun w6 =>
 (∃ r_02 r_14 r_22 r_32 r_42 r_52 r_62 r_72 r_82 r_92 r_102 r_112 : Int, ∃ r_122 : Bool, ∃ r_13_a2 : OA, ∃ r_13_l2 r_13_c2 : Nat, cellsAt w6 ⟨b1, 0, none⟩ 0 [(Iv r_02), (Iv r_14), (Iv r_22), (Iv r_32), (Iv r_42), (Iv r_52), (Iv r_62), (Iv r_72), (Iv r_82), (Iv r_92), (Iv r_102), (Iv r_112), (.bool r_122), (.slice r_13_a2 r_13_l2 r_13_c2)] ∧
 R (.tuple #[(.agg #[Iv r_02, Iv r_14, Iv r_22, Iv r_32, Iv r_42, Iv r_52, Iv r_62, Iv r_72, Iv r_82, Iv r_92, Iv r_102, Iv r_112, .bool r_122, .slice r_13_a2 r_13_l2 r_13_c2]), (.slice none 0 0), (Iv (3 : Int))]) w6)))
 ((kLdB w5 ⟨b, 12, none⟩ fun x2 =>
 (bsplit (!x2)
 ((sxStore w5 ⟨b1, 0, none⟩ 0 [(Iv (0 : Int)), (Iv (0 : Int)), (Iv (0 : Int)), (Iv (0 : Int)), (Iv (0 : Int)), (Iv (0 : Int)), (Iv (0 : Int)), (Iv (0 : Int)), (Iv (0 : Int)), (Iv (0 : Int)), (Iv (0 : Int)), (Iv (0 : Int)), (.bool false), (.slice none 0 0)] fun w7 =>
 (∃ r_03 r_15 r_23 r_33 r_43 r_53 r_63 r_73 r_83 r_93 r_103 r_113 : Int, ∃ r_123 : Bool, ∃ r_13_a3 : OA, ∃ r_13_l3 r_13_c3 : Nat, cellsAt w7 ⟨b1, 0, none⟩ 0 [(Iv r_03), (Iv r_15), (Iv r_23), (Iv r_33), (Iv r_43), (Iv r_53), (Iv r_63), (Iv r_73), (Iv r_83), (Iv r_93), (Iv r_103), (Iv r_113), (.bool r_123), (.slice r_13_a3 r_13_l3 r_13_c3)] ∧
 R (.tuple #[(.agg #[Iv r_03, Iv r_15, Iv r_23, Iv r_33, Iv r_43, Iv r_53, Iv r_63, Iv r_73, Iv r_83, Iv r_93, Iv r_103, Iv r_113, .bool r_123, .slice r_13_a3 r_13_l3 r_13_c3]), (.slice none 0 0), (Iv (14 : Int))]) w7)))
 ((kLd w5 ⟨b, 11, none⟩ .i64 fun x3 =>
 (kLet (decide (x3 > (0 : Int))) fun x4 =>
 (bsplit x4
 ((sxStore w5 ⟨b1, 0, none⟩ 0 [(Iv (0 : Int)), (Iv (0 : Int)), (Iv (0 : Int)), (Iv (0 : Int)), (Iv (0 : Int)), (Iv (0 : Int)), (Iv (0 : Int)), (Iv (0 : Int)), (Iv (0 : Int)), (Iv (0 : Int)), (Iv (0 : Int)), (Iv (0 : Int)), (.bool false), (.slice none 0 0)] fun w8 =>
 (∃ r_04 r_16 r_24 r_34 r_44 r_54 r_64 r_74 r_84 r_94 r_104 r_114 : Int, ∃ r_124 : Bool, ∃ r_13_a4 : OA, ∃ r_13_l4 r_13_c4 : Nat, cellsAt w8 ⟨b1, 0, none⟩ 0 [(Iv r_04), (Iv r_16), (Iv r_24), (Iv r_34), (Iv r_44), (Iv r_54), (Iv r_64), (Iv r_74), (Iv r_84), (Iv r_94), (Iv r_104), (Iv r_114), (.bool r_124), (.slice r_13_a4 r_13_l4 r_13_c4)] ∧
 R (.tuple #[(.agg #[Iv r_04, Iv r_16, Iv r_24, Iv r_34, Iv r_44, Iv r_54, Iv r_64, Iv r_74, Iv r_84, Iv r_94, Iv r_104, Iv r_114, .bool r_124, .slice r_13_a4 r_13_l4 r_13_c4]), (.slice none 0 0), (Iv (14 : Int))]) w8)))
 (J w5)))))))))) ∧
 (bsplit (decide (size < (0 : Int)))
 (J1 true w3)
 ((kLet (decide (size > (4096 : Int))) fun x =>
 J1 x w3)))))))))))
theorem F_ref21_Report_eq (r_0 r_1 r_2 r_3 r_4 r_5 r_6 r_7 r_8 r_9 r_10 r_11 : Int) (r_12 : Bool) (r_13_a : Option Addr) (r_13_l r_13_c : Nat) (size : Int) (w : World) (R : Value → World → Prop) : sxFn Tryz.prog TT h_ref21_Report Tryz.f34 #[(.agg #[.int .i64 r_0, .int .i64 r_1, .int .i64 r_2, .int .i64 r_3, .int .i64 r_4, .int .i64 r_5, .int .i64 r_6, .int .i64 r_7, .int .i64 r_8, .int .i64 r_9, .int .i64 r_10, .int .i64 r_11, .bool r_12, .slice r_13_a r_13_l r_13_c]), (.int .i64 size)] w R = F_ref21_Report r_0 r_1 r_2 r_3 r_4 r_5 r_6 r_7 r_8 r_9 r_10 r_11 r_12 r_13_a r_13_l r_13_c size w R := by kernel_rfl
theorem F_ref21_Report_ok {R : Ending → World → Prop} (r_0 r_1 r_2 r_3 r_4 r_5 r_6 r_7 r_8 r_9 r_10 r_11 : Int) (r_12 : Bool) (r_13_a : Option Addr) (r_13_l r_13_c : Nat) (size : Int) (w : World) (h : F_ref21_Report r_0 r_1 r_2 r_3 r_4 r_5 r_6 r_7 r_8 r_9 r_10 r_11 r_12 r_13_a r_13_l r_13_c size w fun v w' => R (.returned v) w') : Calls Tryz.prog N_ref21_Report #[(.agg #[.int .i64 r_0, .int .i64 r_1, .int .i64 r_2, .int .i64 r_3, .int .i64 r_4, .int .i64 r_5, .int .i64 r_6, .int .i64 r_7, .int .i64 r_8, .int .i64 r_9, .int .i64 r_10, .int .i64 r_11, .bool r_12, .slice r_13_a r_13_l r_13_c]), (.int .i64 size)] w R :=
 calls_of (f := 34) follows_ok Tryz.func34 (Eq.mpr (F_ref21_Report_eq r_0 r_1 r_2 r_3 r_4 r_5 r_6 r_7 r_8 r_9 r_10 r_11 r_12 r_13_a r_13_l r_13_c size w _) h)

def h_ref21_Valid : H := (.seq .reg (.seq (.seq .reg (.cond (.seq .reg .leaf) .leaf)) (.seq .reg (.seq (.cut [(60, .p .bool)] [17, 18, 19, 20, 21, 22, 23, 24, 25, 26, 27, 28, 29, 30, 31, 32, 33, 34, 35, 36, 37, 38, 39, 40, 41, 42, 43, 44, 45, 46, 47, 48, 49, 50, 51, 52, 53, 54, 55, 56, 57, 58, 59, 60] .reg (.cond (.seq .reg .leaf) .leaf)) (.seq .reg (.cut [] [2, 65, 66, 67, 68, 69, 70, 71, 72, 73, 74, 75, 76] (.seq .reg (.cond (.seq .reg .leaf) .leaf)) (.seq (.cut [(128, .p .bool)] [77, 78, 79, 80, 81, 82, 83, 84, 85, 86, 87, 88, 89, 90, 91, 92, 93, 94, 95, 96, 97, 98, 99, 100, 101, 102, 103, 104, 105, 106, 107, 108, 109, 110, 111, 112, 113, 114, 115, 116, 117, 118, 119, 120, 121, 122, 123, 124, 125, 126, 127, 128] .reg (.cond (.seq .reg .leaf) .leaf)) (.seq .reg (.seq (.seq .reg (.block (.loop [(5, .p (.int .i64)), (6, .p (.int .i64))] [2, 5, 6, 7, 129, 130, 131, 132, 133, 134, 135, 136, 137, 138, 139, 140, 141, 142, 143, 144, 145, 146, 147, 148, 149, 150, 151, 152, 153, 154, 155, 156, 157, 158, 159, 160, 161, 162, 163, 164, 165, 166, 167, 168, 169, 170, 171, 172, 173, 174, 175, 176, 177, 178, 179, 180, 181, 182, 183, 184, 185, 186, 187, 188, 189, 190, 191, 192, 193, 194, 195, 196, 197, 198, 199, 200, 201, 202, 203, 204, 205] (.seq (.seq .reg (.cond .leaf .leaf)) (.seq (.block (.seq .reg (.cut [] [2, 141, 142, 143, 144, 145, 146, 147, 148, 149, 150, 151, 152, 153, 154, 155, 156, 157, 158, 159, 160, 161, 162, 163, 164, 165] (.seq .reg (.cond (.seq .reg .leaf) .leaf)) (.seq .reg (.cut [(205, .p .bool)] [170, 171, 172, 173, 174, 175, 176, 177, 178, 179, 180, 181, 182, 183, 184, 185, 186, 187, 188, 189, 190, 191, 192, 193, 194, 195, 196, 197, 198, 199, 200, 201, 202, 203, 204, 205] .reg (.cond (.seq .reg .leaf) .leaf)))))) .reg))))) (.seq .reg .leaf))))))))))
def F_ref21_Valid (r_0 r_1 r_2 r_3 r_4 r_5 r_6 r_7 r_8 r_9 r_10 r_11 : Int) (r_12 : Bool) (r_13_a : OA) (r_13_l r_13_c : Nat) (w : World) (R : Value → WP) : Prop :=
 (kAlloc w #[(Iv r_0), (Iv r_1), (Iv r_2), (Iv r_3), (Iv r_4), (Iv r_5), (Iv r_6), (Iv r_7), (Iv r_8), (Iv r_9), (Iv r_10), (Iv r_11), (.bool r_12), (.slice r_13_a r_13_l r_13_c)] Ty_api_Receiver fun b w1 =>
 (∃ x_0 x_1 x_2 x_3 x_4 x_5 : Int, cellsAt w1 ⟨b, 0, none⟩ 0 [(Iv x_0), (Iv x_1), (Iv x_2), (Iv x_3), (Iv x_4), (Iv x_5)] ∧
 (CP N_ref20_ValidLink #[(.agg #[Iv x_0, Iv x_1, Iv x_2, Iv x_3, Iv x_4, Iv x_5])] w1 fun e_ w2 =>
 ∃ r : Bool, e_ = .returned (.bool r) ∧
 (bsplit (!r)
 (R (.bool false) w2)
 ((kLd w2 ⟨b, 0, none⟩ .i64 fun x =>
 (kW .u64 (x) fun x1 =>
 (0 ≤ x1 ∧ (kW .i64 ((1 : Int) * 2 ^ (min x1.toNat (IntKind.bits .i64))) fun x2 =>
 (∃ J : Bool → WP,
 (∀ (_ : Env) (x12 : Bool) (w3 : World), J x12 w3 →
 (bsplit x12
 (R (.bool false) w3)
 ((∃ x_01 x_11 x_21 x_31 x_41 x_51 x_6 x_7 x_8 x_9 x_10 x_111 : Int, ∃ x_12 : Bool, ∃ x_13_a : OA, ∃ x_13_l x_13_c : Nat, cellsAt w3 ⟨b, 0, none⟩ 0 [(Iv x_01), (Iv x_11), (Iv x_21), (Iv x_31), (Iv x_41), (Iv x_51), (Iv x_6), (Iv x_7), (Iv x_8), (Iv x_9), (Iv x_10), (Iv x_111), (.bool x_12), (.slice x_13_a x_13_l x_13_c)] ∧
 (kLd w3 ⟨b, 7, none⟩ .i64 fun x13 =>
 (CP N_ref21_place #[(.agg #[Iv x_01, Iv x_11, Iv x_21, Iv x_31, Iv x_41, Iv x_51, Iv x_6, Iv x_7, Iv x_8, Iv x_9, Iv x_10, Iv x_111, .bool x_12, .slice x_13_a x_13_l x_13_c]), (Iv x13)] w3 fun e_1 w4 =>
 ∃ r1 : Int, e_1 = .returned (Iv r1) ∧
 (∃ J1 : WP,
 (∀ (_ : Env)  (w6 : World), J1 w6 →
 (∃ J2 : Bool → WP,
 (∀ (_ : Env) (x34 : Bool) (w11 : World), J2 x34 w11 →
 (bsplit x34
 (R (.bool false) w11)
 ((∃ I : Int → Int → Nat × (WP), (I (-1 : Int) (0 : Int)).2 w11 ∧
 (∀ (_ : Env) (last : Int) (i : Int) (w12 : World), (I last i).2 w12 →
 (kLdS w12 ⟨b, 13, none⟩ fun _ x_l _ =>
 (bsplit (decide (i < (x_l : Int)))
 ((kLdS w12 ⟨b, 13, none⟩ fun x_a1 x_l1 _ =>
 (kIx x_a1 x_l1 i fun b1 =>
 (∃ x_07 : Int, ∃ x_18 : Bool, ∃ x_27 : Int, ∃ x_3_a : OA, ∃ x_3_l x_3_c : Nat, ∃ x_4_a : OA, ∃ x_4_l x_4_c : Nat, cellsAt w12 (b1.add (i.toNat * 5)) 0 [(Iv x_07), (.bool x_18), (Iv x_27), (.slice x_3_a x_3_l x_3_c), (.slice x_4_a x_4_l x_4_c)] ∧
 (kAlloc w12 #[Iv (0 : Int), .bool false, Iv (0 : Int), .slice none 0 0, .slice none 0 0] Ty_api_Partial fun b2 w13 =>
 (sxStore w13 ⟨b2, 0, none⟩ 0 [(Iv x_07), (.bool x_18), (Iv x_27), (.slice x_3_a x_3_l x_3_c), (.slice x_4_a x_4_l x_4_c)] fun w14 =>
 (∃ J3 : WP,
 (∀ (_ : Env)  (w17 : World), J3 w17 →
 (∃ x_010 x_119 x_210 x_39 x_49 x_59 x_68 x_78 x_88 x_98 x_108 x_1110 : Int, ∃ x_128 : Bool, ∃ x_13_a8 : OA, ∃ x_13_l8 x_13_c8 : Nat, cellsAt w17 ⟨b, 0, none⟩ 0 [(Iv x_010), (Iv x_119), (Iv x_210), (Iv x_39), (Iv x_49), (Iv x_59), (Iv x_68), (Iv x_78), (Iv x_88), (Iv x_98), (Iv x_108), (Iv x_1110), (.bool x_128), (.slice x_13_a8 x_13_l8 x_13_c8)] ∧
 (kLd w17 ⟨b2, 0, none⟩ .i64 fun x39 =>
 (CP N_ref21_place #[(.agg #[Iv x_010, Iv x_119, Iv x_210, Iv x_39, Iv x_49, Iv x_59, Iv x_68, Iv x_78, Iv x_88, Iv x_98, Iv x_108, Iv x_1110, .bool x_128, .slice x_13_a8 x_13_l8 x_13_c8]), (Iv x39)] w17 fun e_9 w18 =>
 ∃ r9 : Int, e_9 = .returned (Iv r9) ∧
 (∃ J4 : Bool → WP,
 (∀ (_ : Env) (x46 : Bool) (w21 : World), J4 x46 w21 →
 (bsplit x46
 (R (.bool false) w21)
 ((kW .i64 (i + (1 : Int)) fun x47 =>
 ((I r9 x47).2 w21 ∧ (I r9 x47).1 < (I last i).1))))) ∧
 (kLdB w18 ⟨b2, 1, none⟩ fun x40 =>
 (bsplit x40
 ((kLd w18 ⟨b2, 0, none⟩ .i64 fun x41 =>
 (kLd w18 ⟨b, 6, none⟩ .i64 fun x42 =>
 (bsplit (decide (x41 = x42))
 (J4 true w18)
 ((kLd w18 ⟨b2, 2, none⟩ .i64 fun x43 =>
 (bsplit (!decide (x43 = (0 : Int)))
 (J4 true w18)
 ((kLdS w18 ⟨b2, 3, none⟩ fun _ x_l2 _ =>
 (bsplit (decide ((x_l2 : Int) > (0 : Int)))
 (J4 true w18)
 ((kLdS w18 ⟨b2, 4, none⟩ fun _ x_l3 _ =>
 (bsplit (decide ((x_l3 : Int) > (0 : Int)))
 (J4 true w18)
 ((kLdB w18 ⟨b2, 1, none⟩ fun x44 =>
 (bsplit (!x44)
 ((∃ x_011 : Int, ∃ x_120 : Bool, ∃ x_211 : Int, ∃ x_3_a1 : OA, ∃ x_3_l1 x_3_c1 : Nat, ∃ x_4_a1 : OA, ∃ x_4_l1 x_4_c1 : Nat, cellsAt w18 ⟨b2, 0, none⟩ 0 [(Iv x_011), (.bool x_120), (Iv x_211), (.slice x_3_a1 x_3_l1 x_3_c1), (.slice x_4_a1 x_4_l1 x_4_c1)] ∧
 (CP N_ref21_partial #[(.agg #[Iv x_011, .bool x_120, Iv x_211, .slice x_3_a1 x_3_l1 x_3_c1, .slice x_4_a1 x_4_l1 x_4_c1])] w18 fun e_10 w19 =>
 ∃ r10 : Bool, e_10 = .returned (.bool r10) ∧
 J4 (!r10) w19)))
 (J4 false w18)))))))))))))))))
 ((kLdB w18 ⟨b2, 1, none⟩ fun x45 =>
 (bsplit (!x45)
 ((∃ x_012 : Int, ∃ x_129 : Bool, ∃ x_212 : Int, ∃ x_3_a2 : OA, ∃ x_3_l2 x_3_c2 : Nat, ∃ x_4_a2 : OA, ∃ x_4_l2 x_4_c2 : Nat, cellsAt w18 ⟨b2, 0, none⟩ 0 [(Iv x_012), (.bool x_129), (Iv x_212), (.slice x_3_a2 x_3_l2 x_3_c2), (.slice x_4_a2 x_4_l2 x_4_c2)] ∧
 (CP N_ref21_partial #[(.agg #[Iv x_012, .bool x_129, Iv x_212, .slice x_3_a2 x_3_l2 x_3_c2, .slice x_4_a2 x_4_l2 x_4_c2])] w18 fun e_11 w20 =>
 ∃ r11 : Bool, e_11 = .returned (.bool r11) ∧
 J4 (!r11) w20)))
 (J4 false w18))))))))))) ∧
 (kLd w14 ⟨b2, 0, none⟩ .i64 fun x35 =>
 (bsplit (decide (x35 < (0 : Int)))
 (R (.bool false) w14)
 ((kLd w14 ⟨b2, 0, none⟩ .i64 fun x36 =>
 (bsplit (decide (x36 ≥ x2))
 (R (.bool false) w14)
 ((∃ x_08 x_19 x_28 x_37 x_47 x_57 x_66 x_76 x_86 x_96 x_106 x_117 : Int, ∃ x_126 : Bool, ∃ x_13_a6 : OA, ∃ x_13_l6 x_13_c6 : Nat, cellsAt w14 ⟨b, 0, none⟩ 0 [(Iv x_08), (Iv x_19), (Iv x_28), (Iv x_37), (Iv x_47), (Iv x_57), (Iv x_66), (Iv x_76), (Iv x_86), (Iv x_96), (Iv x_106), (Iv x_117), (.bool x_126), (.slice x_13_a6 x_13_l6 x_13_c6)] ∧
 (kLd w14 ⟨b2, 0, none⟩ .i64 fun x37 =>
 (CP N_ref21_place #[(.agg #[Iv x_08, Iv x_19, Iv x_28, Iv x_37, Iv x_47, Iv x_57, Iv x_66, Iv x_76, Iv x_86, Iv x_96, Iv x_106, Iv x_117, .bool x_126, .slice x_13_a6 x_13_l6 x_13_c6]), (Iv x37)] w14 fun e_7 w15 =>
 ∃ r7 : Int, e_7 = .returned (Iv r7) ∧
 (bsplit (decide (r7 ≤ last))
 (R (.bool false) w15)
 ((∃ x_09 x_110 x_29 x_38 x_48 x_58 x_67 x_77 x_87 x_97 x_107 x_118 : Int, ∃ x_127 : Bool, ∃ x_13_a7 : OA, ∃ x_13_l7 x_13_c7 : Nat, cellsAt w15 ⟨b, 0, none⟩ 0 [(Iv x_09), (Iv x_110), (Iv x_29), (Iv x_38), (Iv x_48), (Iv x_58), (Iv x_67), (Iv x_77), (Iv x_87), (Iv x_97), (Iv x_107), (Iv x_118), (.bool x_127), (.slice x_13_a7 x_13_l7 x_13_c7)] ∧
 (kLd w15 ⟨b2, 0, none⟩ .i64 fun x38 =>
 (CP N_ref21_place #[(.agg #[Iv x_09, Iv x_110, Iv x_29, Iv x_38, Iv x_48, Iv x_58, Iv x_67, Iv x_77, Iv x_87, Iv x_97, Iv x_107, Iv x_118, .bool x_127, .slice x_13_a7 x_13_l7 x_13_c7]), (Iv x38)] w15 fun e_8 w16 =>
 ∃ r8 : Int, e_8 = .returned (Iv r8) ∧
 (bsplit (decide (r8 ≥ r1))
 (R (.bool false) w16)
 (J3 w16)))))))))))))))))))))))
 ((kW .i64 (r1 - (1 : Int)) fun x48 =>
 (kLet (decide (last = x48)) fun x49 =>
 R (.bool x49) w12)))))))))) ∧
 (kLd w6 ⟨b, 9, none⟩ .i64 fun x16 =>
 (bsplit (decide (x16 = (-1 : Int)))
 ((kLd w6 ⟨b, 10, none⟩ .i64 fun x17 =>
 (bsplit (!decide (x17 = (0 : Int)))
 (J2 true w6)
 ((kLd w6 ⟨b, 9, none⟩ .i64 fun x18 =>
 (bsplit (!decide (x18 = (-1 : Int)))
 ((kLd w6 ⟨b, 9, none⟩ .i64 fun x19 =>
 (bsplit (decide (x19 < (0 : Int)))
 (J2 true w6)
 ((kLd w6 ⟨b, 9, none⟩ .i64 fun x20 =>
 (bsplit (decide (x20 ≥ x2))
 (J2 true w6)
 ((∃ x_03 x_14 x_23 x_33 x_43 x_53 x_62 x_72 x_82 x_92 x_102 x_113 : Int, ∃ x_122 : Bool, ∃ x_13_a2 : OA, ∃ x_13_l2 x_13_c2 : Nat, cellsAt w6 ⟨b, 0, none⟩ 0 [(Iv x_03), (Iv x_14), (Iv x_23), (Iv x_33), (Iv x_43), (Iv x_53), (Iv x_62), (Iv x_72), (Iv x_82), (Iv x_92), (Iv x_102), (Iv x_113), (.bool x_122), (.slice x_13_a2 x_13_l2 x_13_c2)] ∧
 (kLd w6 ⟨b, 9, none⟩ .i64 fun x21 =>
 (CP N_ref21_place #[(.agg #[Iv x_03, Iv x_14, Iv x_23, Iv x_33, Iv x_43, Iv x_53, Iv x_62, Iv x_72, Iv x_82, Iv x_92, Iv x_102, Iv x_113, .bool x_122, .slice x_13_a2 x_13_l2 x_13_c2]), (Iv x21)] w6 fun e_3 w7 =>
 ∃ r3 : Int, e_3 = .returned (Iv r3) ∧
 (bsplit (decide (r3 < (1 : Int)))
 (J2 true w7)
 ((∃ x_04 x_15 x_24 x_34 x_44 x_54 x_63 x_73 x_83 x_93 x_103 x_114 : Int, ∃ x_123 : Bool, ∃ x_13_a3 : OA, ∃ x_13_l3 x_13_c3 : Nat, cellsAt w7 ⟨b, 0, none⟩ 0 [(Iv x_04), (Iv x_15), (Iv x_24), (Iv x_34), (Iv x_44), (Iv x_54), (Iv x_63), (Iv x_73), (Iv x_83), (Iv x_93), (Iv x_103), (Iv x_114), (.bool x_123), (.slice x_13_a3 x_13_l3 x_13_c3)] ∧
 (kLd w7 ⟨b, 9, none⟩ .i64 fun x22 =>
 (CP N_ref21_place #[(.agg #[Iv x_04, Iv x_15, Iv x_24, Iv x_34, Iv x_44, Iv x_54, Iv x_63, Iv x_73, Iv x_83, Iv x_93, Iv x_103, Iv x_114, .bool x_123, .slice x_13_a3 x_13_l3 x_13_c3]), (Iv x22)] w7 fun e_4 w8 =>
 ∃ r4 : Int, e_4 = .returned (Iv r4) ∧
 (bsplit (decide (r4 > r1))
 (J2 true w8)
 ((kLd w8 ⟨b, 10, none⟩ .i64 fun x23 =>
 (bsplit (decide (x23 < (1 : Int)))
 (J2 true w8)
 ((kLd w8 ⟨b, 10, none⟩ .i64 fun x24 =>
 (kLd w8 ⟨b, 3, none⟩ .i64 fun x25 =>
 J2 (decide (x24 > x25)) w8))))))))))))))))))))))
 (J2 false w6)))))))
 ((kLd w6 ⟨b, 9, none⟩ .i64 fun x26 =>
 (bsplit (!decide (x26 = (-1 : Int)))
 ((kLd w6 ⟨b, 9, none⟩ .i64 fun x27 =>
 (bsplit (decide (x27 < (0 : Int)))
 (J2 true w6)
 ((kLd w6 ⟨b, 9, none⟩ .i64 fun x28 =>
 (bsplit (decide (x28 ≥ x2))
 (J2 true w6)
 ((∃ x_05 x_16 x_25 x_35 x_45 x_55 x_64 x_74 x_84 x_94 x_104 x_115 : Int, ∃ x_124 : Bool, ∃ x_13_a4 : OA, ∃ x_13_l4 x_13_c4 : Nat, cellsAt w6 ⟨b, 0, none⟩ 0 [(Iv x_05), (Iv x_16), (Iv x_25), (Iv x_35), (Iv x_45), (Iv x_55), (Iv x_64), (Iv x_74), (Iv x_84), (Iv x_94), (Iv x_104), (Iv x_115), (.bool x_124), (.slice x_13_a4 x_13_l4 x_13_c4)] ∧
 (kLd w6 ⟨b, 9, none⟩ .i64 fun x29 =>
 (CP N_ref21_place #[(.agg #[Iv x_05, Iv x_16, Iv x_25, Iv x_35, Iv x_45, Iv x_55, Iv x_64, Iv x_74, Iv x_84, Iv x_94, Iv x_104, Iv x_115, .bool x_124, .slice x_13_a4 x_13_l4 x_13_c4]), (Iv x29)] w6 fun e_5 w9 =>
 ∃ r5 : Int, e_5 = .returned (Iv r5) ∧
 (bsplit (decide (r5 < (1 : Int)))
 (J2 true w9)
 ((∃ x_06 x_17 x_26 x_36 x_46 x_56 x_65 x_75 x_85 x_95 x_105 x_116 : Int, ∃ x_125 : Bool, ∃ x_13_a5 : OA, ∃ x_13_l5 x_13_c5 : Nat, cellsAt w9 ⟨b, 0, none⟩ 0 [(Iv x_06), (Iv x_17), (Iv x_26), (Iv x_36), (Iv x_46), (Iv x_56), (Iv x_65), (Iv x_75), (Iv x_85), (Iv x_95), (Iv x_105), (Iv x_116), (.bool x_125), (.slice x_13_a5 x_13_l5 x_13_c5)] ∧
 (kLd w9 ⟨b, 9, none⟩ .i64 fun x30 =>
 (CP N_ref21_place #[(.agg #[Iv x_06, Iv x_17, Iv x_26, Iv x_36, Iv x_46, Iv x_56, Iv x_65, Iv x_75, Iv x_85, Iv x_95, Iv x_105, Iv x_116, .bool x_125, .slice x_13_a5 x_13_l5 x_13_c5]), (Iv x30)] w9 fun e_6 w10 =>
 ∃ r6 : Int, e_6 = .returned (Iv r6) ∧
 (bsplit (decide (r6 > r1))
 (J2 true w10)
 ((kLd w10 ⟨b, 10, none⟩ .i64 fun x31 =>
 (bsplit (decide (x31 < (1 : Int)))
 (J2 true w10)
 ((kLd w10 ⟨b, 10, none⟩ .i64 fun x32 =>
 (kLd w10 ⟨b, 3, none⟩ .i64 fun x33 =>
 J2 (decide (x32 > x33)) w10))))))))))))))))))))))
 (J2 false w6)))))))) ∧
 (kW .i64 (Int.tdiv x2 (2 : Int)) fun x14 =>
 (bsplit (decide (r1 > x14))
 (R (.bool false) w4)
 ((∃ x_02 x_13 x_22 x_32 x_42 x_52 x_61 x_71 x_81 x_91 x_101 x_112 : Int, ∃ x_121 : Bool, ∃ x_13_a1 : OA, ∃ x_13_l1 x_13_c1 : Nat, cellsAt w4 ⟨b, 0, none⟩ 0 [(Iv x_02), (Iv x_13), (Iv x_22), (Iv x_32), (Iv x_42), (Iv x_52), (Iv x_61), (Iv x_71), (Iv x_81), (Iv x_91), (Iv x_101), (Iv x_112), (.bool x_121), (.slice x_13_a1 x_13_l1 x_13_c1)] ∧
 (kLd w4 ⟨b, 8, none⟩ .i64 fun x15 =>
 (CP N_ref21_place #[(.agg #[Iv x_02, Iv x_13, Iv x_22, Iv x_32, Iv x_42, Iv x_52, Iv x_61, Iv x_71, Iv x_81, Iv x_91, Iv x_101, Iv x_112, .bool x_121, .slice x_13_a1 x_13_l1 x_13_c1]), (Iv x15)] w4 fun e_2 w5 =>
 ∃ r2 : Int, e_2 = .returned (Iv r2) ∧
 (bsplit (decide (r2 > r1))
 (R (.bool false) w5)
 (J1 w5))))))))))))))) ∧
 (kLd w2 ⟨b, 6, none⟩ .i64 fun x3 =>
 (bsplit (decide (x3 < (0 : Int)))
 (J true w2)
 ((kLd w2 ⟨b, 6, none⟩ .i64 fun x4 =>
 (bsplit (decide (x4 ≥ x2))
 (J true w2)
 ((kLd w2 ⟨b, 7, none⟩ .i64 fun x5 =>
 (bsplit (decide (x5 < (0 : Int)))
 (J true w2)
 ((kLd w2 ⟨b, 7, none⟩ .i64 fun x6 =>
 (bsplit (decide (x6 ≥ x2))
 (J true w2)
 ((kLd w2 ⟨b, 8, none⟩ .i64 fun x7 =>
 (bsplit (decide (x7 < (0 : Int)))
 (J true w2)
 ((kLd w2 ⟨b, 8, none⟩ .i64 fun x8 =>
 (bsplit (decide (x8 ≥ x2))
 (J true w2)
 ((kLd w2 ⟨b, 11, none⟩ .i64 fun x9 =>
 (bsplit (decide (x9 < (0 : Int)))
 (J true w2)
 ((kLd w2 ⟨b, 11, none⟩ .i64 fun x10 =>
 (kLd w2 ⟨b, 4, none⟩ .i64 fun x11 =>
 J (decide (x10 > x11)) w2)))))))))))))))))))))))))))))))))
theorem F_ref21_Valid_eq (r_0 r_1 r_2 r_3 r_4 r_5 r_6 r_7 r_8 r_9 r_10 r_11 : Int) (r_12 : Bool) (r_13_a : Option Addr) (r_13_l r_13_c : Nat) (w : World) (R : Value → World → Prop) : sxFn Tryz.prog TT h_ref21_Valid Tryz.f35 #[(.agg #[.int .i64 r_0, .int .i64 r_1, .int .i64 r_2, .int .i64 r_3, .int .i64 r_4, .int .i64 r_5, .int .i64 r_6, .int .i64 r_7, .int .i64 r_8, .int .i64 r_9, .int .i64 r_10, .int .i64 r_11, .bool r_12, .slice r_13_a r_13_l r_13_c])] w R = F_ref21_Valid r_0 r_1 r_2 r_3 r_4 r_5 r_6 r_7 r_8 r_9 r_10 r_11 r_12 r_13_a r_13_l r_13_c w R := by kernel_rfl
theorem F_ref21_Valid_ok {R : Ending → World → Prop} (r_0 r_1 r_2 r_3 r_4 r_5 r_6 r_7 r_8 r_9 r_10 r_11 : Int) (r_12 : Bool) (r_13_a : Option Addr) (r_13_l r_13_c : Nat) (w : World) (h : F_ref21_Valid r_0 r_1 r_2 r_3 r_4 r_5 r_6 r_7 r_8 r_9 r_10 r_11 r_12 r_13_a r_13_l r_13_c w fun v w' => R (.returned v) w') : Calls Tryz.prog N_ref21_Valid #[(.agg #[.int .i64 r_0, .int .i64 r_1, .int .i64 r_2, .int .i64 r_3, .int .i64 r_4, .int .i64 r_5, .int .i64 r_6, .int .i64 r_7, .int .i64 r_8, .int .i64 r_9, .int .i64 r_10, .int .i64 r_11, .bool r_12, .slice r_13_a r_13_l r_13_c])] w R :=
 calls_of (f := 35) follows_ok Tryz.func35 (Eq.mpr (F_ref21_Valid_eq r_0 r_1 r_2 r_3 r_4 r_5 r_6 r_7 r_8 r_9 r_10 r_11 r_12 r_13_a r_13_l r_13_c w _) h)

def h_made_Dice_Link : H := (.seq .reg (.seq .reg .leaf))
def F_made_Dice_Link (d_b d_o : Nat) (w : World) (R : Value → WP) : Prop :=
 (kAlloc w #[Iv (0 : Int), Iv (0 : Int), Iv (0 : Int), Iv (0 : Int), Iv (0 : Int), Iv (0 : Int)] Ty_api_Link fun b w1 =>
 (CP N_made_Dice_Bits #[(.pointer (some ⟨d_b, d_o, none⟩))] w1 fun e_ w2 =>
 ∃ r : Int, e_ = .returned (Iv r) ∧
 (CP N_made_Dice_Next #[(.pointer (some ⟨d_b, d_o, none⟩)), (Iv (6 : Int))] w2 fun e_1 w3 =>
 ∃ r1 : Int, e_1 = .returned (Iv r1) ∧
 (kW .i64 ((1 : Int) + r1) fun x =>
 (CP N_made_Dice_Next #[(.pointer (some ⟨d_b, d_o, none⟩)), (Iv (6 : Int))] w3 fun e_2 w4 =>
 ∃ r2 : Int, e_2 = .returned (Iv r2) ∧
 (kW .i64 ((1 : Int) + r2) fun x1 =>
 (CP N_made_Dice_Next #[(.pointer (some ⟨d_b, d_o, none⟩)), (Iv (5 : Int))] w4 fun e_3 w5 =>
 ∃ r3 : Int, e_3 = .returned (Iv r3) ∧
 (kW .i64 ((1 : Int) + r3) fun x2 =>
 (CP N_made_Dice_Next #[(.pointer (some ⟨d_b, d_o, none⟩)), (Iv (3 : Int))] w5 fun e_4 w6 =>
 ∃ r4 : Int, e_4 = .returned (Iv r4) ∧
 (CP N_made_Dice_Next #[(.pointer (some ⟨d_b, d_o, none⟩)), (Iv (6 : Int))] w6 fun e_5 w7 =>
 ∃ r5 : Int, e_5 = .returned (Iv r5) ∧
 (kW .i64 ((1 : Int) + r5) fun x3 =>
 (sxStore w7 ⟨b, 0, none⟩ 0 [(Iv r), (Iv x), (Iv x1), (Iv x2), (Iv r4), (Iv x3)] fun w8 =>
 (∃ r_0 r_1 r_2 r_3 r_4 r_5 : Int, cellsAt w8 ⟨b, 0, none⟩ 0 [(Iv r_0), (Iv r_1), (Iv r_2), (Iv r_3), (Iv r_4), (Iv r_5)] ∧
 R (.agg #[Iv r_0, Iv r_1, Iv r_2, Iv r_3, Iv r_4, Iv r_5]) w8)))))))))))))
theorem F_made_Dice_Link_eq (d_b d_o : Nat) (w : World) (R : Value → World → Prop) : sxFn Tryz.prog TT h_made_Dice_Link Tryz.f36 #[(.pointer (some ⟨d_b, d_o, none⟩))] w R = F_made_Dice_Link d_b d_o w R := by kernel_rfl
theorem F_made_Dice_Link_ok {R : Ending → World → Prop} (d_b d_o : Nat) (w : World) (h : F_made_Dice_Link d_b d_o w fun v w' => R (.returned v) w') : Calls Tryz.prog N_made_Dice_Link #[(.pointer (some ⟨d_b, d_o, none⟩))] w R :=
 calls_of (f := 36) follows_ok Tryz.func36 (Eq.mpr (F_made_Dice_Link_eq d_b d_o w _) h)

def h_ref18_Valid : H := (.seq .reg (.seq (.cut [(65, .p .bool)] [5, 6, 7, 8, 9, 10, 11, 12, 13, 14, 15, 16, 17, 18, 19, 20, 21, 22, 23, 24, 25, 26, 27, 28, 29, 30, 31, 32, 33, 34, 35, 36, 37, 38, 39, 40, 41, 42, 43, 44, 45, 46, 47, 48, 49, 50, 51, 52, 53, 54, 55, 56, 57, 58, 59, 60, 61, 62, 63, 64, 65] .reg (.cond (.seq .reg .leaf) .leaf)) (.seq (.seq .reg (.cond (.seq .reg .leaf) .leaf)) (.seq .reg .leaf))))
def F_ref18_Valid (bits p_0 p_1 p_2 p_3 : Int) (p_4_a : OA) (p_4_l p_4_c : Nat) (w : World) (R : Value → WP) : Prop :=
 (kAlloc w #[(Iv p_0), (Iv p_1), (Iv p_2), (Iv p_3), (.slice p_4_a p_4_l p_4_c)] Ty_api_Piece fun b w1 =>
 (∃ J : Bool → WP,
 (∀ (_ : Env) (x12 : Bool) (w3 : World), J x12 w3 →
 (bsplit x12
 (R (.bool false) w3)
 ((kLd w3 ⟨b, 1, none⟩ .i64 fun x13 =>
 (bsplit (decide (x13 = (0 : Int)))
 ((kLd w3 ⟨b, 3, none⟩ .i64 fun x14 =>
 (kLet (decide (x14 = (0 : Int))) fun x15 =>
 R (.bool x15) w3)))
 ((kLd w3 ⟨b, 1, none⟩ .i64 fun x18 =>
 (bsplit (decide (x18 = (1 : Int)))
 ((kLd w3 ⟨b, 3, none⟩ .i64 fun x19 =>
 (kLet (decide (x19 = (0 : Int))) fun x20 =>
 R (.bool x20) w3)))
 ((kLd w3 ⟨b, 3, none⟩ .i64 fun x21 =>
 (kLet (decide (x21 > (0 : Int))) fun x22 =>
 R (.bool x22) w3))))))))))) ∧
 (CP N_ref15_Bits #[(Iv bits)] w1 fun e_ w2 =>
 ∃ r : Bool, e_ = .returned (.bool r) ∧
 (bsplit (!r)
 (J true w2)
 ((kLd w2 ⟨b, 0, none⟩ .i64 fun x =>
 (bsplit (decide (x < (0 : Int)))
 (J true w2)
 ((kLd w2 ⟨b, 0, none⟩ .i64 fun x1 =>
 (kW .u64 (bits) fun x2 =>
 (0 ≤ x2 ∧ (kW .i64 ((1 : Int) * 2 ^ (min x2.toNat (IntKind.bits .i64))) fun x3 =>
 (bsplit (decide (x1 ≥ x3))
 (J true w2)
 ((kLd w2 ⟨b, 1, none⟩ .i64 fun x4 =>
 (bsplit (decide (x4 < (0 : Int)))
 (J true w2)
 ((kLd w2 ⟨b, 1, none⟩ .i64 fun x5 =>
 (bsplit (decide (x5 > (3 : Int)))
 (J true w2)
 ((kLd w2 ⟨b, 2, none⟩ .i64 fun x6 =>
 (bsplit (decide (x6 < (0 : Int)))
 (J true w2)
 ((kLd w2 ⟨b, 2, none⟩ .i64 fun x7 =>
 (bsplit (decide (x7 > (1 : Int)))
 (J true w2)
 ((kLdS w2 ⟨b, 4, none⟩ fun _ x_l _ =>
 (bsplit (decide ((x_l : Int) < (1 : Int)))
 (J true w2)
 ((kLd w2 ⟨b, 3, none⟩ .i64 fun x8 =>
 (bsplit (decide (x8 < (0 : Int)))
 (J true w2)
 ((kLd w2 ⟨b, 3, none⟩ .i64 fun x9 =>
 (bsplit (decide (x9 > (2054 : Int)))
 (J true w2)
 ((kLd w2 ⟨b, 3, none⟩ .i64 fun x10 =>
 (kLdS w2 ⟨b, 4, none⟩ fun _ x_l1 _ =>
 (kW .i64 (x10 + (x_l1 : Int)) fun x11 =>
 J (decide (x11 > (2054 : Int))) w2))))))))))))))))))))))))))))))))))))))
theorem F_ref18_Valid_eq (bits p_0 p_1 p_2 p_3 : Int) (p_4_a : Option Addr) (p_4_l p_4_c : Nat) (w : World) (R : Value → World → Prop) : sxFn Tryz.prog TT h_ref18_Valid Tryz.f37 #[(.int .i64 bits), (.agg #[.int .i64 p_0, .int .i64 p_1, .int .i64 p_2, .int .i64 p_3, .slice p_4_a p_4_l p_4_c])] w R = F_ref18_Valid bits p_0 p_1 p_2 p_3 p_4_a p_4_l p_4_c w R := by kernel_rfl
theorem F_ref18_Valid_ok {R : Ending → World → Prop} (bits p_0 p_1 p_2 p_3 : Int) (p_4_a : Option Addr) (p_4_l p_4_c : Nat) (w : World) (h : F_ref18_Valid bits p_0 p_1 p_2 p_3 p_4_a p_4_l p_4_c w fun v w' => R (.returned v) w') : Calls Tryz.prog N_ref18_Valid #[(.int .i64 bits), (.agg #[.int .i64 p_0, .int .i64 p_1, .int .i64 p_2, .int .i64 p_3, .slice p_4_a p_4_l p_4_c])] w R :=
 calls_of (f := 37) follows_ok Tryz.func37 (Eq.mpr (F_ref18_Valid_eq bits p_0 p_1 p_2 p_3 p_4_a p_4_l p_4_c w _) h)

def h_ref01_Put : H := (.seq .reg (.seq (.seq .reg (.block (.loop [(0, .p .slice), (7, .p (.int .i64))] [0, 7, 10, 11, 12, 13, 14, 15, 16, 17, 18, 19, 20, 21, 22] (.seq (.seq .reg (.cond .leaf .leaf)) (.seq (.block .reg) .reg))))) (.seq .reg .leaf)))
def F_ref01_Put (b_a : OA) (b_l b_c : Nat) (bytes v : Int) (w : World) (R : Value → WP) : Prop :=
 (kW .i64 (bytes - (1 : Int)) fun x =>
 (∃ I : OA → Nat → Nat → Int → Nat × (WP), (I b_a b_l b_c x).2 w ∧
 (∀ (_ : Env) (b_a1 : OA) (b_l1 : Nat) (b_c1 : Nat) (i : Int) (w1 : World), (I b_a1 b_l1 b_c1 i).2 w1 →
 (bsplit (decide (i ≥ (0 : Int)))
 ((kW .i64 ((8 : Int) * i) fun x1 =>
 (kW .u64 (x1) fun x2 =>
 (0 ≤ x2 ∧ (kLet (Int.fdiv v (2 ^ (min x2.toNat (IntKind.bits .i64)))) fun x3 =>
 (kW .u8 (x3) fun x4 =>
 (kAlloc w1 #[(.int .u8 x4)] Ty_uint8 fun b w2 =>
 (AppP Tryz.prog #[Ty_S_uint8, Ty_S_uint8] Ty_S_uint8 #[(.slice b_a1 b_l1 b_c1), (.slice (some ⟨b, 0, none⟩) 1 1)] w2 fun x_a x_l x_c w3 =>
 (kW .i64 (i - (1 : Int)) fun x5 =>
 ((I x_a x_l x_c x5).2 w3 ∧ (I x_a x_l x_c x5).1 < (I b_a1 b_l1 b_c1 i).1))))))))))
 (R (.slice b_a1 b_l1 b_c1) w1)))))
theorem F_ref01_Put_eq (b_a : Option Addr) (b_l b_c : Nat) (bytes v : Int) (w : World) (R : Value → World → Prop) : sxFn Tryz.prog TT h_ref01_Put Tryz.f38 #[(.slice b_a b_l b_c), (.int .i64 bytes), (.int .i64 v)] w R = F_ref01_Put b_a b_l b_c bytes v w R := by kernel_rfl
theorem F_ref01_Put_ok {R : Ending → World → Prop} (b_a : Option Addr) (b_l b_c : Nat) (bytes v : Int) (w : World) (h : F_ref01_Put b_a b_l b_c bytes v w fun v w' => R (.returned v) w') : Calls Tryz.prog N_ref01_Put #[(.slice b_a b_l b_c), (.int .i64 bytes), (.int .i64 v)] w R :=
 calls_of (f := 38) follows_ok Tryz.func38 (Eq.mpr (F_ref01_Put_eq b_a b_l b_c bytes v w _) h)

def h_ref18_Head : H := (.seq .reg (.seq (.seq .reg (.cond (.seq .reg .leaf) .leaf)) (.seq .reg .leaf)))
def F_ref18_Head (part : Int) (w : World) (R : Value → WP) : Prop :=
 (bsplit (decide (part = (0 : Int)))
 (R (Iv (2 : Int)) w)
 ((bsplit (decide (part = (1 : Int)))
 (R (Iv (2 : Int)) w)
 (R (Iv (4 : Int)) w))))
theorem F_ref18_Head_eq (part : Int) (w : World) (R : Value → World → Prop) : sxFn Tryz.prog TT h_ref18_Head Tryz.f39 #[(.int .i64 part)] w R = F_ref18_Head part w R := by kernel_rfl
theorem F_ref18_Head_ok {R : Ending → World → Prop} (part : Int) (w : World) (h : F_ref18_Head part w fun v w' => R (.returned v) w') : Calls Tryz.prog N_ref18_Head #[(.int .i64 part)] w R :=
 calls_of (f := 39) follows_ok Tryz.func39 (Eq.mpr (F_ref18_Head_eq part w _) h)

def h_ref02_Low : H := (.seq .reg (.seq (.seq .reg (.cond (.seq .reg .leaf) .leaf)) (.seq .reg .leaf)))
def F_ref02_Low (n x : Int) (w : World) (R : Value → WP) : Prop :=
 (CP N_ref02_valid #[(Iv n)] w fun e_ w1 =>
 ∃ r : Bool, e_ = .returned (.bool r) ∧
 (bsplit (!r)
 (R (Iv (-1 : Int)) w1)
 ((kW .u64 (n) fun x1 =>
 (0 ≤ x1 ∧ (kW .i64 ((1 : Int) * 2 ^ (min x1.toNat (IntKind.bits .i64))) fun x2 =>
 (kW .i64 (x2 - (1 : Int)) fun x3 =>
 (kLet (bAnd .i64 x x3) fun x4 =>
 R (Iv x4) w1))))))))
theorem F_ref02_Low_eq (n x : Int) (w : World) (R : Value → World → Prop) : sxFn Tryz.prog TT h_ref02_Low Tryz.f40 #[(.int .i64 n), (.int .i64 x)] w R = F_ref02_Low n x w R := by kernel_rfl
theorem F_ref02_Low_ok {R : Ending → World → Prop} (n x : Int) (w : World) (h : F_ref02_Low n x w fun v w' => R (.returned v) w') : Calls Tryz.prog N_ref02_Low #[(.int .i64 n), (.int .i64 x)] w R :=
 calls_of (f := 40) follows_ok Tryz.func40 (Eq.mpr (F_ref02_Low_eq n x w _) h)

def h_made_Filled : H := (.seq .reg (.seq .reg (.seq (.seq .reg (.block (.loop [(5, .p .slice), (6, .p (.int .i64))] [5, 6, 7, 8, 9, 10, 11, 12, 13, 14, 15, 16, 17, 18, 19, 20, 21, 22] (.seq (.seq .reg (.cond .leaf .leaf)) (.seq (.block .reg) .reg))))) (.seq .reg .leaf))))
def F_made_Filled (n seed : Int) (w : World) (R : Value → WP) : Prop :=
 (∃ I : OA → Nat → Nat → Int → Nat × (WP), (I none 0 0 (0 : Int)).2 w ∧
 (∀ (_ : Env) (b_a : OA) (b_l : Nat) (b_c : Nat) (i : Int) (w1 : World), (I b_a b_l b_c i).2 w1 →
 (bsplit (decide (i < n))
 ((kW .i64 ((7 : Int) * i) fun x =>
 (kW .i64 (seed + x) fun x1 =>
 (kW .i64 (Int.tdiv i (16 : Int)) fun x2 =>
 (kW .i64 (x1 + x2) fun x3 =>
 (kW .u8 (x3) fun x4 =>
 (kAlloc w1 #[(.int .u8 x4)] Ty_uint8 fun b w2 =>
 (AppP Tryz.prog #[Ty_S_uint8, Ty_S_uint8] Ty_S_uint8 #[(.slice b_a b_l b_c), (.slice (some ⟨b, 0, none⟩) 1 1)] w2 fun x_a x_l x_c w3 =>
 (kW .i64 (i + (1 : Int)) fun x5 =>
 ((I x_a x_l x_c x5).2 w3 ∧ (I x_a x_l x_c x5).1 < (I b_a b_l b_c i).1))))))))))
 (R (.slice b_a b_l b_c) w1))))
theorem F_made_Filled_eq (n seed : Int) (w : World) (R : Value → World → Prop) : sxFn Tryz.prog TT h_made_Filled Tryz.f41 #[(.int .i64 n), (.int .i64 seed)] w R = F_made_Filled n seed w R := by kernel_rfl
theorem F_made_Filled_ok {R : Ending → World → Prop} (n seed : Int) (w : World) (h : F_made_Filled n seed w fun v w' => R (.returned v) w') : Calls Tryz.prog N_made_Filled #[(.int .i64 n), (.int .i64 seed)] w R :=
 calls_of (f := 41) follows_ok Tryz.func41 (Eq.mpr (F_made_Filled_eq n seed w _) h)

def h_made_Mod : H := (.seq .reg (.seq (.seq .reg (.cond (.seq .reg .leaf) .leaf)) (.seq .reg (.seq (.seq .reg (.cond .reg .leaf)) (.seq .reg .leaf)))))
def F_made_Mod (n m : Int) (w : World) (R : Value → WP) : Prop :=
 (bsplit (decide (m < (1 : Int)))
 (R (Iv (0 : Int)) w)
 ((m ≠ 0 ∧ (kLet (Int.tmod n m) fun x =>
 (bsplit (decide (x < (0 : Int)))
 ((kW .i64 (x + m) fun x1 =>
 R (Iv x1) w))
 (R (Iv x) w))))))
theorem F_made_Mod_eq (n m : Int) (w : World) (R : Value → World → Prop) : sxFn Tryz.prog TT h_made_Mod Tryz.f42 #[(.int .i64 n), (.int .i64 m)] w R = F_made_Mod n m w R := by kernel_rfl
theorem F_made_Mod_ok {R : Ending → World → Prop} (n m : Int) (w : World) (h : F_made_Mod n m w fun v w' => R (.returned v) w') : Calls Tryz.prog N_made_Mod #[(.int .i64 n), (.int .i64 m)] w R :=
 calls_of (f := 42) follows_ok Tryz.func42 (Eq.mpr (F_made_Mod_eq n m w _) h)

def h_receiver_begin : H := (.seq .reg (.seq .reg (.seq (.seq .reg (.block (.loop [(12, .p (.int .i64))] [3, 4, 12, 13, 14, 15, 16, 17, 18, 19, 20, 21, 22, 23, 24, 25, 26, 27, 28, 29, 30, 31, 32, 33, 34, 35] (.seq .reg (.seq (.cond .leaf .leaf) (.seq (.block (.seq .reg (.seq .reg (.draw .cel (.one 0 .stable (.one 1 .stable (.one 2 .pre (.one 3 .pre (.one 4 .pre (.one 5 .pre (.one 7 .stable (.one 8 .stable (.one 9 .stable (.one 10 .stable (.one 6 .keep (.one 11 .keep (.one 12 .stable (.one 13 .stable (.one 14 .keep (.one 15 .stable (.one 16 .stable (.one 17 .last .nil)))))))))))))))))))))) .reg)))))) (.seq .reg .leaf))))
def F_receiver_begin (r_0 r_1 r_2 r_3 r_4 r_5 r_6 r_7 r_8 r_9 r_10 r_11 : Int) (r_12 : Bool) (r_13_a : OA) (r_13_l r_13_c : Nat) (w : World) (R : Value → WP) : Prop :=
 (kAlloc w #[(Iv r_0), (Iv r_1), (Iv r_2), (Iv r_3), (Iv r_4), (Iv r_5), (Iv r_6), (Iv r_7), (Iv r_8), (Iv r_9), (Iv r_10), (Iv r_11), (.bool r_12), (.slice r_13_a r_13_l r_13_c)] Ty_api_Receiver fun b w1 =>
 (kLdS w1 ⟨b, 13, none⟩ fun x_a x_l x_c =>
 (CP N_slices_Clone_Sapi_Partial_api_Partial #[(.slice x_a x_l x_c)] w1 fun e_ w2 =>
 ∃ r_a : OA, ∃ r_l r_c : Nat, e_ = .returned (.slice r_a r_l r_c) ∧
 (kSet w2 ⟨b, 13, none⟩ (.slice r_a r_l r_c) fun w3 =>
 (kLdS w3 ⟨b, 13, none⟩ fun _ x_l1 _ =>
 (∃ I : Int → Nat × (WP), (I (0 : Int)).2 w3 ∧
 (∀ (_ : Env) (x : Int) (w4 : World), (I x).2 w4 →
 (bsplit (decide (x < (x_l1 : Int)))
 ((kLdS w4 ⟨b, 13, none⟩ fun x_a2 x_l2 _ =>
 (kIx x_a2 x_l2 x fun b1 =>
 (kDrew w4 fun w5 =>
 (∃ S : Addr → Prop,
 (kLdS w5 ((b1.add (x.toNat * 5)).add 3) fun x_a3 x_l3 x_c3 =>
 (S ((b1.add (x.toNat * 5)).add 4) ∧
 (kLdS w5 ((b1.add (x.toNat * 5)).add 4) fun x_a4 x_l4 x_c4 =>
 (CP N_slices_Clone_Sbyte_byte #[(.slice x_a3 x_l3 x_c3)] w5 fun e_1 w6 =>
 ∃ r_a1 : OA, ∃ r_l1 r_c1 : Nat, e_1 = .returned (.slice r_a1 r_l1 r_c1) ∧
 (KeepsA S w5 w6 ∧ (CP N_slices_Clone_Sapi_Range_api_Range #[(.slice x_a4 x_l4 x_c4)] w6 fun e_2 w7 =>
 ∃ r_a2 : OA, ∃ r_l2 r_c2 : Nat, e_2 = .returned (.slice r_a2 r_l2 r_c2) ∧
 (KeepsA S w5 w7 ∧ (kSet w7 ((b1.add (x.toNat * 5)).add 3) (.slice r_a1 r_l1 r_c1) fun w8 =>
 (KeepsA S w5 w8 ∧ (kSet w8 ((b1.add (x.toNat * 5)).add 4) (.slice r_a2 r_l2 r_c2) fun w9 =>
 (kW .i64 (x + (1 : Int)) fun x1 =>
 ((I x1).2 w9 ∧ (I x1).1 < (I x).1)))))))))))))))))
 ((∃ x_0 x_1 x_2 x_3 x_4 x_5 x_6 x_7 x_8 x_9 x_10 x_11 : Int, ∃ x_12 : Bool, ∃ x_13_a : OA, ∃ x_13_l x_13_c : Nat, cellsAt w4 ⟨b, 0, none⟩ 0 [(Iv x_0), (Iv x_1), (Iv x_2), (Iv x_3), (Iv x_4), (Iv x_5), (Iv x_6), (Iv x_7), (Iv x_8), (Iv x_9), (Iv x_10), (Iv x_11), (.bool x_12), (.slice x_13_a x_13_l x_13_c)] ∧
 (kAlloc w4 #[(Iv x_0), (Iv x_1), (Iv x_2), (Iv x_3), (Iv x_4), (Iv x_5), (Iv x_6), (Iv x_7), (Iv x_8), (Iv x_9), (Iv x_10), (Iv x_11), (.bool x_12), (.slice x_13_a x_13_l x_13_c)] Ty_receiver_side fun b2 w10 =>
 R (.pointer (some ⟨b2, 0, none⟩)) w10)))))))))))
theorem F_receiver_begin_eq (r_0 r_1 r_2 r_3 r_4 r_5 r_6 r_7 r_8 r_9 r_10 r_11 : Int) (r_12 : Bool) (r_13_a : Option Addr) (r_13_l r_13_c : Nat) (w : World) (R : Value → World → Prop) : sxFn Tryz.prog TT h_receiver_begin Tryz.f43 #[(.agg #[.int .i64 r_0, .int .i64 r_1, .int .i64 r_2, .int .i64 r_3, .int .i64 r_4, .int .i64 r_5, .int .i64 r_6, .int .i64 r_7, .int .i64 r_8, .int .i64 r_9, .int .i64 r_10, .int .i64 r_11, .bool r_12, .slice r_13_a r_13_l r_13_c])] w R = F_receiver_begin r_0 r_1 r_2 r_3 r_4 r_5 r_6 r_7 r_8 r_9 r_10 r_11 r_12 r_13_a r_13_l r_13_c w R := by kernel_rfl
theorem F_receiver_begin_ok {R : Ending → World → Prop} (r_0 r_1 r_2 r_3 r_4 r_5 r_6 r_7 r_8 r_9 r_10 r_11 : Int) (r_12 : Bool) (r_13_a : Option Addr) (r_13_l r_13_c : Nat) (w : World) (h : F_receiver_begin r_0 r_1 r_2 r_3 r_4 r_5 r_6 r_7 r_8 r_9 r_10 r_11 r_12 r_13_a r_13_l r_13_c w fun v w' => R (.returned v) w') : Calls Tryz.prog N_receiver_begin #[(.agg #[.int .i64 r_0, .int .i64 r_1, .int .i64 r_2, .int .i64 r_3, .int .i64 r_4, .int .i64 r_5, .int .i64 r_6, .int .i64 r_7, .int .i64 r_8, .int .i64 r_9, .int .i64 r_10, .int .i64 r_11, .bool r_12, .slice r_13_a r_13_l r_13_c])] w R :=
 calls_of (f := 43) follows_ok Tryz.func43 (Eq.mpr (F_receiver_begin_eq r_0 r_1 r_2 r_3 r_4 r_5 r_6 r_7 r_8 r_9 r_10 r_11 r_12 r_13_a r_13_l r_13_c w _) h)

def h_segment_Decode : H := (.seq .reg (.seq (.block (.seq .reg (.cond (.seq .reg .leaf) (.seq .reg (.cond (.seq .reg .leaf) .leaf))))) (.seq (.draw .no (.one 0 .stable (.one 1 .stable (.one 2 .stable (.one 3 .stable (.one 4 .stable (.one 5 .stable (.one 6 .stable (.one 7 .stable (.one 8 .stable (.one 9 .stable (.one 10 .stable .nil)))))))))))) (.seq .reg (.seq .reg (.seq (.seq .reg (.cond (.seq .reg .leaf) .leaf)) (.cut [] [46, 47, 48, 49, 50, 51, 52, 53, 54, 55, 56, 57, 58] (.seq .reg (.cond (.draw .no (.one 0 .pre (.one 1 .pre (.one 2 .pre (.one 3 .pre (.one 4 .pre (.one 5 .pre (.one 6 .pre (.one 7 .pre (.one 8 .pre (.one 9 .pre (.one 10 .pre (.one 11 .last .nil))))))))))))) .leaf)) (.seq .reg (.seq (.seq .reg (.cond (.seq .reg .leaf) .leaf)) (.seq .reg .leaf))))))))))
def F_segment_Decode (bits : Int) (b_a : OA) (b_l b_c : Nat) (w : World) (R : Value → WP) : Prop :=
 (kAlloc w #[Iv (0 : Int), Iv (0 : Int), Iv (0 : Int), Iv (0 : Int), .slice none 0 0] Ty_api_Piece fun b w1 =>
 (CP N_counter_Bits #[(Iv bits)] w1 fun e_ w2 =>
 ∃ r : Bool, e_ = .returned (.bool r) ∧
 (bsplit (!r)
 ((sxStore w2 ⟨b, 0, none⟩ 0 [(Iv (0 : Int)), (Iv (0 : Int)), (Iv (0 : Int)), (Iv (0 : Int)), (.slice none 0 0)] fun w3 =>
 (∃ r_0 r_1 r_2 r_3 : Int, ∃ r_4_a : OA, ∃ r_4_l r_4_c : Nat, cellsAt w3 ⟨b, 0, none⟩ 0 [(Iv r_0), (Iv r_1), (Iv r_2), (Iv r_3), (.slice r_4_a r_4_l r_4_c)] ∧
 R (.tuple #[(.agg #[Iv r_0, Iv r_1, Iv r_2, Iv r_3, .slice r_4_a r_4_l r_4_c]), (Iv (3 : Int))]) w3)))
 ((kLet (decide ((b_l : Int) < (2 : Int))) fun x =>
 (bsplit x
 ((sxStore w2 ⟨b, 0, none⟩ 0 [(Iv (0 : Int)), (Iv (0 : Int)), (Iv (0 : Int)), (Iv (0 : Int)), (.slice none 0 0)] fun w4 =>
 (∃ r_01 r_11 r_21 r_31 : Int, ∃ r_4_a1 : OA, ∃ r_4_l1 r_4_c1 : Nat, cellsAt w4 ⟨b, 0, none⟩ 0 [(Iv r_01), (Iv r_11), (Iv r_21), (Iv r_31), (.slice r_4_a1 r_4_l1 r_4_c1)] ∧
 R (.tuple #[(.agg #[Iv r_01, Iv r_11, Iv r_21, Iv r_31, .slice r_4_a1 r_4_l1 r_4_c1]), (Iv (5 : Int))]) w4)))
 ((kDrew w2 fun w5 =>
 (kIx b_a b_l (0 : Int) fun b1 =>
 (kLd w5 (b1.add ((0 : Int).toNat * 1)) .u8 fun x1 =>
 (kW .i64 (x1) fun x2 =>
 (kW .i64 (x2 * 2 ^ 8) fun x3 =>
 (kIx b_a b_l (1 : Int) fun b2 =>
 (kLd w5 (b2.add ((1 : Int).toNat * 1)) .u8 fun x4 =>
 (kW .i64 (x4) fun x5 =>
 (kLet (bOr .i64 x3 x5) fun x6 =>
 (kLet (Int.fdiv x6 (2 ^ 14)) fun x7 =>
 (kLet (bAnd .i64 x7 (1 : Int)) fun x8 =>
 (kLet (Int.fdiv x6 (2 ^ 12)) fun x9 =>
 (kLet (bAnd .i64 x9 (3 : Int)) fun x10 =>
 (kLet (bAnd .i64 x6 (4095 : Int)) fun x11 =>
 (kAlloc w5 #[Iv (0 : Int), Iv (0 : Int), Iv (0 : Int), Iv (0 : Int), .slice none 0 0] Ty_api_Piece fun b3 w6 =>
 (sxStore w6 ⟨b3, 0, none⟩ 0 [(Iv x11), (Iv x10), (Iv x8), (Iv (0 : Int)), (.slice none 0 0)] fun w7 =>
 (kLd w7 ⟨b3, 1, none⟩ .i64 fun x12 =>
 (CP N_segment_head #[(Iv x12)] w7 fun e_1 w8 =>
 ∃ r1 : Int, e_1 = .returned (Iv r1) ∧
 (bsplit (decide ((b_l : Int) ≤ r1))
 ((sxStore w8 ⟨b, 0, none⟩ 0 [(Iv (0 : Int)), (Iv (0 : Int)), (Iv (0 : Int)), (Iv (0 : Int)), (.slice none 0 0)] fun w9 =>
 (∃ r_02 r_12 r_22 r_32 : Int, ∃ r_4_a2 : OA, ∃ r_4_l2 r_4_c2 : Nat, cellsAt w9 ⟨b, 0, none⟩ 0 [(Iv r_02), (Iv r_12), (Iv r_22), (Iv r_32), (.slice r_4_a2 r_4_l2 r_4_c2)] ∧
 R (.tuple #[(.agg #[Iv r_02, Iv r_12, Iv r_22, Iv r_32, .slice r_4_a2 r_4_l2 r_4_c2]), (Iv (5 : Int))]) w9)))
 ((∃ J : WP,
 (∀ (_ : Env)  (w12 : World), J w12 →
 ((0 ≤ r1 ∧ r1 ≤ ((b_l : Nat) : Int)) ∧ (CP N_slices_Clone_Sbyte_byte #[(.slice (slAddr b_c (r1.toNat) 1 b_a) (b_l - r1.toNat) (b_c - r1.toNat))] w12 fun e_2 w13 =>
 ∃ r_a : OA, ∃ r_l r_c : Nat, e_2 = .returned (.slice r_a r_l r_c) ∧
 (kSet w13 ⟨b3, 4, none⟩ (.slice r_a r_l r_c) fun w14 =>
 (kLet (Int.fdiv x6 (2 ^ 15)) fun x19 =>
 (bsplit (decide (x19 = (0 : Int)))
 ((sxStore w14 ⟨b, 0, none⟩ 0 [(Iv (0 : Int)), (Iv (0 : Int)), (Iv (0 : Int)), (Iv (0 : Int)), (.slice none 0 0)] fun w15 =>
 (∃ r_03 r_13 r_23 r_33 : Int, ∃ r_4_a3 : OA, ∃ r_4_l3 r_4_c3 : Nat, cellsAt w15 ⟨b, 0, none⟩ 0 [(Iv r_03), (Iv r_13), (Iv r_23), (Iv r_33), (.slice r_4_a3 r_4_l3 r_4_c3)] ∧
 R (.tuple #[(.agg #[Iv r_03, Iv r_13, Iv r_23, Iv r_33, .slice r_4_a3 r_4_l3 r_4_c3]), (Iv (4 : Int))]) w15)))
 ((∃ x_01 x_11 x_21 x_31 : Int, ∃ x_4_a1 : OA, ∃ x_4_l1 x_4_c1 : Nat, cellsAt w14 ⟨b3, 0, none⟩ 0 [(Iv x_01), (Iv x_11), (Iv x_21), (Iv x_31), (.slice x_4_a1 x_4_l1 x_4_c1)] ∧
 (CP N_segment_Valid #[(Iv bits), (.agg #[Iv x_01, Iv x_11, Iv x_21, Iv x_31, .slice x_4_a1 x_4_l1 x_4_c1])] w14 fun e_3 w17 =>
 ∃ r2 : Bool, e_3 = .returned (.bool r2) ∧
 (bsplit (!r2)
 ((sxStore w17 ⟨b, 0, none⟩ 0 [(Iv (0 : Int)), (Iv (0 : Int)), (Iv (0 : Int)), (Iv (0 : Int)), (.slice none 0 0)] fun w18 =>
 (∃ r_05 r_15 r_25 r_35 : Int, ∃ r_4_a5 : OA, ∃ r_4_l5 r_4_c5 : Nat, cellsAt w18 ⟨b, 0, none⟩ 0 [(Iv r_05), (Iv r_15), (Iv r_25), (Iv r_35), (.slice r_4_a5 r_4_l5 r_4_c5)] ∧
 R (.tuple #[(.agg #[Iv r_05, Iv r_15, Iv r_25, Iv r_35, .slice r_4_a5 r_4_l5 r_4_c5]), (Iv (4 : Int))]) w18)))
 ((∃ x_02 x_12 x_22 x_32 : Int, ∃ x_4_a2 : OA, ∃ x_4_l2 x_4_c2 : Nat, cellsAt w17 ⟨b3, 0, none⟩ 0 [(Iv x_02), (Iv x_12), (Iv x_22), (Iv x_32), (.slice x_4_a2 x_4_l2 x_4_c2)] ∧
 (sxStore w17 ⟨b, 0, none⟩ 0 [(Iv x_02), (Iv x_12), (Iv x_22), (Iv x_32), (.slice x_4_a2 x_4_l2 x_4_c2)] fun w19 =>
 (∃ r_06 r_16 r_26 r_36 : Int, ∃ r_4_a6 : OA, ∃ r_4_l6 r_4_c6 : Nat, cellsAt w19 ⟨b, 0, none⟩ 0 [(Iv r_06), (Iv r_16), (Iv r_26), (Iv r_36), (.slice r_4_a6 r_4_l6 r_4_c6)] ∧
 R (.tuple #[(.agg #[Iv r_06, Iv r_16, Iv r_26, Iv r_36, .slice r_4_a6 r_4_l6 r_4_c6]), (Iv (0 : Int))]) w19)))))))))))))) ∧
 (bsplit (decide (r1 = (4 : Int)))
 ((kDrew w8 fun w10 =>
 (kIx b_a b_l (2 : Int) fun b4 =>
 (kLd w10 (b4.add ((2 : Int).toNat * 1)) .u8 fun x13 =>
 (kW .i64 (x13) fun x14 =>
 (kW .i64 (x14 * 2 ^ 8) fun x15 =>
 (kIx b_a b_l (3 : Int) fun b5 =>
 (kLd w10 (b5.add ((3 : Int).toNat * 1)) .u8 fun x16 =>
 (kW .i64 (x16) fun x17 =>
 (kLet (bOr .i64 x15 x17) fun x18 =>
 (kSet w10 ⟨b3, 3, none⟩ (Iv x18) fun w11 =>
 J w11)))))))))))
 (J w8))))))))))))))))))))))))))))))
theorem F_segment_Decode_eq (bits : Int) (b_a : Option Addr) (b_l b_c : Nat) (w : World) (R : Value → World → Prop) : sxFn Tryz.prog TT h_segment_Decode Tryz.f44 #[(.int .i64 bits), (.slice b_a b_l b_c)] w R = F_segment_Decode bits b_a b_l b_c w R := by kernel_rfl
theorem F_segment_Decode_ok {R : Ending → World → Prop} (bits : Int) (b_a : Option Addr) (b_l b_c : Nat) (w : World) (h : F_segment_Decode bits b_a b_l b_c w fun v w' => R (.returned v) w') : Calls Tryz.prog N_segment_Decode #[(.int .i64 bits), (.slice b_a b_l b_c)] w R :=
 calls_of (f := 44) follows_ok Tryz.func44 (Eq.mpr (F_segment_Decode_eq bits b_a b_l b_c w _) h)

def h_segment_Ends : H := (.seq .reg (.seq .reg .leaf))
def F_segment_Ends (part : Int) (w : World) (R : Value → WP) : Prop :=
 (bsplit (decide (part = (0 : Int)))
 (R (.bool true) w)
 ((kLet (decide (part = (2 : Int))) fun x =>
 R (.bool x) w)))
theorem F_segment_Ends_eq (part : Int) (w : World) (R : Value → World → Prop) : sxFn Tryz.prog TT h_segment_Ends Tryz.f45 #[(.int .i64 part)] w R = F_segment_Ends part w R := by kernel_rfl
theorem F_segment_Ends_ok {R : Ending → World → Prop} (part : Int) (w : World) (h : F_segment_Ends part w fun v w' => R (.returned v) w') : Calls Tryz.prog N_segment_Ends #[(.int .i64 part)] w R :=
 calls_of (f := 45) follows_ok Tryz.func45 (Eq.mpr (F_segment_Ends_eq part w _) h)

def h_slices_BinarySearchFunc_Sapi_Partial_api_Partial_int : H := (.seq .reg (.seq .reg (.seq .reg (.seq (.block (.loop [(9, .p (.int .i64)), (10, .p (.int .i64))] [9, 10, 11, 15, 16, 17, 18, 19, 20, 21, 22, 23, 24, 25, 26, 27, 28, 29, 30, 31, 32, 33, 34] (.seq (.seq .reg (.cond .leaf .leaf)) (.block (.seq .reg (.seq .reg (.cond .reg .reg))))))) (.seq .reg .leaf)))))
def F_slices_BinarySearchFunc_Sapi_Partial_api_Partial_int (x_a : OA) (x_l _ : Nat) (target : Int) (cmp_g : Nat) (cmp_f : Array Value) (cmp_c : Array Value) (w : World) (R : Value → WP) : Prop :=
 (∃ I : Int → Int → Nat × (WP), (I (0 : Int) (x_l : Int)).2 w ∧
 (∀ (_ : Env) (i : Int) (j : Int) (w1 : World), (I i j).2 w1 →
 (bsplit (decide (i < j))
 ((kW .i64 (i + j) fun x =>
 (kW .u64 (x) fun x1 =>
 (kLet (Int.fdiv x1 (2 ^ 1)) fun x2 =>
 (kW .i64 (x2) fun x3 =>
 (kIx x_a x_l x3 fun b =>
 (∃ x_0 : Int, ∃ x_1 : Bool, ∃ x_2 : Int, ∃ x_3_a : OA, ∃ x_3_l x_3_c : Nat, ∃ x_4_a : OA, ∃ x_4_l x_4_c : Nat, cellsAt w1 (b.add (x3.toNat * 5)) 0 [(Iv x_0), (.bool x_1), (Iv x_2), (.slice x_3_a x_3_l x_3_c), (.slice x_4_a x_4_l x_4_c)] ∧
 (okFn Tryz.prog cmp_g = true ∧ CP cmp_g (cmp_f ++ #[(.agg #[Iv x_0, .bool x_1, Iv x_2, .slice x_3_a x_3_l x_3_c, .slice x_4_a x_4_l x_4_c]), (Iv target)] ++ cmp_c) w1 fun e_ w2 =>
 ∃ r : Int, e_ = .returned (Iv r) ∧
 (bsplit (decide (r < (0 : Int)))
 ((kW .i64 (x3 + (1 : Int)) fun x4 =>
 ((I x4 j).2 w2 ∧ (I x4 j).1 < (I i j).1)))
 (((I i x3).2 w2 ∧ (I i x3).1 < (I i j).1)))))))))))
 ((bsplit (decide (i < (x_l : Int)))
 ((kIx x_a x_l i fun b1 =>
 (∃ x_01 : Int, ∃ x_11 : Bool, ∃ x_21 : Int, ∃ x_3_a1 : OA, ∃ x_3_l1 x_3_c1 : Nat, ∃ x_4_a1 : OA, ∃ x_4_l1 x_4_c1 : Nat, cellsAt w1 (b1.add (i.toNat * 5)) 0 [(Iv x_01), (.bool x_11), (Iv x_21), (.slice x_3_a1 x_3_l1 x_3_c1), (.slice x_4_a1 x_4_l1 x_4_c1)] ∧
 (okFn Tryz.prog cmp_g = true ∧ CP cmp_g (cmp_f ++ #[(.agg #[Iv x_01, .bool x_11, Iv x_21, .slice x_3_a1 x_3_l1 x_3_c1, .slice x_4_a1 x_4_l1 x_4_c1]), (Iv target)] ++ cmp_c) w1 fun e_1 w3 =>
 ∃ r1 : Int, e_1 = .returned (Iv r1) ∧
 (kLet (decide (r1 = (0 : Int))) fun x5 =>
 R (.tuple #[(Iv i), (.bool x5)]) w3)))))
 (R (.tuple #[(Iv i), (.bool false)]) w1))))))
theorem F_slices_BinarySearchFunc_Sapi_Partial_api_Partial_int_eq (x_a : Option Addr) (x_l x_c : Nat) (target : Int) (cmp_g : Nat) (cmp_f : Array Value) (cmp_c : Array Value) (w : World) (R : Value → World → Prop) : sxFn Tryz.prog TT h_slices_BinarySearchFunc_Sapi_Partial_api_Partial_int Tryz.f46 #[(.slice x_a x_l x_c), (.int .i64 target), (.func (.func cmp_g) cmp_f cmp_c)] w R = F_slices_BinarySearchFunc_Sapi_Partial_api_Partial_int x_a x_l x_c target cmp_g cmp_f cmp_c w R := by kernel_rfl
theorem F_slices_BinarySearchFunc_Sapi_Partial_api_Partial_int_ok {R : Ending → World → Prop} (x_a : Option Addr) (x_l x_c : Nat) (target : Int) (cmp_g : Nat) (cmp_f : Array Value) (cmp_c : Array Value) (w : World) (h : F_slices_BinarySearchFunc_Sapi_Partial_api_Partial_int x_a x_l x_c target cmp_g cmp_f cmp_c w fun v w' => R (.returned v) w') : Calls Tryz.prog N_slices_BinarySearchFunc_Sapi_Partial_api_Partial_int #[(.slice x_a x_l x_c), (.int .i64 target), (.func (.func cmp_g) cmp_f cmp_c)] w R :=
 calls_of (f := 46) follows_ok Tryz.func46 (Eq.mpr (F_slices_BinarySearchFunc_Sapi_Partial_api_Partial_int_eq x_a x_l x_c target cmp_g cmp_f cmp_c w _) h)

def h_receiver_side_place : H := (.seq .reg (.seq (.draw .blk (.one 0 .pre (.one 1 .pre (.one 2 .pre (.one 3 .pre (.one 4 .pre (.one 5 .pre (.one 6 .pre (.one 7 .pre (.one 8 .pre (.one 9 .pre (.one 10 .pre (.one 11 .pre (.one 12 .keep (.one 13 .stable .nil))))))))))))))) .leaf))
def F_receiver_side_place (s_b s_o : Nat) (n : Int) (w : World) (R : Value → WP) : Prop :=
 (kDrew w fun w1 =>
 (∃ S : Nat → Prop,
 (kLd w1 ⟨s_b, s_o, none⟩ .i64 fun x =>
 (kLd w1 ⟨s_b, s_o + 6, none⟩ .i64 fun x1 =>
 (CP N_serial_Distance #[(Iv x), (Iv x1), (Iv n)] w1 fun e_ w2 =>
 ∃ r : Int, e_ = .returned (Iv r) ∧
 (KeepsB S w1 w2 ∧ R (Iv r) w2))))))
theorem F_receiver_side_place_eq (s_b s_o : Nat) (n : Int) (w : World) (R : Value → World → Prop) : sxFn Tryz.prog TT h_receiver_side_place Tryz.f47 #[(.pointer (some ⟨s_b, s_o, none⟩)), (.int .i64 n)] w R = F_receiver_side_place s_b s_o n w R := by kernel_rfl
theorem F_receiver_side_place_ok {R : Ending → World → Prop} (s_b s_o : Nat) (n : Int) (w : World) (h : F_receiver_side_place s_b s_o n w fun v w' => R (.returned v) w') : Calls Tryz.prog N_receiver_side_place #[(.pointer (some ⟨s_b, s_o, none⟩)), (.int .i64 n)] w R :=
 calls_of (f := 47) follows_ok Tryz.func47 (Eq.mpr (F_receiver_side_place_eq s_b s_o n w _) h)

def h_receiver_Receive_1 : H := (.seq .reg (.seq .reg .leaf))
def F_receiver_Receive_1 (x_0 : Int) (x_1 : Bool) (x_2 : Int) (x_3_a : OA) (x_3_l x_3_c : Nat) (x_4_a : OA) (x_4_l x_4_c : Nat) (n : Int) (cap0_b cap0_o : Nat) (w : World) (R : Value → WP) : Prop :=
 (kAlloc w #[(Iv x_0), (.bool x_1), (Iv x_2), (.slice x_3_a x_3_l x_3_c), (.slice x_4_a x_4_l x_4_c)] Ty_api_Partial fun b w1 =>
 (∃ x : OA, w1.cell? ⟨cap0_b, cap0_o, none⟩ = some (.pointer x) ∧
 (kLd w1 ⟨b, 0, none⟩ .i64 fun x1 =>
 (CP N_receiver_side_place #[(.pointer x), (Iv x1)] w1 fun e_ w2 =>
 ∃ r : Int, e_ = .returned (Iv r) ∧
 (kW .i64 (r - n) fun x2 =>
 R (Iv x2) w2)))))
theorem F_receiver_Receive_1_eq (x_0 : Int) (x_1 : Bool) (x_2 : Int) (x_3_a : Option Addr) (x_3_l x_3_c : Nat) (x_4_a : Option Addr) (x_4_l x_4_c : Nat) (n : Int) (cap0_b cap0_o : Nat) (w : World) (R : Value → World → Prop) : sxFn Tryz.prog TT h_receiver_Receive_1 Tryz.f48 #[(.agg #[.int .i64 x_0, .bool x_1, .int .i64 x_2, .slice x_3_a x_3_l x_3_c, .slice x_4_a x_4_l x_4_c]), (.int .i64 n), (.pointer (some ⟨cap0_b, cap0_o, none⟩))] w R = F_receiver_Receive_1 x_0 x_1 x_2 x_3_a x_3_l x_3_c x_4_a x_4_l x_4_c n cap0_b cap0_o w R := by kernel_rfl
theorem F_receiver_Receive_1_ok {R : Ending → World → Prop} (x_0 : Int) (x_1 : Bool) (x_2 : Int) (x_3_a : Option Addr) (x_3_l x_3_c : Nat) (x_4_a : Option Addr) (x_4_l x_4_c : Nat) (n : Int) (cap0_b cap0_o : Nat) (w : World) (h : F_receiver_Receive_1 x_0 x_1 x_2 x_3_a x_3_l x_3_c x_4_a x_4_l x_4_c n cap0_b cap0_o w fun v w' => R (.returned v) w') : Calls Tryz.prog N_receiver_Receive_1 #[(.agg #[.int .i64 x_0, .bool x_1, .int .i64 x_2, .slice x_3_a x_3_l x_3_c, .slice x_4_a x_4_l x_4_c]), (.int .i64 n), (.pointer (some ⟨cap0_b, cap0_o, none⟩))] w R :=
 calls_of (f := 48) follows_ok Tryz.func48 (Eq.mpr (F_receiver_Receive_1_eq x_0 x_1 x_2 x_3_a x_3_l x_3_c x_4_a x_4_l x_4_c n cap0_b cap0_o w _) h)

def h_receiver_side_refused : H := (.seq .reg (.seq (.block (.seq (.draw .blk (.one 0 .pre (.one 1 .pre (.one 2 .pre (.one 3 .pre (.one 5 .stable (.one 6 .stable (.one 7 .stable (.one 8 .stable (.one 9 .stable (.one 10 .stable (.one 11 .stable (.one 12 .stable (.one 4 .keep (.one 13 .stable (.one 14 .stable .nil)))))))))))))))) (.cond (.seq .reg .leaf) (.seq .reg (.cond (.seq .reg .leaf) (.seq .reg (.cond (.seq .reg .leaf) (.seq (.draw .blk (.one 0 .pre (.one 1 .pre (.one 2 .pre (.one 3 .pre (.one 4 .pre (.one 5 .pre (.one 6 .pre (.one 7 .pre (.one 8 .pre (.one 9 .keep (.one 10 .stable .nil)))))))))))) (.cond (.seq .reg .leaf) (.seq (.draw .blk (.one 0 .pre (.one 1 .pre (.one 2 .pre (.one 3 .pre (.one 4 .pre (.one 5 .pre (.one 6 .pre (.one 7 .pre (.one 8 .pre (.one 9 .keep (.one 10 .stable .nil)))))))))))) (.cond (.seq .reg .leaf) .leaf))))))))))) (.seq .reg .leaf)))
def F_receiver_side_refused (s_b s_o : Nat) (p_0 p_1 p_2 p_3 : Int) (p_4_a : OA) (p_4_l p_4_c : Nat) (p_5 : Int) (p_6 : Bool) (at1 : Int) (found : Bool) (w : World) (R : Value → WP) : Prop :=
 (kAlloc w #[(Iv p_0), (Iv p_1), (Iv p_2), (Iv p_3), (.slice p_4_a p_4_l p_4_c), (Iv p_5), (.bool p_6)] Ty_receiver_piece fun b w1 =>
 (kDrew w1 fun w2 =>
 (∃ S : Nat → Prop,
 (kLd w2 ⟨b, 0, none⟩ .i64 fun x =>
 (S s_b ∧
 (kLd w2 ⟨s_b, s_o, none⟩ .i64 fun x1 =>
 (kW .i64 (x1 - (1 : Int)) fun x2 =>
 (0 ≤ x2 ∧ (kW .i64 ((1 : Int) * 2 ^ (min x2.toNat (IntKind.bits .i64))) fun x3 =>
 (CP N_receiver_side_place #[(.pointer (some ⟨s_b, s_o, none⟩)), (Iv x)] w2 fun e_ w3 =>
 ∃ r : Int, e_ = .returned (Iv r) ∧
 (KeepsB S w2 w3 ∧ (kLet (decide (r ≥ x3)) fun x4 =>
 (bsplit x4
 (R (Iv (11 : Int)) w3)
 ((bsplit (!found)
 (R (Iv (0 : Int)) w3)
 ((kLdS w3 ⟨s_b, s_o + 13, none⟩ fun x_a x_l _ =>
 (kIx x_a x_l at1 fun b1 =>
 (kLdB w3 ((b1.add (at1.toNat * 5)).add 1) fun x5 =>
 (bsplit x5
 (R (Iv (12 : Int)) w3)
 ((kDrew w3 fun w4 =>
 (∃ S1 : Nat → Prop,
 (∃ x_0 x_1 x_2 x_3 : Int, ∃ x_4_a : OA, ∃ x_4_l x_4_c : Nat, ∃ x_5 : Int, ∃ x_6 : Bool, cellsAt w4 ⟨b, 0, none⟩ 0 [(Iv x_0), (Iv x_1), (Iv x_2), (Iv x_3), (.slice x_4_a x_4_l x_4_c), (Iv x_5), (.bool x_6)] ∧
 (kLdS w4 ⟨s_b, s_o + 13, none⟩ fun x_a1 x_l1 _ =>
 (kIx x_a1 x_l1 at1 fun b2 =>
 (∃ x_01 : Int, ∃ x_11 : Bool, ∃ x_21 : Int, ∃ x_3_a : OA, ∃ x_3_l x_3_c : Nat, ∃ x_4_a1 : OA, ∃ x_4_l1 x_4_c1 : Nat, cellsAt w4 (b2.add (at1.toNat * 5)) 0 [(Iv x_01), (.bool x_11), (Iv x_21), (.slice x_3_a x_3_l x_3_c), (.slice x_4_a1 x_4_l1 x_4_c1)] ∧
 (CP N_receiver_piece_contradicts #[(.agg #[Iv x_0, Iv x_1, Iv x_2, Iv x_3, .slice x_4_a x_4_l x_4_c, Iv x_5, .bool x_6]), (.agg #[Iv x_01, .bool x_11, Iv x_21, .slice x_3_a x_3_l x_3_c, .slice x_4_a1 x_4_l1 x_4_c1])] w4 fun e_1 w5 =>
 ∃ r1 : Bool, e_1 = .returned (.bool r1) ∧
 (KeepsB S1 w4 w5 ∧ (bsplit r1
 (R (Iv (4 : Int)) w5)
 ((kDrew w5 fun w6 =>
 (∃ S2 : Nat → Prop,
 (∃ x_02 x_12 x_22 x_31 : Int, ∃ x_4_a2 : OA, ∃ x_4_l2 x_4_c2 : Nat, ∃ x_51 : Int, ∃ x_61 : Bool, cellsAt w6 ⟨b, 0, none⟩ 0 [(Iv x_02), (Iv x_12), (Iv x_22), (Iv x_31), (.slice x_4_a2 x_4_l2 x_4_c2), (Iv x_51), (.bool x_61)] ∧
 (kLdS w6 ⟨s_b, s_o + 13, none⟩ fun x_a2 x_l2 _ =>
 (kIx x_a2 x_l2 at1 fun b3 =>
 (∃ x_03 : Int, ∃ x_13 : Bool, ∃ x_23 : Int, ∃ x_3_a1 : OA, ∃ x_3_l1 x_3_c1 : Nat, ∃ x_4_a3 : OA, ∃ x_4_l3 x_4_c3 : Nat, cellsAt w6 (b3.add (at1.toNat * 5)) 0 [(Iv x_03), (.bool x_13), (Iv x_23), (.slice x_3_a1 x_3_l1 x_3_c1), (.slice x_4_a3 x_4_l3 x_4_c3)] ∧
 (CP N_receiver_piece_known #[(.agg #[Iv x_02, Iv x_12, Iv x_22, Iv x_31, .slice x_4_a2 x_4_l2 x_4_c2, Iv x_51, .bool x_61]), (.agg #[Iv x_03, .bool x_13, Iv x_23, .slice x_3_a1 x_3_l1 x_3_c1, .slice x_4_a3 x_4_l3 x_4_c3])] w6 fun e_2 w7 =>
 ∃ r2 : Bool, e_2 = .returned (.bool r2) ∧
 (KeepsB S2 w6 w7 ∧ (bsplit r2
 (R (Iv (12 : Int)) w7)
 (R (Iv (0 : Int)) w7)))))))))))))))))))))))))))))))))))))))))
theorem F_receiver_side_refused_eq (s_b s_o : Nat) (p_0 p_1 p_2 p_3 : Int) (p_4_a : Option Addr) (p_4_l p_4_c : Nat) (p_5 : Int) (p_6 : Bool) (at1 : Int) (found : Bool) (w : World) (R : Value → World → Prop) : sxFn Tryz.prog TT h_receiver_side_refused Tryz.f49 #[(.pointer (some ⟨s_b, s_o, none⟩)), (.agg #[.int .i64 p_0, .int .i64 p_1, .int .i64 p_2, .int .i64 p_3, .slice p_4_a p_4_l p_4_c, .int .i64 p_5, .bool p_6]), (.int .i64 at1), (.bool found)] w R = F_receiver_side_refused s_b s_o p_0 p_1 p_2 p_3 p_4_a p_4_l p_4_c p_5 p_6 at1 found w R := by kernel_rfl
theorem F_receiver_side_refused_ok {R : Ending → World → Prop} (s_b s_o : Nat) (p_0 p_1 p_2 p_3 : Int) (p_4_a : Option Addr) (p_4_l p_4_c : Nat) (p_5 : Int) (p_6 : Bool) (at1 : Int) (found : Bool) (w : World) (h : F_receiver_side_refused s_b s_o p_0 p_1 p_2 p_3 p_4_a p_4_l p_4_c p_5 p_6 at1 found w fun v w' => R (.returned v) w') : Calls Tryz.prog N_receiver_side_refused #[(.pointer (some ⟨s_b, s_o, none⟩)), (.agg #[.int .i64 p_0, .int .i64 p_1, .int .i64 p_2, .int .i64 p_3, .slice p_4_a p_4_l p_4_c, .int .i64 p_5, .bool p_6]), (.int .i64 at1), (.bool found)] w R :=
 calls_of (f := 49) follows_ok Tryz.func49 (Eq.mpr (F_receiver_side_refused_eq s_b s_o p_0 p_1 p_2 p_3 p_4_a p_4_l p_4_c p_5 p_6 at1 found w _) h)

def h_receiver_side_poll : H := (.seq .reg (.seq .reg (.cond .reg .leaf)))
def F_receiver_side_poll (s_b s_o : Nat) (p_0 p_1 p_2 p_3 : Int) (p_4_a : OA) (p_4_l p_4_c : Nat) (w : World) (R : Value → WP) : Prop :=
 (kAlloc w #[(Iv p_0), (Iv p_1), (Iv p_2), (Iv p_3), (.slice p_4_a p_4_l p_4_c)] Ty_api_Piece fun b w1 =>
 (kLd w1 ⟨b, 2, none⟩ .i64 fun x =>
 (bsplit (decide (x = (1 : Int)))
 ((kLd w1 ⟨s_b, s_o + 7, none⟩ .i64 fun x1 =>
 (kSet w1 ⟨s_b, s_o + 12, none⟩ (.bool true) fun w2 =>
 (kSet w2 ⟨s_b, s_o + 8, none⟩ (Iv x1) fun w3 =>
 R (.tuple #[]) w3))))
 (R (.tuple #[]) w1))))
theorem F_receiver_side_poll_eq (s_b s_o : Nat) (p_0 p_1 p_2 p_3 : Int) (p_4_a : Option Addr) (p_4_l p_4_c : Nat) (w : World) (R : Value → World → Prop) : sxFn Tryz.prog TT h_receiver_side_poll Tryz.f50 #[(.pointer (some ⟨s_b, s_o, none⟩)), (.agg #[.int .i64 p_0, .int .i64 p_1, .int .i64 p_2, .int .i64 p_3, .slice p_4_a p_4_l p_4_c])] w R = F_receiver_side_poll s_b s_o p_0 p_1 p_2 p_3 p_4_a p_4_l p_4_c w R := by kernel_rfl
theorem F_receiver_side_poll_ok {R : Ending → World → Prop} (s_b s_o : Nat) (p_0 p_1 p_2 p_3 : Int) (p_4_a : Option Addr) (p_4_l p_4_c : Nat) (w : World) (h : F_receiver_side_poll s_b s_o p_0 p_1 p_2 p_3 p_4_a p_4_l p_4_c w fun v w' => R (.returned v) w') : Calls Tryz.prog N_receiver_side_poll #[(.pointer (some ⟨s_b, s_o, none⟩)), (.agg #[.int .i64 p_0, .int .i64 p_1, .int .i64 p_2, .int .i64 p_3, .slice p_4_a p_4_l p_4_c])] w R :=
 calls_of (f := 50) follows_ok Tryz.func50 (Eq.mpr (F_receiver_side_poll_eq s_b s_o p_0 p_1 p_2 p_3 p_4_a p_4_l p_4_c w _) h)

def h_slices_Insert_Sapi_Partial_api_Partial : H := (.seq .reg (.seq .reg (.seq .reg (.seq (.seq .reg (.cond (.seq .reg .leaf) .leaf)) (.seq .reg (.seq (.seq .reg (.cond (.seq .reg .leaf) .leaf)) (.seq (.seq .reg (.cond (.seq .reg (.seq .reg (.seq (.draw .no (.one 0 .pre (.one 1 .pre (.one 2 .pre (.one 3 .pre (.one 4 .pre (.one 5 .pre (.one 6 .pre (.one 7 .pre (.one 8 .last .nil)))))))))) (.seq .reg .leaf)))) .leaf)) (.seq .reg (.seq (.seq .reg (.cond (.seq (.draw .no (.one 0 .pre (.one 1 .pre (.one 2 .pre (.one 3 .pre (.one 4 .pre (.one 5 .pre (.one 6 .pre (.one 7 .pre (.one 8 .last .nil)))))))))) (.seq .reg (.seq .reg .leaf))) .leaf)) (.seq .reg (.seq .reg (.seq .reg .leaf))))))))))))
def F_slices_Insert_Sapi_Partial_api_Partial (s_a : OA) (s_l s_c : Nat) (i : Int) (v_a : OA) (v_l v_c : Nat) (w : World) (R : Value → WP) : Prop :=
 ((0 ≤ i ∧ i ≤ ((s_l : Nat) : Int)) ∧ (bsplit (decide ((v_l : Int) = (0 : Int)))
 (R (.slice s_a s_l s_c) w)
 ((bsplit (decide (i = (s_l : Int)))
 ((AppP Tryz.prog #[Ty_S_api_Partial, Ty_S_api_Partial] Ty_S_api_Partial #[(.slice s_a s_l s_c), (.slice v_a v_l v_c)] w fun x_a x_l x_c w1 =>
 R (.slice x_a x_l x_c) w1))
 ((kW .i64 ((s_l : Int) + (v_l : Int)) fun x =>
 (bsplit (decide (x > (s_c : Int)))
 (((0 ≤ i ∧ i ≤ ((s_c : Nat) : Int)) ∧ (kW .i64 ((s_l : Int) + (v_l : Int)) fun x1 =>
 (kW .i64 (x1 - i) fun x2 =>
 (AppP Tryz.prog #[Ty_S_api_Partial, Ty_int] Ty_S_api_Partial #[(.slice (slAddr s_c 0 5 s_a) (i.toNat - 0) (s_c - 0)), (Iv x2)] w fun x_a1 x_l1 x_c1 w2 =>
 ((0 ≤ i ∧ i ≤ ((x_l1 : Nat) : Int)) ∧ (CopyP Tryz.prog #[Ty_S_api_Partial, Ty_S_api_Partial] Ty_int #[(.slice (slAddr x_c1 (i.toNat) 5 x_a1) (x_l1 - i.toNat) (x_c1 - i.toNat)), (.slice v_a v_l v_c)] w2 fun _ w3 =>
 (kDrew w3 fun w4 =>
 (kW .i64 (i + (v_l : Int)) fun x3 =>
 ((0 ≤ x3 ∧ x3 ≤ ((x_l1 : Nat) : Int)) ∧ ((0 ≤ i ∧ i ≤ ((s_l : Nat) : Int)) ∧ (CopyP Tryz.prog #[Ty_S_api_Partial, Ty_S_api_Partial] Ty_int #[(.slice (slAddr x_c1 (x3.toNat) 5 x_a1) (x_l1 - x3.toNat) (x_c1 - x3.toNat)), (.slice (slAddr s_c (i.toNat) 5 s_a) (s_l - i.toNat) (s_c - i.toNat))] w4 fun _ w5 =>
 R (.slice x_a1 x_l1 x_c1) w5))))))))))))
 ((kW .i64 ((s_l : Int) + (v_l : Int)) fun x4 =>
 ((0 ≤ x4 ∧ x4 ≤ ((s_c : Nat) : Int)) ∧ (kW .i64 (i + (v_l : Int)) fun x5 =>
 ((0 ≤ x5 ∧ x5 ≤ (((x4.toNat - 0) : Nat) : Int)) ∧ (ExtC Tryz.prog N_slices_overlaps_api_Partial #[(.slice v_a v_l v_c), (.slice (slAddr (s_c - 0) (x5.toNat) 5 (slAddr s_c 0 5 s_a)) ((x4.toNat - 0) - x5.toNat) ((s_c - 0) - x5.toNat))] w fun e_ w6 =>
 ∃ r : Bool, e_ = .returned (.bool r) ∧
 (bsplit (!r)
 ((kDrew w6 fun w7 =>
 (kW .i64 (i + (v_l : Int)) fun x6 =>
 ((0 ≤ x6 ∧ x6 ≤ (((x4.toNat - 0) : Nat) : Int)) ∧ ((0 ≤ i ∧ i ≤ (((x4.toNat - 0) : Nat) : Int)) ∧ (CopyP Tryz.prog #[Ty_S_api_Partial, Ty_S_api_Partial] Ty_int #[(.slice (slAddr (s_c - 0) (x6.toNat) 5 (slAddr s_c 0 5 s_a)) ((x4.toNat - 0) - x6.toNat) ((s_c - 0) - x6.toNat)), (.slice (slAddr (s_c - 0) (i.toNat) 5 (slAddr s_c 0 5 s_a)) ((x4.toNat - 0) - i.toNat) ((s_c - 0) - i.toNat))] w7 fun _ w8 =>
 ((0 ≤ i ∧ i ≤ (((x4.toNat - 0) : Nat) : Int)) ∧ (CopyP Tryz.prog #[Ty_S_api_Partial, Ty_S_api_Partial] Ty_int #[(.slice (slAddr (s_c - 0) (i.toNat) 5 (slAddr s_c 0 5 s_a)) ((x4.toNat - 0) - i.toNat) ((s_c - 0) - i.toNat)), (.slice v_a v_l v_c)] w8 fun _ w9 =>
 R (.slice (slAddr s_c 0 5 s_a) (x4.toNat - 0) (s_c - 0)) w9))))))))
 (((0 ≤ (s_l : Int) ∧ (s_l : Int) ≤ (((x4.toNat - 0) : Nat) : Int)) ∧ (CopyP Tryz.prog #[Ty_S_api_Partial, Ty_S_api_Partial] Ty_int #[(.slice (slAddr (s_c - 0) ((s_l : Int).toNat) 5 (slAddr s_c 0 5 s_a)) ((x4.toNat - 0) - (s_l : Int).toNat) ((s_c - 0) - (s_l : Int).toNat)), (.slice v_a v_l v_c)] w6 fun _ w10 =>
 ((0 ≤ i ∧ i ≤ (((x4.toNat - 0) : Nat) : Int)) ∧ (CP N_slices_rotateRight_api_Partial #[(.slice (slAddr (s_c - 0) (i.toNat) 5 (slAddr s_c 0 5 s_a)) ((x4.toNat - 0) - i.toNat) ((s_c - 0) - i.toNat)), (Iv (v_l : Int))] w10 fun e_1 w11 =>
 e_1 = .returned (.tuple #[]) ∧
 R (.slice (slAddr s_c 0 5 s_a) (x4.toNat - 0) (s_c - 0)) w11)))))))))))))))))))
theorem F_slices_Insert_Sapi_Partial_api_Partial_eq (s_a : Option Addr) (s_l s_c : Nat) (i : Int) (v_a : Option Addr) (v_l v_c : Nat) (w : World) (R : Value → World → Prop) : sxFn Tryz.prog TT h_slices_Insert_Sapi_Partial_api_Partial Tryz.f51 #[(.slice s_a s_l s_c), (.int .i64 i), (.slice v_a v_l v_c)] w R = F_slices_Insert_Sapi_Partial_api_Partial s_a s_l s_c i v_a v_l v_c w R := by kernel_rfl
theorem F_slices_Insert_Sapi_Partial_api_Partial_ok {R : Ending → World → Prop} (s_a : Option Addr) (s_l s_c : Nat) (i : Int) (v_a : Option Addr) (v_l v_c : Nat) (w : World) (h : F_slices_Insert_Sapi_Partial_api_Partial s_a s_l s_c i v_a v_l v_c w fun v w' => R (.returned v) w') : Calls Tryz.prog N_slices_Insert_Sapi_Partial_api_Partial #[(.slice s_a s_l s_c), (.int .i64 i), (.slice v_a v_l v_c)] w R :=
 calls_of (f := 51) follows_ok Tryz.func51 (Eq.mpr (F_slices_Insert_Sapi_Partial_api_Partial_eq s_a s_l s_c i v_a v_l v_c w _) h)

def h_receiver_side_behind : H := (.seq .reg (.seq .reg .leaf))
def F_receiver_side_behind (s_b s_o : Nat) (n : Int) (w : World) (R : Value → WP) : Prop :=
 (kLd w ⟨s_b, s_o, none⟩ .i64 fun x =>
 (kW .i64 (n + (1 : Int)) fun x1 =>
 (CP N_serial_Low #[(Iv x), (Iv x1)] w fun e_ w1 =>
 ∃ r : Int, e_ = .returned (Iv r) ∧
 R (Iv r) w1)))
theorem F_receiver_side_behind_eq (s_b s_o : Nat) (n : Int) (w : World) (R : Value → World → Prop) : sxFn Tryz.prog TT h_receiver_side_behind Tryz.f52 #[(.pointer (some ⟨s_b, s_o, none⟩)), (.int .i64 n)] w R = F_receiver_side_behind s_b s_o n w R := by kernel_rfl
theorem F_receiver_side_behind_ok {R : Ending → World → Prop} (s_b s_o : Nat) (n : Int) (w : World) (h : F_receiver_side_behind s_b s_o n w fun v w' => R (.returned v) w') : Calls Tryz.prog N_receiver_side_behind #[(.pointer (some ⟨s_b, s_o, none⟩)), (.int .i64 n)] w R :=
 calls_of (f := 52) follows_ok Tryz.func52 (Eq.mpr (F_receiver_side_behind_eq s_b s_o n w _) h)

def h_receiver_piece_put : H := (.seq .reg (.cut [] [4, 5, 6, 7, 8, 9, 10, 11, 12, 13, 14, 15, 16, 17, 18, 19, 20, 21, 22, 23] (.seq (.draw .no (.one 0 .pur (.one 1 .stable (.one 2 .pur (.one 3 .pur (.one 4 .pur (.one 5 .stable (.one 6 .pur (.one 7 .pur (.one 8 .pur .nil)))))))))) (.seq .reg (.cond .reg .leaf))) (.seq (.draw .no (.one 0 .pur (.one 1 .pur (.one 2 .pur (.one 3 .pre (.one 4 .pur (.one 5 .pur (.one 6 .pre (.one 7 .pur (.one 8 .pur (.one 9 .pur (.one 10 .pre (.one 11 .last .nil))))))))))))) (.seq (.draw .blk (.one 0 .pur (.one 1 .pur (.one 2 .pur (.one 3 .pur (.one 4 .stable (.one 5 .pur (.one 6 .pur (.one 7 .pre (.one 8 .pur (.one 9 .pur (.one 10 .pre (.one 11 .pur (.one 12 .pre (.one 13 .keep (.one 14 .last (.one 15 .pur (.one 16 .pur (.one 17 .pur (.one 18 .pur (.one 19 .pur (.one 20 .last .nil)))))))))))))))))))))) (.seq .reg (.cond .reg .leaf))))))
def F_receiver_piece_put (p_0 p_1 p_2 p_3 : Int) (p_4_a : OA) (p_4_l p_4_c : Nat) (p_5 : Int) (p_6 : Bool) (x_b x_o : Nat) (w : World) (R : Value → WP) : Prop :=
 (kAlloc w #[(Iv p_0), (Iv p_1), (Iv p_2), (Iv p_3), (.slice p_4_a p_4_l p_4_c), (Iv p_5), (.bool p_6)] Ty_receiver_piece fun b w1 =>
 (∃ J : WP,
 (∀ (_ : Env)  (w5 : World), J w5 →
 (kDrew w5 fun w6 =>
 (kLdS w6 ⟨x_b, x_o + 3, none⟩ fun x_a3 x_l3 x_c3 =>
 (kLd w6 ⟨b, 3, none⟩ .i64 fun x2 =>
 ((0 ≤ x2 ∧ x2 ≤ ((x_l3 : Nat) : Int)) ∧ (kLdS w6 ⟨b, 4, none⟩ fun x_a4 x_l4 x_c4 =>
 (CopyP Tryz.prog #[Ty_S_uint8, Ty_S_uint8] Ty_int #[(.slice (slAddr x_c3 (x2.toNat) 1 x_a3) (x_l3 - x2.toNat) (x_c3 - x2.toNat)), (.slice x_a4 x_l4 x_c4)] w6 fun _ w7 =>
 (kDrew w7 fun w8 =>
 (∃ S : Nat → Prop,
 (S x_b ∧
 (kLdS w8 ⟨x_b, x_o + 4, none⟩ fun x_a5 x_l5 x_c5 =>
 (kLd w8 ⟨b, 0, none⟩ .i64 fun x3 =>
 (kLd w8 ⟨b, 3, none⟩ .i64 fun x4 =>
 (kLd w8 ⟨b, 5, none⟩ .i64 fun x5 =>
 (KeepsB S w8 w8 ∧ (CP N_segment_Union #[(.slice x_a5 x_l5 x_c5), (.agg #[Iv x3, Iv x4, Iv x5])] w8 fun e_ w9 =>
 ∃ r_a : OA, ∃ r_l r_c : Nat, ∃ r : Int, e_ = .returned (.tuple #[(.slice r_a r_l r_c), (Iv r)]) ∧
 (kSet w9 ⟨x_b, x_o + 4, none⟩ (.slice r_a r_l r_c) fun w10 =>
 (kLdB w10 ⟨b, 6, none⟩ fun x6 =>
 (bsplit x6
 ((kLd w10 ⟨b, 5, none⟩ .i64 fun x7 =>
 (kSet w10 ⟨x_b, x_o + 2, none⟩ (Iv x7) fun w11 =>
 R (.tuple #[]) w11)))
 (R (.tuple #[]) w10)))))))))))))))))))) ∧
 (kDrew w1 fun w2 =>
 (kLd w2 ⟨b, 5, none⟩ .i64 fun x =>
 (kLdS w2 ⟨x_b, x_o + 3, none⟩ fun _ x_l _ =>
 (kW .i64 (x - (x_l : Int)) fun x1 =>
 (bsplit (decide (x1 > (0 : Int)))
 ((kLdS w2 ⟨x_b, x_o + 3, none⟩ fun x_a1 x_l1 x_c1 =>
 (AppP Tryz.prog #[Ty_S_uint8, Ty_int] Ty_S_uint8 #[(.slice x_a1 x_l1 x_c1), (Iv x1)] w2 fun x_a2 x_l2 x_c2 w3 =>
 (kSet w3 ⟨x_b, x_o + 3, none⟩ (.slice x_a2 x_l2 x_c2) fun w4 =>
 J w4))))
 (J w2))))))))
theorem F_receiver_piece_put_eq (p_0 p_1 p_2 p_3 : Int) (p_4_a : Option Addr) (p_4_l p_4_c : Nat) (p_5 : Int) (p_6 : Bool) (x_b x_o : Nat) (w : World) (R : Value → World → Prop) : sxFn Tryz.prog TT h_receiver_piece_put Tryz.f53 #[(.agg #[.int .i64 p_0, .int .i64 p_1, .int .i64 p_2, .int .i64 p_3, .slice p_4_a p_4_l p_4_c, .int .i64 p_5, .bool p_6]), (.pointer (some ⟨x_b, x_o, none⟩))] w R = F_receiver_piece_put p_0 p_1 p_2 p_3 p_4_a p_4_l p_4_c p_5 p_6 x_b x_o w R := by kernel_rfl
theorem F_receiver_piece_put_ok {R : Ending → World → Prop} (p_0 p_1 p_2 p_3 : Int) (p_4_a : Option Addr) (p_4_l p_4_c : Nat) (p_5 : Int) (p_6 : Bool) (x_b x_o : Nat) (w : World) (h : F_receiver_piece_put p_0 p_1 p_2 p_3 p_4_a p_4_l p_4_c p_5 p_6 x_b x_o w fun v w' => R (.returned v) w') : Calls Tryz.prog N_receiver_piece_put #[(.agg #[.int .i64 p_0, .int .i64 p_1, .int .i64 p_2, .int .i64 p_3, .slice p_4_a p_4_l p_4_c, .int .i64 p_5, .bool p_6]), (.pointer (some ⟨x_b, x_o, none⟩))] w R :=
 calls_of (f := 53) follows_ok Tryz.func53 (Eq.mpr (F_receiver_piece_put_eq p_0 p_1 p_2 p_3 p_4_a p_4_l p_4_c p_5 p_6 x_b x_o w _) h)

def h_receiver_complete : H := (.seq .reg (.seq (.draw .no (.one 0 .stable (.one 1 .stable (.one 2 .stable (.one 3 .stable (.one 4 .stable (.one 5 .stable (.one 6 .stable (.one 7 .stable (.one 8 .stable (.one 9 .stable (.one 10 .stable (.one 11 .stable (.one 12 .stable (.one 13 .stable (.one 14 .stable (.one 15 .stable (.one 16 .stable (.one 17 .stable (.one 18 .stable (.one 19 .stable (.one 20 .stable (.one 21 .stable (.one 22 .stable (.one 23 .stable (.one 24 .stable (.one 25 .stable (.one 26 .stable (.one 27 .stable .nil))))))))))))))))))))))))))))) .leaf))
def F_receiver_complete (p_0 : Int) (p_1 : Bool) (p_2 : Int) (p_3_a : OA) (p_3_l p_3_c : Nat) (p_4_a : OA) (p_4_l p_4_c : Nat) (w : World) (R : Value → WP) : Prop :=
 (kAlloc w #[(Iv p_0), (.bool p_1), (Iv p_2), (.slice p_3_a p_3_l p_3_c), (.slice p_4_a p_4_l p_4_c)] Ty_api_Partial fun b w1 =>
 (kDrew w1 fun w2 =>
 (kLd w2 ⟨b, 2, none⟩ .i64 fun x =>
 (bsplit (decide (x > (0 : Int)))
 ((kLdS w2 ⟨b, 4, none⟩ fun _ x_l _ =>
 (bsplit (decide ((x_l : Int) = (1 : Int)))
 ((kLdS w2 ⟨b, 4, none⟩ fun x_a1 x_l1 _ =>
 (kIx x_a1 x_l1 (0 : Int) fun b1 =>
 (kLd w2 ((b1.add ((0 : Int).toNat * 3)).add 1) .i64 fun x1 =>
 (bsplit (decide (x1 = (0 : Int)))
 ((kLdS w2 ⟨b, 4, none⟩ fun x_a2 x_l2 _ =>
 (kIx x_a2 x_l2 (0 : Int) fun b2 =>
 (kLd w2 ((b2.add ((0 : Int).toNat * 3)).add 2) .i64 fun x2 =>
 (kLd w2 ⟨b, 2, none⟩ .i64 fun x3 =>
 (kLet (decide (x2 = x3)) fun x4 =>
 R (.bool x4) w2))))))
 (R (.bool false) w2))))))
 (R (.bool false) w2))))
 (R (.bool false) w2)))))
theorem F_receiver_complete_eq (p_0 : Int) (p_1 : Bool) (p_2 : Int) (p_3_a : Option Addr) (p_3_l p_3_c : Nat) (p_4_a : Option Addr) (p_4_l p_4_c : Nat) (w : World) (R : Value → World → Prop) : sxFn Tryz.prog TT h_receiver_complete Tryz.f54 #[(.agg #[.int .i64 p_0, .bool p_1, .int .i64 p_2, .slice p_3_a p_3_l p_3_c, .slice p_4_a p_4_l p_4_c])] w R = F_receiver_complete p_0 p_1 p_2 p_3_a p_3_l p_3_c p_4_a p_4_l p_4_c w R := by kernel_rfl
theorem F_receiver_complete_ok {R : Ending → World → Prop} (p_0 : Int) (p_1 : Bool) (p_2 : Int) (p_3_a : Option Addr) (p_3_l p_3_c : Nat) (p_4_a : Option Addr) (p_4_l p_4_c : Nat) (w : World) (h : F_receiver_complete p_0 p_1 p_2 p_3_a p_3_l p_3_c p_4_a p_4_l p_4_c w fun v w' => R (.returned v) w') : Calls Tryz.prog N_receiver_complete #[(.agg #[.int .i64 p_0, .bool p_1, .int .i64 p_2, .slice p_3_a p_3_l p_3_c, .slice p_4_a p_4_l p_4_c])] w R :=
 calls_of (f := 54) follows_ok Tryz.func54 (Eq.mpr (F_receiver_complete_eq p_0 p_1 p_2 p_3_a p_3_l p_3_c p_4_a p_4_l p_4_c w _) h)

def h_receiver_side_advance : H := (.cut [] [2, 3, 4, 5, 6, 7, 8, 9, 10, 11, 12, 13, 14, 15, 16, 17, 18, 19, 20, 21, 22, 23, 24, 25, 26, 27, 28, 29, 30, 31, 32, 33, 34, 35, 36, 37, 38, 39, 40, 41, 42, 43, 44, 45, 46, 47, 48, 49, 50, 51, 52, 53, 54, 55] (.block (.loopG [] [2, 3, 4, 5, 6, 7, 8, 9, 10, 11, 12, 13, 14, 15, 16, 17, 18, 19, 20, 21, 22, 23, 24, 25, 26, 27, 28, 29, 30, 31, 32, 33, 34, 35, 36, 37, 38, 39, 40, 41, 42, 43, 44, 45, 46, 47, 48, 49, 50, 51, 52, 53, 54, 55] (.cut [] [2, 3, 4, 5, 6, 7, 8, 9, 10, 11, 12, 13, 14, 15, 16, 17, 18, 19, 20, 21, 22, 23, 24, 25, 26, 27, 28, 29, 30, 31, 32, 33, 34] (.seq (.draw .no (.one 0 .stable (.one 1 .stable (.one 2 .stable (.one 3 .stable (.one 4 .stable (.one 5 .stable (.one 6 .stable (.one 7 .stable (.one 8 .stable (.one 9 .stable (.one 10 .stable (.one 11 .stable (.one 12 .stable (.one 13 .stable (.one 14 .stable (.one 15 .stable (.one 16 .stable (.one 17 .stable (.one 18 .stable (.one 19 .stable (.one 20 .stable (.one 21 .stable (.one 22 .stable (.one 23 .stable (.one 24 .stable (.one 25 .stable (.one 26 .stable (.one 27 .stable (.one 28 .stable (.one 29 .stable (.one 30 .stable (.one 31 .stable (.one 32 .stable .nil)))))))))))))))))))))))))))))))))) (.cond .leaf .leaf)) (.block (.seq .reg .reg))))) (.seq (.draw .blk (.one 0 .pre (.one 1 .pre (.one 2 .pre (.one 3 .pre (.one 4 .pre (.one 5 .pre (.one 7 .stable (.one 8 .stable (.one 9 .stable (.one 10 .stable (.one 11 .stable (.one 12 .stable (.one 6 .keep (.one 13 .keep (.one 14 .stable .nil)))))))))))))))) (.cond .reg .leaf)))
def F_receiver_side_advance (s_b s_o : Nat) (w : World) (R : Value → WP) : Prop :=
 (∃ J : WP,
 (∀ (_ : Env)  (w7 : World), J w7 →
 (kDrew w7 fun w8 =>
 (∃ S : Nat → Prop,
 (kLd w8 ⟨s_b, s_o + 8, none⟩ .i64 fun x4 =>
 (S s_b ∧
 (kLd w8 ⟨s_b, s_o + 7, none⟩ .i64 fun x5 =>
 (CP N_receiver_side_place #[(.pointer (some ⟨s_b, s_o, none⟩)), (Iv x4)] w8 fun e_1 w9 =>
 ∃ r1 : Int, e_1 = .returned (Iv r1) ∧
 (KeepsB S w8 w9 ∧ (CP N_receiver_side_place #[(.pointer (some ⟨s_b, s_o, none⟩)), (Iv x5)] w9 fun e_2 w10 =>
 ∃ r2 : Int, e_2 = .returned (Iv r2) ∧
 (KeepsB S w8 w10 ∧ (bsplit (decide (r1 > r2))
 ((kLd w10 ⟨s_b, s_o + 6, none⟩ .i64 fun x6 =>
 (kSet w10 ⟨s_b, s_o + 8, none⟩ (Iv x6) fun w11 =>
 R (.tuple #[]) w11)))
 (R (.tuple #[]) w10)))))))))))) ∧
 (∃ I : Nat → WP, (∃ m' : Nat, I m' w) ∧
 (∀ (_ : Env)  (m : Nat) (w1 : World), I m w1 →
 (∃ J1 : WP,
 (∀ (_ : Env)  (w3 : World), J1 w3 →
 (kLdS w3 ⟨s_b, s_o + 13, none⟩ fun x_a3 x_l3 x_c3 =>
 ((0 ≤ (1 : Int) ∧ (1 : Int) ≤ ((x_l3 : Nat) : Int)) ∧ (kSet w3 ⟨s_b, s_o + 13, none⟩ (.slice (slAddr x_c3 ((1 : Int).toNat) 5 x_a3) (x_l3 - (1 : Int).toNat) (x_c3 - (1 : Int).toNat)) fun w4 =>
 (kLd w4 ⟨s_b, s_o + 6, none⟩ .i64 fun x3 =>
 (CP N_receiver_side_behind #[(.pointer (some ⟨s_b, s_o, none⟩)), (Iv x3)] w4 fun e_ w5 =>
 ∃ r : Int, e_ = .returned (Iv r) ∧
 (kSet w5 ⟨s_b, s_o + 6, none⟩ (Iv r) fun w6 =>
 (∃ m' : Nat, m' < m ∧ I m' w6)))))))) ∧
 (kDrew w1 fun w2 =>
 (kLdS w2 ⟨s_b, s_o + 13, none⟩ fun _ x_l _ =>
 (bsplit (decide ((x_l : Int) > (0 : Int)))
 ((kLdS w2 ⟨s_b, s_o + 13, none⟩ fun x_a1 x_l1 _ =>
 (kIx x_a1 x_l1 (0 : Int) fun b =>
 (kLd w2 (b.add ((0 : Int).toNat * 5)) .i64 fun x =>
 (kLd w2 ⟨s_b, s_o + 6, none⟩ .i64 fun x1 =>
 (bsplit (decide (x = x1))
 ((kLdS w2 ⟨s_b, s_o + 13, none⟩ fun x_a2 x_l2 _ =>
 (kIx x_a2 x_l2 (0 : Int) fun b1 =>
 (kLdB w2 ((b1.add ((0 : Int).toNat * 5)).add 1) fun x2 =>
 (bsplit x2
 (J1 w2)
 (J w2))))))
 (J w2)))))))
 (J w2))))))))
theorem F_receiver_side_advance_eq (s_b s_o : Nat) (w : World) (R : Value → World → Prop) : sxFn Tryz.prog TT h_receiver_side_advance Tryz.f55 #[(.pointer (some ⟨s_b, s_o, none⟩))] w R = F_receiver_side_advance s_b s_o w R := by kernel_rfl
theorem F_receiver_side_advance_ok {R : Ending → World → Prop} (s_b s_o : Nat) (w : World) (h : F_receiver_side_advance s_b s_o w fun v w' => R (.returned v) w') : Calls Tryz.prog N_receiver_side_advance #[(.pointer (some ⟨s_b, s_o, none⟩))] w R :=
 calls_of (f := 55) follows_ok Tryz.func55 (Eq.mpr (F_receiver_side_advance_eq s_b s_o w _) h)

def h_receiver_side_start : H := (.cut [] [2, 3, 4, 5, 6, 7, 8, 9, 10, 11, 12, 13, 14, 15, 16, 17, 18, 19, 20, 21, 22, 23, 24, 25, 26, 27, 28, 29, 30, 31, 32, 33, 34, 35, 36, 37, 38, 39, 40, 41, 42] (.cut [(34, .p .bool)] [2, 3, 4, 5, 6, 7, 8, 9, 10, 11, 12, 13, 14, 15, 16, 17, 18, 19, 20, 21, 22, 23, 24, 25, 26, 27, 28, 29, 30, 31, 32, 33, 34] (.draw .blk (.one 0 .pre (.one 1 .pre (.one 2 .pre (.one 3 .pre (.one 4 .pre (.one 5 .pre (.one 6 .pre (.one 7 .pre (.one 8 .pre (.one 9 .pre (.one 10 .pre (.one 11 .pre (.one 12 .pre (.one 13 .keep (.one 14 .stable (.one 15 .stable (.one 16 .stable (.one 17 .stable (.one 18 .stable (.one 19 .stable (.one 20 .stable (.one 21 .stable (.one 23 .stable (.one 24 .stable (.one 25 .stable (.one 26 .stable (.one 27 .stable (.one 28 .stable (.one 22 .keep (.one 29 .keep (.one 30 .stable (.one 31 .stable (.one 32 .stable .nil)))))))))))))))))))))))))))))))))) (.cond .reg .leaf)) (.cut [(61, .p .bool)] [43, 44, 45, 46, 47, 48, 49, 50, 51, 52, 53, 54, 55, 56, 57, 58, 59, 60, 61] (.draw .no (.one 0 .stable (.one 1 .stable (.one 2 .stable (.one 3 .stable (.one 4 .stable (.one 5 .stable (.one 6 .stable (.one 7 .stable (.one 8 .stable (.one 9 .stable (.one 10 .stable (.one 11 .stable (.one 12 .stable (.one 13 .stable (.one 14 .stable (.one 15 .stable (.one 16 .stable (.one 17 .stable (.one 18 .stable .nil)))))))))))))))))))) (.cond (.draw .blk (.one 0 .pre (.one 1 .stable (.one 2 .pre (.one 3 .pre (.one 4 .pre (.one 5 .pre (.one 6 .pre (.one 7 .pre (.one 8 .pre (.one 9 .pre (.one 10 .pre (.one 11 .pre (.one 12 .pre (.one 13 .pre (.one 14 .pre (.one 15 .pre (.one 16 .keep (.one 17 .stable (.one 18 .stable (.one 19 .stable (.one 20 .last .nil)))))))))))))))))))))) .leaf)))
def F_receiver_side_start (s_b s_o : Nat) (w : World) (R : Value → WP) : Prop :=
 (∃ J : WP,
 (∀ (_ : Env)  (w8 : World), J w8 →
 (∃ J2 : Bool → WP,
 (∀ (_ : Env) (x8 : Bool) (w10 : World), J2 x8 w10 →
 (bsplit x8
 ((kDrew w10 fun w11 =>
 (∃ S1 : Nat → Prop,
 (kLd w11 ⟨s_b, s_o + 7, none⟩ .i64 fun x9 =>
 (kLd w11 ⟨s_b, s_o + 3, none⟩ .i64 fun x10 =>
 (kSet w11 ⟨s_b, s_o + 9, none⟩ (Iv x9) fun w12 =>
 (KeepsB S1 w11 w12 ∧ (kSet w12 ⟨s_b, s_o + 10, none⟩ (Iv x10) fun w13 =>
 R (.tuple #[]) w13))))))))
 (R (.tuple #[]) w10))) ∧
 (kDrew w8 fun w9 =>
 (kLd w9 ⟨s_b, s_o + 9, none⟩ .i64 fun x5 =>
 (bsplit (decide (x5 = (-1 : Int)))
 ((kLd w9 ⟨s_b, s_o + 6, none⟩ .i64 fun x6 =>
 (kLd w9 ⟨s_b, s_o + 7, none⟩ .i64 fun x7 =>
 J2 (!decide (x6 = x7)) w9)))
 (J2 false w9)))))) ∧
 (∃ J1 : Bool → WP,
 (∀ (_ : Env) (x4 : Bool) (w5 : World), J1 x4 w5 →
 (bsplit x4
 ((kSet w5 ⟨s_b, s_o + 9, none⟩ (Iv (-1 : Int)) fun w6 =>
 (kSet w6 ⟨s_b, s_o + 10, none⟩ (Iv (0 : Int)) fun w7 =>
 J w7)))
 (J w5))) ∧
 (kDrew w fun w1 =>
 (∃ S : Nat → Prop,
 (kLd w1 ⟨s_b, s_o + 9, none⟩ .i64 fun x =>
 (bsplit (!decide (x = (-1 : Int)))
 ((kLd w1 ⟨s_b, s_o + 9, none⟩ .i64 fun x1 =>
 (CP N_receiver_side_place #[(.pointer (some ⟨s_b, s_o, none⟩)), (Iv x1)] w1 fun e_ w2 =>
 ∃ r : Int, e_ = .returned (Iv r) ∧
 (KeepsB S w1 w2 ∧ (bsplit (decide (r = (0 : Int)))
 (J1 true w2)
 ((S s_b ∧
 (kLd w1 ⟨s_b, s_o + 9, none⟩ .i64 fun x2 =>
 (S s_b ∧
 (kLd w1 ⟨s_b, s_o + 7, none⟩ .i64 fun x3 =>
 (CP N_receiver_side_place #[(.pointer (some ⟨s_b, s_o, none⟩)), (Iv x2)] w2 fun e_1 w3 =>
 ∃ r1 : Int, e_1 = .returned (Iv r1) ∧
 (KeepsB S w1 w3 ∧ (CP N_receiver_side_place #[(.pointer (some ⟨s_b, s_o, none⟩)), (Iv x3)] w3 fun e_2 w4 =>
 ∃ r2 : Int, e_2 = .returned (Iv r2) ∧
 (KeepsB S w1 w4 ∧ J1 (decide (r1 > r2)) w4))))))))))))))
 (J1 false w1)))))))
theorem F_receiver_side_start_eq (s_b s_o : Nat) (w : World) (R : Value → World → Prop) : sxFn Tryz.prog TT h_receiver_side_start Tryz.f56 #[(.pointer (some ⟨s_b, s_o, none⟩))] w R = F_receiver_side_start s_b s_o w R := by kernel_rfl
theorem F_receiver_side_start_ok {R : Ending → World → Prop} (s_b s_o : Nat) (w : World) (h : F_receiver_side_start s_b s_o w fun v w' => R (.returned v) w') : Calls Tryz.prog N_receiver_side_start #[(.pointer (some ⟨s_b, s_o, none⟩))] w R :=
 calls_of (f := 56) follows_ok Tryz.func56 (Eq.mpr (F_receiver_side_start_eq s_b s_o w _) h)

def h_status_Fit : H := (.seq .reg (.seq (.block (.seq .reg (.cond (.seq .reg .leaf) (.seq .reg (.cond (.seq .reg .leaf) .leaf))))) (.seq .reg (.seq .reg (.seq (.seq .reg (.block (.loop [(8, .p (.int .i64)), (9, .p (.int .i64)), (29, .p (.int .i64))] [7, 8, 9, 10, 11, 29, 30, 31, 32, 33, 34, 35, 36, 37, 38, 39, 40, 41, 42, 43, 44, 45, 46, 47, 48, 49, 50, 51, 52, 53, 54, 55, 56, 57, 58, 59, 60, 61, 62, 63, 64, 65] (.seq .reg (.seq (.cond .leaf .leaf) (.seq (.block (.seq .reg (.cut [(9, .p (.int .i64))] [9, 34, 35, 36, 37, 38, 39, 40, 41, 42, 43, 44, 45, 46, 47, 48] (.seq (.draw .no (.one 0 .stable (.one 1 .stable (.one 2 .stable (.one 3 .stable (.one 4 .stable (.one 5 .stable (.one 6 .stable (.one 7 .stable (.one 8 .stable (.one 9 .stable (.one 10 .stable (.one 11 .stable (.one 12 .stable (.one 13 .stable .nil))))))))))))))) (.cond .reg .leaf)) (.seq .reg (.seq .reg (.cond (.seq (.draw .blk (.one 0 .pre (.one 1 .pre (.one 2 .pre (.one 3 .pre (.one 4 .stable (.one 5 .stable (.one 6 .pre (.one 7 .keep (.one 8 .stable (.one 9 .last .nil))))))))))) (.seq .reg .leaf)) .leaf)))))) .reg)))))) (.seq .reg .leaf))))))
def F_status_Fit (bits s_0 : Int) (s_1_a : OA) (s_1_l s_1_c : Nat) (space : Int) (w : World) (R : Value → WP) : Prop :=
 (kAlloc w #[(Iv s_0), (.slice s_1_a s_1_l s_1_c)] Ty_api_Status fun b w1 =>
 (kAlloc w1 #[Iv (0 : Int), .slice none 0 0] Ty_api_Status fun b1 w2 =>
 (∃ x_0 : Int, ∃ x_1_a : OA, ∃ x_1_l x_1_c : Nat, cellsAt w2 ⟨b, 0, none⟩ 0 [(Iv x_0), (.slice x_1_a x_1_l x_1_c)] ∧
 (CP N_status_Valid #[(Iv bits), (.agg #[Iv x_0, .slice x_1_a x_1_l x_1_c])] w2 fun e_ w3 =>
 ∃ r : Bool, e_ = .returned (.bool r) ∧
 (bsplit (!r)
 ((sxStore w3 ⟨b1, 0, none⟩ 0 [(Iv (0 : Int)), (.slice none 0 0)] fun w4 =>
 (∃ r_0 : Int, ∃ r_1_a : OA, ∃ r_1_l r_1_c : Nat, cellsAt w4 ⟨b1, 0, none⟩ 0 [(Iv r_0), (.slice r_1_a r_1_l r_1_c)] ∧
 R (.tuple #[(.agg #[Iv r_0, .slice r_1_a r_1_l r_1_c]), (Iv (1 : Int))]) w4)))
 ((kLet (decide (space < (3 : Int))) fun x =>
 (bsplit x
 ((sxStore w3 ⟨b1, 0, none⟩ 0 [(Iv (0 : Int)), (.slice none 0 0)] fun w5 =>
 (∃ r_01 : Int, ∃ r_1_a1 : OA, ∃ r_1_l1 r_1_c1 : Nat, cellsAt w5 ⟨b1, 0, none⟩ 0 [(Iv r_01), (.slice r_1_a1 r_1_l1 r_1_c1)] ∧
 R (.tuple #[(.agg #[Iv r_01, .slice r_1_a1 r_1_l1 r_1_c1]), (Iv (15 : Int))]) w5)))
 ((kLdS w3 ⟨b, 1, none⟩ fun x_a x_l x_c =>
 (CP N_slices_Clone_Sapi_Range_api_Range #[(.slice x_a x_l x_c)] w3 fun e_1 w6 =>
 ∃ r_a : OA, ∃ r_l r_c : Nat, e_1 = .returned (.slice r_a r_l r_c) ∧
 (kSet w6 ⟨b, 1, none⟩ (.slice r_a r_l r_c) fun w7 =>
 (kLdS w7 ⟨b, 1, none⟩ fun x_a1 x_l1 _ =>
 (∃ I : Int → Int → Int → Nat × (WP), (I (3 : Int) (0 : Int) (0 : Int)).2 w7 ∧
 (∀ (_ : Env) (used : Int) (unit : Int) (x1 : Int) (w8 : World), (I used unit x1).2 w8 →
 (bsplit (decide (x1 < (x_l1 : Int)))
 ((kIx x_a1 x_l1 x1 fun b2 =>
 (∃ x_01 x_1 x_2 : Int, cellsAt w8 (b2.add (x1.toNat * 3)) 0 [(Iv x_01), (Iv x_1), (Iv x_2)] ∧
 (kAlloc w8 #[Iv (0 : Int), Iv (0 : Int), Iv (0 : Int)] Ty_api_Range fun b3 w9 =>
 (sxStore w9 ⟨b3, 0, none⟩ 0 [(Iv x_01), (Iv x_1), (Iv x_2)] fun w10 =>
 (∃ J : Int → WP,
 (∀ (_ : Env) (unit1 : Int) (w12 : World), J unit1 w12 →
 (∃ x_02 x_11 x_21 : Int, cellsAt w12 ⟨b3, 0, none⟩ 0 [(Iv x_02), (Iv x_11), (Iv x_21)] ∧
 (CP N_status_size #[(.agg #[Iv x_02, Iv x_11, Iv x_21])] w12 fun e_2 w13 =>
 ∃ r1 : Int, e_2 = .returned (Iv r1) ∧
 (kW .i64 (used + r1) fun x5 =>
 (bsplit (decide (x5 > space))
 ((kDrew w13 fun w14 =>
 (∃ S : Nat → Prop,
 (kLd w14 ⟨b3, 0, none⟩ .i64 fun x6 =>
 (kLdS w14 ⟨b, 1, none⟩ fun x_a3 _ x_c3 =>
 ((0 ≤ unit1 ∧ unit1 ≤ ((x_c3 : Nat) : Int)) ∧ (kSet w14 ⟨b, 0, none⟩ (Iv x6) fun w15 =>
 (KeepsB S w14 w15 ∧ (kSet w15 ⟨b, 1, none⟩ (.slice (slAddr x_c3 0 3 x_a3) (unit1.toNat - 0) (x_c3 - 0)) fun w16 =>
 (∃ x_03 : Int, ∃ x_1_a1 : OA, ∃ x_1_l1 x_1_c1 : Nat, cellsAt w16 ⟨b, 0, none⟩ 0 [(Iv x_03), (.slice x_1_a1 x_1_l1 x_1_c1)] ∧
 (sxStore w16 ⟨b1, 0, none⟩ 0 [(Iv x_03), (.slice x_1_a1 x_1_l1 x_1_c1)] fun w17 =>
 (∃ r_02 : Int, ∃ r_1_a2 : OA, ∃ r_1_l2 r_1_c2 : Nat, cellsAt w17 ⟨b1, 0, none⟩ 0 [(Iv r_02), (.slice r_1_a2 r_1_l2 r_1_c2)] ∧
 R (.tuple #[(.agg #[Iv r_02, .slice r_1_a2 r_1_l2 r_1_c2]), (Iv (0 : Int))]) w17))))))))))))
 ((kW .i64 (x1 + (1 : Int)) fun x7 =>
 ((I x5 unit1 x7).2 w13 ∧ (I x5 unit1 x7).1 < (I used unit x1).1)))))))) ∧
 (kDrew w10 fun w11 =>
 (bsplit (decide (x1 > (0 : Int)))
 ((kLd w11 ⟨b3, 0, none⟩ .i64 fun x2 =>
 (kLdS w11 ⟨b, 1, none⟩ fun x_a2 x_l2 _ =>
 (kW .i64 (x1 - (1 : Int)) fun x3 =>
 (kIx x_a2 x_l2 x3 fun b4 =>
 (kLd w11 (b4.add (x3.toNat * 3)) .i64 fun x4 =>
 (bsplit (!decide (x2 = x4))
 (J x1 w11)
 (J unit w11))))))))
 (J unit w11)))))))))
 ((∃ x_04 : Int, ∃ x_1_a2 : OA, ∃ x_1_l2 x_1_c2 : Nat, cellsAt w8 ⟨b, 0, none⟩ 0 [(Iv x_04), (.slice x_1_a2 x_1_l2 x_1_c2)] ∧
 (sxStore w8 ⟨b1, 0, none⟩ 0 [(Iv x_04), (.slice x_1_a2 x_1_l2 x_1_c2)] fun w18 =>
 (∃ r_03 : Int, ∃ r_1_a3 : OA, ∃ r_1_l3 r_1_c3 : Nat, cellsAt w18 ⟨b1, 0, none⟩ 0 [(Iv r_03), (.slice r_1_a3 r_1_l3 r_1_c3)] ∧
 R (.tuple #[(.agg #[Iv r_03, .slice r_1_a3 r_1_l3 r_1_c3]), (Iv (0 : Int))]) w18))))))))))))))))))))
theorem F_status_Fit_eq (bits s_0 : Int) (s_1_a : Option Addr) (s_1_l s_1_c : Nat) (space : Int) (w : World) (R : Value → World → Prop) : sxFn Tryz.prog TT h_status_Fit Tryz.f57 #[(.int .i64 bits), (.agg #[.int .i64 s_0, .slice s_1_a s_1_l s_1_c]), (.int .i64 space)] w R = F_status_Fit bits s_0 s_1_a s_1_l s_1_c space w R := by kernel_rfl
theorem F_status_Fit_ok {R : Ending → World → Prop} (bits s_0 : Int) (s_1_a : Option Addr) (s_1_l s_1_c : Nat) (space : Int) (w : World) (h : F_status_Fit bits s_0 s_1_a s_1_l s_1_c space w fun v w' => R (.returned v) w') : Calls Tryz.prog N_status_Fit #[(.int .i64 bits), (.agg #[.int .i64 s_0, .slice s_1_a s_1_l s_1_c]), (.int .i64 space)] w R :=
 calls_of (f := 57) follows_ok Tryz.func57 (Eq.mpr (F_status_Fit_eq bits s_0 s_1_a s_1_l s_1_c space w _) h)

def h_status_Encode : H := (.seq .reg (.seq (.seq .reg (.cond (.seq .reg .leaf) .leaf)) (.seq .reg (.seq (.seq .reg (.block (.loop [(6, .p .slice), (28, .p (.int .i64))] [6, 8, 28, 29, 30, 31, 32, 33, 34, 35, 36, 37, 38, 39, 40, 41, 42, 43, 44, 45, 46, 47, 48, 49, 50, 51, 52, 53, 54, 55, 56, 57, 58, 59, 60, 61, 62, 63, 64, 65, 66, 67, 68, 69, 70, 71] (.seq .reg (.seq (.cond .leaf .leaf) (.seq (.block (.seq .reg (.seq .reg (.seq .reg (.cond (.seq .reg .reg) .leaf))))) .reg)))))) (.seq .reg .leaf)))))
def F_status_Encode (bits s_0 : Int) (s_1_a : OA) (s_1_l s_1_c : Nat) (w : World) (R : Value → WP) : Prop :=
 (kAlloc w #[(Iv s_0), (.slice s_1_a s_1_l s_1_c)] Ty_api_Status fun b w1 =>
 (∃ x_0 : Int, ∃ x_1_a : OA, ∃ x_1_l x_1_c : Nat, cellsAt w1 ⟨b, 0, none⟩ 0 [(Iv x_0), (.slice x_1_a x_1_l x_1_c)] ∧
 (CP N_status_Valid #[(Iv bits), (.agg #[Iv x_0, .slice x_1_a x_1_l x_1_c])] w1 fun e_ w2 =>
 ∃ r : Bool, e_ = .returned (.bool r) ∧
 (bsplit (!r)
 (R (.tuple #[(.slice none 0 0), (Iv (1 : Int))]) w2)
 ((kLd w2 ⟨b, 0, none⟩ .i64 fun x =>
 (kLet (Int.fdiv x (2 ^ 8)) fun x1 =>
 (kW .u8 (x1) fun x2 =>
 (kLd w2 ⟨b, 0, none⟩ .i64 fun x3 =>
 (kW .u8 (x3) fun x4 =>
 (kLdS w2 ⟨b, 1, none⟩ fun _ x_l _ =>
 (kW .u8 ((x_l : Int)) fun x5 =>
 (kAlloc w2 #[(.int .u8 x2), (.int .u8 x4), (.int .u8 x5)] Ty_uint8 fun b1 w3 =>
 (kLdS w3 ⟨b, 1, none⟩ fun x_a1 x_l1 _ =>
 (∃ I : OA → Nat → Nat → Int → Nat × (WP), (I (some ⟨b1, 0, none⟩) 3 3 (0 : Int)).2 w3 ∧
 (∀ (_ : Env) (b_a : OA) (b_l : Nat) (b_c : Nat) (x6 : Int) (w4 : World), (I b_a b_l b_c x6).2 w4 →
 (bsplit (decide (x6 < (x_l1 : Int)))
 ((kIx x_a1 x_l1 x6 fun b2 =>
 (∃ x_01 x_1 x_2 : Int, cellsAt w4 (b2.add (x6.toNat * 3)) 0 [(Iv x_01), (Iv x_1), (Iv x_2)] ∧
 (kAlloc w4 #[Iv (0 : Int), Iv (0 : Int), Iv (0 : Int)] Ty_api_Range fun b3 w5 =>
 (sxStore w5 ⟨b3, 0, none⟩ 0 [(Iv x_01), (Iv x_1), (Iv x_2)] fun w6 =>
 (kLd w6 ⟨b3, 0, none⟩ .i64 fun x7 =>
 (kLet (Int.fdiv x7 (2 ^ 4)) fun x8 =>
 (kW .u8 (x8) fun x9 =>
 (kLd w6 ⟨b3, 0, none⟩ .i64 fun x10 =>
 (kW .i64 (x10 * 2 ^ 4) fun x11 =>
 (kW .u8 (x11) fun x12 =>
 (kAlloc w6 #[(.int .u8 x9), (.int .u8 x12)] Ty_uint8 fun b4 w7 =>
 (AppP Tryz.prog #[Ty_S_uint8, Ty_S_uint8] Ty_S_uint8 #[(.slice b_a b_l b_c), (.slice (some ⟨b4, 0, none⟩) 2 2)] w7 fun x_a2 x_l2 x_c2 w8 =>
 (∃ x_02 x_11 x_21 : Int, cellsAt w8 ⟨b3, 0, none⟩ 0 [(Iv x_02), (Iv x_11), (Iv x_21)] ∧
 (CP N_status_Whole #[(.agg #[Iv x_02, Iv x_11, Iv x_21])] w8 fun e_1 w9 =>
 ∃ r1 : Bool, e_1 = .returned (.bool r1) ∧
 (bsplit (!r1)
 ((kW .i64 ((x_l2 : Int) - (1 : Int)) fun x13 =>
 (kIx x_a2 x_l2 x13 fun b5 =>
 (kLd w9 (b5.add (x13.toNat * 1)) .u8 fun x14 =>
 (kLet (bOr .u8 x14 (1 : Int)) fun x15 =>
 (kIx x_a2 x_l2 x13 fun b6 =>
 (kSet w9 (b6.add (x13.toNat * 1)) (.int .u8 x15) fun w10 =>
 (kLd w10 ⟨b3, 1, none⟩ .i64 fun x16 =>
 (kLet (Int.fdiv x16 (2 ^ 8)) fun x17 =>
 (kW .u8 (x17) fun x18 =>
 (kLd w10 ⟨b3, 1, none⟩ .i64 fun x19 =>
 (kW .u8 (x19) fun x20 =>
 (kLd w10 ⟨b3, 2, none⟩ .i64 fun x21 =>
 (kLet (Int.fdiv x21 (2 ^ 8)) fun x22 =>
 (kW .u8 (x22) fun x23 =>
 (kLd w10 ⟨b3, 2, none⟩ .i64 fun x24 =>
 (kW .u8 (x24) fun x25 =>
 (kAlloc w10 #[(.int .u8 x18), (.int .u8 x20), (.int .u8 x23), (.int .u8 x25)] Ty_uint8 fun b7 w11 =>
 (AppP Tryz.prog #[Ty_S_uint8, Ty_S_uint8] Ty_S_uint8 #[(.slice x_a2 x_l2 x_c2), (.slice (some ⟨b7, 0, none⟩) 4 4)] w11 fun x_a3 x_l3 x_c3 w12 =>
 (kW .i64 (x6 + (1 : Int)) fun x26 =>
 ((I x_a3 x_l3 x_c3 x26).2 w12 ∧ (I x_a3 x_l3 x_c3 x26).1 < (I b_a b_l b_c x6).1)))))))))))))))))))))
 ((kW .i64 (x6 + (1 : Int)) fun x27 =>
 ((I x_a2 x_l2 x_c2 x27).2 w9 ∧ (I x_a2 x_l2 x_c2 x27).1 < (I b_a b_l b_c x6).1)))))))))))))))))))
 (R (.tuple #[(.slice b_a b_l b_c), (Iv (0 : Int))]) w4))))))))))))))))))
theorem F_status_Encode_eq (bits s_0 : Int) (s_1_a : Option Addr) (s_1_l s_1_c : Nat) (w : World) (R : Value → World → Prop) : sxFn Tryz.prog TT h_status_Encode Tryz.f58 #[(.int .i64 bits), (.agg #[.int .i64 s_0, .slice s_1_a s_1_l s_1_c])] w R = F_status_Encode bits s_0 s_1_a s_1_l s_1_c w R := by kernel_rfl
theorem F_status_Encode_ok {R : Ending → World → Prop} (bits s_0 : Int) (s_1_a : Option Addr) (s_1_l s_1_c : Nat) (w : World) (h : F_status_Encode bits s_0 s_1_a s_1_l s_1_c w fun v w' => R (.returned v) w') : Calls Tryz.prog N_status_Encode #[(.int .i64 bits), (.agg #[.int .i64 s_0, .slice s_1_a s_1_l s_1_c])] w R :=
 calls_of (f := 58) follows_ok Tryz.func58 (Eq.mpr (F_status_Encode_eq bits s_0 s_1_a s_1_l s_1_c w _) h)

def h_ref15_Bits : H := (.seq .reg (.seq .reg .leaf))
def F_ref15_Bits (n : Int) (w : World) (R : Value → WP) : Prop :=
 (bsplit (decide (n ≥ (5 : Int)))
 ((kLet (decide (n ≤ (9 : Int))) fun x =>
 R (.bool x) w))
 (R (.bool false) w))
theorem F_ref15_Bits_eq (n : Int) (w : World) (R : Value → World → Prop) : sxFn Tryz.prog TT h_ref15_Bits Tryz.f59 #[(.int .i64 n)] w R = F_ref15_Bits n w R := by kernel_rfl
theorem F_ref15_Bits_ok {R : Ending → World → Prop} (n : Int) (w : World) (h : F_ref15_Bits n w fun v w' => R (.returned v) w') : Calls Tryz.prog N_ref15_Bits #[(.int .i64 n)] w R :=
 calls_of (f := 59) follows_ok Tryz.func59 (Eq.mpr (F_ref15_Bits_eq n w _) h)

def h_ref01_Get : H := (.seq .reg (.seq .reg (.seq (.seq .reg (.block (.loop [(7, .p (.int .i64)), (8, .p (.int .i64))] [7, 8, 9, 10, 11, 12, 13, 14, 15, 16, 17, 18, 19, 20, 21, 22, 23] (.seq (.seq .reg (.cond .leaf .leaf)) (.seq (.block .reg) .reg))))) (.seq .reg .leaf))))
def F_ref01_Get (b_a : OA) (b_l _ : Nat) (at1 bytes : Int) (w : World) (R : Value → WP) : Prop :=
 (∃ I : Int → Int → Nat × (WP), (I (0 : Int) (0 : Int)).2 w ∧
 (∀ (_ : Env) (v : Int) (i : Int) (w1 : World), (I v i).2 w1 →
 (bsplit (decide (i < bytes))
 ((kW .i64 ((256 : Int) * v) fun x =>
 (kW .i64 (at1 + i) fun x1 =>
 (kIx b_a b_l x1 fun b =>
 (kLd w1 (b.add (x1.toNat * 1)) .u8 fun x2 =>
 (kW .i64 (x2) fun x3 =>
 (kW .i64 (x + x3) fun x4 =>
 (kW .i64 (i + (1 : Int)) fun x5 =>
 ((I x4 x5).2 w1 ∧ (I x4 x5).1 < (I v i).1)))))))))
 (R (Iv v) w1))))
theorem F_ref01_Get_eq (b_a : Option Addr) (b_l b_c : Nat) (at1 bytes : Int) (w : World) (R : Value → World → Prop) : sxFn Tryz.prog TT h_ref01_Get Tryz.f60 #[(.slice b_a b_l b_c), (.int .i64 at1), (.int .i64 bytes)] w R = F_ref01_Get b_a b_l b_c at1 bytes w R := by kernel_rfl
theorem F_ref01_Get_ok {R : Ending → World → Prop} (b_a : Option Addr) (b_l b_c : Nat) (at1 bytes : Int) (w : World) (h : F_ref01_Get b_a b_l b_c at1 bytes w fun v w' => R (.returned v) w') : Calls Tryz.prog N_ref01_Get #[(.slice b_a b_l b_c), (.int .i64 at1), (.int .i64 bytes)] w R :=
 calls_of (f := 60) follows_ok Tryz.func60 (Eq.mpr (F_ref01_Get_eq b_a b_l b_c at1 bytes w _) h)

def h_ref19_Encode : H := (.seq .reg (.seq (.seq .reg (.cond (.seq .reg .leaf) .leaf)) (.cut [(6, .p .slice)] [6, 13, 14, 15, 16, 17, 18, 19, 20, 21] (.draw .blk (.one 0 .stable (.one 1 .stable (.one 3 .stable (.one 4 .stable (.one 5 .stable (.one 6 .stable (.alt 2 (.one 7 .keep (.one 8 .keep (.one 9 .stable .nil))) (.alt 7 (.one 2 .keep (.one 8 .keep (.one 9 .stable .nil))) .endAlt))))))))) (.seq (.seq .reg (.block (.loop [(6, .p .slice), (7, .p (.int .i64))] [6, 7, 8, 22, 23, 24, 25, 26, 27, 28, 29, 30, 31, 32, 33, 34, 35, 36, 37, 38, 39, 40, 41, 42, 43, 44, 45, 46, 47, 48, 49, 50, 51, 52, 53] (.seq (.seq .reg (.cond .leaf .leaf)) (.seq (.block (.seq .reg (.seq .reg (.cond .reg (.draw .blk (.one 0 .pre (.one 1 .pre (.one 2 .pre (.one 3 .pre (.one 4 .pre (.one 6 .stable (.one 7 .stable (.one 9 .stable (.one 10 .stable (.one 5 .keep (.one 8 .keep (.one 11 .keep (.one 12 .stable .nil)))))))))))))))))) .reg))))) (.seq .reg .leaf)))))
def F_ref19_Encode (bits s_0 : Int) (s_1_a : OA) (s_1_l s_1_c : Nat) (w : World) (R : Value → WP) : Prop :=
 (kAlloc w #[(Iv s_0), (.slice s_1_a s_1_l s_1_c)] Ty_api_Status fun b w1 =>
 (∃ x_0 : Int, ∃ x_1_a : OA, ∃ x_1_l x_1_c : Nat, cellsAt w1 ⟨b, 0, none⟩ 0 [(Iv x_0), (.slice x_1_a x_1_l x_1_c)] ∧
 (CP N_ref19_Valid #[(Iv bits), (.agg #[Iv x_0, .slice x_1_a x_1_l x_1_c])] w1 fun e_ w2 =>
 ∃ r : Bool, e_ = .returned (.bool r) ∧
 (bsplit (!r)
 (R (.tuple #[(.slice none 0 0), (Iv (1 : Int))]) w2)
 ((∃ J : OA → Nat → Nat → WP,
 (∀ (_ : Env) (b_a : OA) (b_l : Nat) (b_c : Nat) (w10 : World), J b_a b_l b_c w10 →
 (∃ I : OA → Nat → Nat → Int → Nat × (WP), (I b_a b_l b_c (0 : Int)).2 w10 ∧
 (∀ (_ : Env) (b_a1 : OA) (b_l1 : Nat) (b_c1 : Nat) (i : Int) (w11 : World), (I b_a1 b_l1 b_c1 i).2 w11 →
 (kLdS w11 ⟨b, 1, none⟩ fun _ x_l3 _ =>
 (bsplit (decide (i < (x_l3 : Int)))
 ((kLdS w11 ⟨b, 1, none⟩ fun x_a4 x_l4 _ =>
 (kIx x_a4 x_l4 i fun b3 =>
 (∃ x_01 x_1 x_2 : Int, cellsAt w11 (b3.add (i.toNat * 3)) 0 [(Iv x_01), (Iv x_1), (Iv x_2)] ∧
 (kAlloc w11 #[Iv (0 : Int), Iv (0 : Int), Iv (0 : Int)] Ty_api_Range fun b4 w12 =>
 (sxStore w12 ⟨b4, 0, none⟩ 0 [(Iv x_01), (Iv x_1), (Iv x_2)] fun w13 =>
 (∃ x_02 x_11 x_21 : Int, cellsAt w13 ⟨b4, 0, none⟩ 0 [(Iv x_02), (Iv x_11), (Iv x_21)] ∧
 (CP N_ref19_size #[(.agg #[Iv x_02, Iv x_11, Iv x_21])] w13 fun e_3 w14 =>
 ∃ r1 : Int, e_3 = .returned (Iv r1) ∧
 (bsplit (decide (r1 = (2 : Int)))
 ((kLd w14 ⟨b4, 0, none⟩ .i64 fun x2 =>
 (kW .i64 ((16 : Int) * x2) fun x3 =>
 (CP N_ref01_Put #[(.slice b_a1 b_l1 b_c1), (Iv (2 : Int)), (Iv x3)] w14 fun e_4 w15 =>
 ∃ r_a2 : OA, ∃ r_l2 r_c2 : Nat, e_4 = .returned (.slice r_a2 r_l2 r_c2) ∧
 (kW .i64 (i + (1 : Int)) fun x4 =>
 ((I r_a2 r_l2 r_c2 x4).2 w15 ∧ (I r_a2 r_l2 r_c2 x4).1 < (I b_a1 b_l1 b_c1 i).1))))))
 ((kDrew w14 fun w16 =>
 (∃ S1 : Nat → Prop,
 (kLd w16 ⟨b4, 0, none⟩ .i64 fun x5 =>
 (kW .i64 ((16 : Int) * x5) fun x6 =>
 (kW .i64 (x6 + (1 : Int)) fun x7 =>
 (S1 b4 ∧
 (kLd w16 ⟨b4, 1, none⟩ .i64 fun x8 =>
 (S1 b4 ∧
 (kLd w16 ⟨b4, 2, none⟩ .i64 fun x9 =>
 (CP N_ref01_Put #[(.slice b_a1 b_l1 b_c1), (Iv (2 : Int)), (Iv x7)] w16 fun e_5 w17 =>
 ∃ r_a3 : OA, ∃ r_l3 r_c3 : Nat, e_5 = .returned (.slice r_a3 r_l3 r_c3) ∧
 (KeepsB S1 w16 w17 ∧ (CP N_ref01_Put #[(.slice r_a3 r_l3 r_c3), (Iv (2 : Int)), (Iv x8)] w17 fun e_6 w18 =>
 ∃ r_a4 : OA, ∃ r_l4 r_c4 : Nat, e_6 = .returned (.slice r_a4 r_l4 r_c4) ∧
 (KeepsB S1 w16 w18 ∧ (CP N_ref01_Put #[(.slice r_a4 r_l4 r_c4), (Iv (2 : Int)), (Iv x9)] w18 fun e_7 w19 =>
 ∃ r_a5 : OA, ∃ r_l5 r_c5 : Nat, e_7 = .returned (.slice r_a5 r_l5 r_c5) ∧
 (KeepsB S1 w16 w19 ∧ (kW .i64 (i + (1 : Int)) fun x10 =>
 ((I r_a5 r_l5 r_c5 x10).2 w19 ∧ (I r_a5 r_l5 r_c5 x10).1 < (I b_a1 b_l1 b_c1 i).1)))))))))))))))))))))))))))
 (R (.tuple #[(.slice b_a1 b_l1 b_c1), (Iv (0 : Int))]) w11)))))) ∧
 (kDrew w2 fun w3 =>
 (∃ S : Nat → Prop,
 (S b ∧
 (kLd w3 ⟨b, 0, none⟩ .i64 fun x =>
 (S b ∧
 (kLdS w3 ⟨b, 1, none⟩ fun _ x_l _ =>
 (kW .u8 ((x_l : Int)) fun x1 =>
 ((CP N_ref01_Put #[(.slice none 0 0), (Iv (2 : Int)), (Iv x)] w3 fun e_2 w7 =>
 ∃ r_a1 : OA, ∃ r_l1 r_c1 : Nat, e_2 = .returned (.slice r_a1 r_l1 r_c1) ∧
 (KeepsB S w3 w7 ∧ (kAlloc w7 #[(.int .u8 x1)] Ty_uint8 fun b2 w8 =>
 (KeepsB S w3 w8 ∧ (AppP Tryz.prog #[Ty_S_uint8, Ty_S_uint8] Ty_S_uint8 #[(.slice r_a1 r_l1 r_c1), (.slice (some ⟨b2, 0, none⟩) 1 1)] w8 fun x_a2 x_l2 x_c2 w9 =>
 (KeepsB S w3 w9 ∧ J x_a2 x_l2 x_c2 w9)))))) ∧
 ((kAlloc w3 #[(.int .u8 x1)] Ty_uint8 fun b1 w4 =>
 (KeepsB S w3 w4 ∧ (CP N_ref01_Put #[(.slice none 0 0), (Iv (2 : Int)), (Iv x)] w4 fun e_1 w5 =>
 ∃ r_a : OA, ∃ r_l r_c : Nat, e_1 = .returned (.slice r_a r_l r_c) ∧
 (KeepsB S w3 w5 ∧ (AppP Tryz.prog #[Ty_S_uint8, Ty_S_uint8] Ty_S_uint8 #[(.slice r_a r_l r_c), (.slice (some ⟨b1, 0, none⟩) 1 1)] w5 fun x_a1 x_l1 x_c1 w6 =>
 (KeepsB S w3 w6 ∧ J x_a1 x_l1 x_c1 w6)))))) ∧
 True)))))))))))))))
theorem F_ref19_Encode_eq (bits s_0 : Int) (s_1_a : Option Addr) (s_1_l s_1_c : Nat) (w : World) (R : Value → World → Prop) : sxFn Tryz.prog TT h_ref19_Encode Tryz.f61 #[(.int .i64 bits), (.agg #[.int .i64 s_0, .slice s_1_a s_1_l s_1_c])] w R = F_ref19_Encode bits s_0 s_1_a s_1_l s_1_c w R := by kernel_rfl
theorem F_ref19_Encode_ok {R : Ending → World → Prop} (bits s_0 : Int) (s_1_a : Option Addr) (s_1_l s_1_c : Nat) (w : World) (h : F_ref19_Encode bits s_0 s_1_a s_1_l s_1_c w fun v w' => R (.returned v) w') : Calls Tryz.prog N_ref19_Encode #[(.int .i64 bits), (.agg #[.int .i64 s_0, .slice s_1_a s_1_l s_1_c])] w R :=
 calls_of (f := 61) follows_ok Tryz.func61 (Eq.mpr (F_ref19_Encode_eq bits s_0 s_1_a s_1_l s_1_c w _) h)

def h_ref21_place : H := (.seq .reg (.seq .reg .leaf))
def F_ref21_place (r_0 r_1 r_2 r_3 r_4 r_5 r_6 r_7 r_8 r_9 r_10 r_11 : Int) (r_12 : Bool) (r_13_a : OA) (r_13_l r_13_c : Nat) (sn : Int) (w : World) (R : Value → WP) : Prop :=
 (kAlloc w #[(Iv r_0), (Iv r_1), (Iv r_2), (Iv r_3), (Iv r_4), (Iv r_5), (Iv r_6), (Iv r_7), (Iv r_8), (Iv r_9), (Iv r_10), (Iv r_11), (.bool r_12), (.slice r_13_a r_13_l r_13_c)] Ty_api_Receiver fun b w1 =>
 (kLd w1 ⟨b, 0, none⟩ .i64 fun x =>
 (kLd w1 ⟨b, 6, none⟩ .i64 fun x1 =>
 (CP N_ref20_Place #[(Iv x), (Iv x1), (Iv sn)] w1 fun e_ w2 =>
 ∃ r : Int, e_ = .returned (Iv r) ∧
 R (Iv r) w2))))
theorem F_ref21_place_eq (r_0 r_1 r_2 r_3 r_4 r_5 r_6 r_7 r_8 r_9 r_10 r_11 : Int) (r_12 : Bool) (r_13_a : Option Addr) (r_13_l r_13_c : Nat) (sn : Int) (w : World) (R : Value → World → Prop) : sxFn Tryz.prog TT h_ref21_place Tryz.f62 #[(.agg #[.int .i64 r_0, .int .i64 r_1, .int .i64 r_2, .int .i64 r_3, .int .i64 r_4, .int .i64 r_5, .int .i64 r_6, .int .i64 r_7, .int .i64 r_8, .int .i64 r_9, .int .i64 r_10, .int .i64 r_11, .bool r_12, .slice r_13_a r_13_l r_13_c]), (.int .i64 sn)] w R = F_ref21_place r_0 r_1 r_2 r_3 r_4 r_5 r_6 r_7 r_8 r_9 r_10 r_11 r_12 r_13_a r_13_l r_13_c sn w R := by kernel_rfl
theorem F_ref21_place_ok {R : Ending → World → Prop} (r_0 r_1 r_2 r_3 r_4 r_5 r_6 r_7 r_8 r_9 r_10 r_11 : Int) (r_12 : Bool) (r_13_a : Option Addr) (r_13_l r_13_c : Nat) (sn : Int) (w : World) (h : F_ref21_place r_0 r_1 r_2 r_3 r_4 r_5 r_6 r_7 r_8 r_9 r_10 r_11 r_12 r_13_a r_13_l r_13_c sn w fun v w' => R (.returned v) w') : Calls Tryz.prog N_ref21_place #[(.agg #[.int .i64 r_0, .int .i64 r_1, .int .i64 r_2, .int .i64 r_3, .int .i64 r_4, .int .i64 r_5, .int .i64 r_6, .int .i64 r_7, .int .i64 r_8, .int .i64 r_9, .int .i64 r_10, .int .i64 r_11, .bool r_12, .slice r_13_a r_13_l r_13_c]), (.int .i64 sn)] w R :=
 calls_of (f := 62) follows_ok Tryz.func62 (Eq.mpr (F_ref21_place_eq r_0 r_1 r_2 r_3 r_4 r_5 r_6 r_7 r_8 r_9 r_10 r_11 r_12 r_13_a r_13_l r_13_c sn w _) h)

def h_ref18_Gaps : H := (.seq .reg (.seq (.seq .reg (.cond (.seq .reg .leaf) .leaf)) (.cut [] [6, 7, 14, 15, 16, 17, 18, 19, 20, 21, 22, 23, 24, 25, 26, 27, 28, 29, 30, 31] (.seq .reg (.cond (.seq .reg .leaf) .leaf)) (.seq .reg (.seq .reg (.seq (.seq .reg (.block (.loop [(8, .p .slice), (9, .p (.int .i64)), (10, .p (.int .i64))] [8, 9, 10, 32, 33, 34, 35, 36, 37, 38, 39, 40, 41, 42, 43, 44, 45, 46, 47, 48, 49, 50, 51, 52, 53, 54, 55, 56, 57, 58, 59, 60] (.seq (.seq .reg (.cond .leaf .leaf)) (.seq (.block (.seq (.seq .reg (.cond .reg .leaf)) .reg)) .reg))))) (.seq (.seq .reg (.cond .reg .leaf)) (.seq .reg .leaf))))))))
def F_ref18_Gaps (l_a : OA) (l_l l_c : Nat) (sn length : Int) (w : World) (R : Value → WP) : Prop :=
 (CP N_ref18_Normal #[(.slice l_a l_l l_c)] w fun e_ w1 =>
 ∃ r : Bool, e_ = .returned (.bool r) ∧
 (bsplit (!r)
 (R (.tuple #[(.slice none 0 0), (Iv (4 : Int))]) w1)
 ((∃ J : WP,
 (∀ (_ : Env)  (w2 : World), J w2 →
 (∃ I : OA → Nat → Nat → Int → Int → Nat × (WP), (I none 0 0 (0 : Int) (0 : Int)).2 w2 ∧
 (∀ (_ : Env) (out_a : OA) (out_l : Nat) (out_c : Nat) (at1 : Int) (i : Int) (w3 : World), (I out_a out_l out_c at1 i).2 w3 →
 (bsplit (decide (i < (l_l : Int)))
 ((kIx l_a l_l i fun b1 =>
 (kLd w3 ((b1.add (i.toNat * 3)).add 1) .i64 fun x2 =>
 (bsplit (decide (x2 > at1))
 ((kIx l_a l_l i fun b2 =>
 (kLd w3 ((b2.add (i.toNat * 3)).add 1) .i64 fun x3 =>
 (kAlloc w3 #[(Iv sn), (Iv at1), (Iv x3)] Ty_api_Range fun b3 w4 =>
 (AppP Tryz.prog #[Ty_S_api_Range, Ty_S_api_Range] Ty_S_api_Range #[(.slice out_a out_l out_c), (.slice (some ⟨b3, 0, none⟩) 1 1)] w4 fun x_a x_l x_c w5 =>
 (kIx l_a l_l i fun b4 =>
 (kLd w5 ((b4.add (i.toNat * 3)).add 2) .i64 fun x4 =>
 (kW .i64 (i + (1 : Int)) fun x5 =>
 ((I x_a x_l x_c x4 x5).2 w5 ∧ (I x_a x_l x_c x4 x5).1 < (I out_a out_l out_c at1 i).1)))))))))
 ((kIx l_a l_l i fun b5 =>
 (kLd w3 ((b5.add (i.toNat * 3)).add 2) .i64 fun x6 =>
 (kW .i64 (i + (1 : Int)) fun x7 =>
 ((I out_a out_l out_c x6 x7).2 w3 ∧ (I out_a out_l out_c x6 x7).1 < (I out_a out_l out_c at1 i).1)))))))))
 ((bsplit (decide (at1 < length))
 ((kAlloc w3 #[(Iv sn), (Iv at1), (Iv length)] Ty_api_Range fun b6 w6 =>
 (AppP Tryz.prog #[Ty_S_api_Range, Ty_S_api_Range] Ty_S_api_Range #[(.slice out_a out_l out_c), (.slice (some ⟨b6, 0, none⟩) 1 1)] w6 fun x_a1 x_l1 x_c1 w7 =>
 R (.tuple #[(.slice x_a1 x_l1 x_c1), (Iv (0 : Int))]) w7)))
 (R (.tuple #[(.slice out_a out_l out_c), (Iv (0 : Int))]) w3))))))) ∧
 (bsplit (decide (length < (0 : Int)))
 (R (.tuple #[(.slice none 0 0), (Iv (3 : Int))]) w1)
 ((bsplit (decide ((l_l : Int) > (0 : Int)))
 ((kW .i64 ((l_l : Int) - (1 : Int)) fun x =>
 (kIx l_a l_l x fun b =>
 (kLd w1 ((b.add (x.toNat * 3)).add 2) .i64 fun x1 =>
 (bsplit (decide (length < x1))
 (R (.tuple #[(.slice none 0 0), (Iv (3 : Int))]) w1)
 (J w1))))))
 (J w1))))))))
theorem F_ref18_Gaps_eq (l_a : Option Addr) (l_l l_c : Nat) (sn length : Int) (w : World) (R : Value → World → Prop) : sxFn Tryz.prog TT h_ref18_Gaps Tryz.f63 #[(.slice l_a l_l l_c), (.int .i64 sn), (.int .i64 length)] w R = F_ref18_Gaps l_a l_l l_c sn length w R := by kernel_rfl
theorem F_ref18_Gaps_ok {R : Ending → World → Prop} (l_a : Option Addr) (l_l l_c : Nat) (sn length : Int) (w : World) (h : F_ref18_Gaps l_a l_l l_c sn length w fun v w' => R (.returned v) w') : Calls Tryz.prog N_ref18_Gaps #[(.slice l_a l_l l_c), (.int .i64 sn), (.int .i64 length)] w R :=
 calls_of (f := 63) follows_ok Tryz.func63 (Eq.mpr (F_ref18_Gaps_eq l_a l_l l_c sn length w _) h)

def h_receiver_side_missing : H := (.seq .reg (.seq .reg (.seq (.seq .reg (.cond (.seq .reg .leaf) .leaf)) (.seq .reg (.seq (.seq .reg (.cond (.seq .reg .leaf) .leaf)) (.seq .reg (.cut [(7, .p (.int .i64))] [7, 34, 35] (.seq .reg (.cond .reg .leaf)) (.seq .reg (.seq .reg .leaf)))))))))
def F_receiver_side_missing (s_b s_o : Nat) (n : Int) (w : World) (R : Value → WP) : Prop :=
 (kAlloc w #[(Iv n)] Ty_int fun b w1 =>
 (kLdS w1 ⟨s_b, s_o + 13, none⟩ fun x_a x_l x_c =>
 (CP N_slices_IndexFunc_Sapi_Partial_api_Partial #[(.slice x_a x_l x_c), (.func (.func N_receiver_side_missing_1) #[] #[(.pointer (some ⟨b, 0, none⟩))])] w1 fun e_ w2 =>
 ∃ r : Int, e_ = .returned (Iv r) ∧
 (bsplit (decide (r < (0 : Int)))
 ((kLd w2 ⟨b, 0, none⟩ .i64 fun x =>
 (kAlloc w2 #[(Iv x), (Iv (0 : Int)), (Iv (0 : Int))] Ty_api_Range fun b1 w3 =>
 R (.slice (some ⟨b1, 0, none⟩) 1 1) w3)))
 ((kLdS w2 ⟨s_b, s_o + 13, none⟩ fun x_a1 x_l1 _ =>
 (kIx x_a1 x_l1 r fun b2 =>
 (∃ x_0 : Int, ∃ x_1 : Bool, ∃ x_2 : Int, ∃ x_3_a : OA, ∃ x_3_l x_3_c : Nat, ∃ x_4_a : OA, ∃ x_4_l x_4_c : Nat, cellsAt w2 (b2.add (r.toNat * 5)) 0 [(Iv x_0), (.bool x_1), (Iv x_2), (.slice x_3_a x_3_l x_3_c), (.slice x_4_a x_4_l x_4_c)] ∧
 (kAlloc w2 #[Iv (0 : Int), .bool false, Iv (0 : Int), .slice none 0 0, .slice none 0 0] Ty_api_Partial fun b3 w4 =>
 (sxStore w4 ⟨b3, 0, none⟩ 0 [(Iv x_0), (.bool x_1), (Iv x_2), (.slice x_3_a x_3_l x_3_c), (.slice x_4_a x_4_l x_4_c)] fun w5 =>
 (kLdB w5 ⟨b3, 1, none⟩ fun x1 =>
 (bsplit x1
 (R (.slice none 0 0) w5)
 ((kLd w5 ⟨b3, 2, none⟩ .i64 fun x2 =>
 (∃ J : Int → WP,
 (∀ (_ : Env) (length : Int) (w6 : World), J length w6 →
 (kLdS w6 ⟨b3, 4, none⟩ fun x_a2 x_l2 x_c2 =>
 (kLd w6 ⟨b, 0, none⟩ .i64 fun x3 =>
 (CP N_segment_Gaps #[(.slice x_a2 x_l2 x_c2), (Iv x3), (Iv length)] w6 fun e_1 w7 =>
 ∃ r_a : OA, ∃ r_l r_c : Nat, ∃ r1 : Int, e_1 = .returned (.tuple #[(.slice r_a r_l r_c), (Iv r1)]) ∧
 R (.slice r_a r_l r_c) w7)))) ∧
 (bsplit (decide (x2 = (-1 : Int)))
 (J (65535 : Int) w5)
 (J x2 w5)))))))))))))))))
theorem F_receiver_side_missing_eq (s_b s_o : Nat) (n : Int) (w : World) (R : Value → World → Prop) : sxFn Tryz.prog TT h_receiver_side_missing Tryz.f64 #[(.pointer (some ⟨s_b, s_o, none⟩)), (.int .i64 n)] w R = F_receiver_side_missing s_b s_o n w R := by kernel_rfl
theorem F_receiver_side_missing_ok {R : Ending → World → Prop} (s_b s_o : Nat) (n : Int) (w : World) (h : F_receiver_side_missing s_b s_o n w fun v w' => R (.returned v) w') : Calls Tryz.prog N_receiver_side_missing #[(.pointer (some ⟨s_b, s_o, none⟩)), (.int .i64 n)] w R :=
 calls_of (f := 64) follows_ok Tryz.func64 (Eq.mpr (F_receiver_side_missing_eq s_b s_o n w _) h)

end Go.Proofs.YthceaojjeokclaaGreat
