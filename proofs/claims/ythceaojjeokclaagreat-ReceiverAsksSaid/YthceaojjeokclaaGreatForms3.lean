import Derived.Test.YthceaojjeokclaaGreatBase
import Derived.KernelRfl
namespace Go.Proofs.YthceaojjeokclaaGreat
open Go.Sx Go.RowKit
set_option maxRecDepth 100000

def h_receiver_side_number : H := (.seq .reg (.seq .reg .leaf))
def F_receiver_side_number (s_b s_o : Nat) (n : Int) (w : World) (R : Value → WP) : Prop :=
 (bsplit (decide (n ≥ (0 : Int)))
 ((kLd w ⟨s_b, s_o, none⟩ .i64 fun x =>
 (0 ≤ x ∧ (kW .i64 ((1 : Int) * 2 ^ (min x.toNat (IntKind.bits .i64))) fun x1 =>
 (kLet (decide (n < x1)) fun x2 =>
 R (.bool x2) w)))))
 (R (.bool false) w))
theorem F_receiver_side_number_eq (s_b s_o : Nat) (n : Int) (w : World) (R : Value → World → Prop) : sxFn Tryz.prog TT h_receiver_side_number Tryz.f65 #[(.pointer (some ⟨s_b, s_o, none⟩)), (.int .i64 n)] w R = F_receiver_side_number s_b s_o n w R := by kernel_rfl
theorem F_receiver_side_number_ok {R : Ending → World → Prop} (s_b s_o : Nat) (n : Int) (w : World) (h : F_receiver_side_number s_b s_o n w fun v w' => R (.returned v) w') : Calls Tryz.prog N_receiver_side_number #[(.pointer (some ⟨s_b, s_o, none⟩)), (.int .i64 n)] w R :=
 calls_of (f := 65) follows_ok Tryz.func65 (Eq.mpr (F_receiver_side_number_eq s_b s_o n w _) h)

def h_receiver_side_partials : H := (.seq .reg (.seq .reg (.seq (.seq .reg (.cond (.seq (.draw .no (.one 0 .stable (.one 1 .stable (.one 2 .stable (.one 3 .stable (.one 4 .stable (.one 5 .stable (.one 6 .stable (.one 7 .stable (.one 8 .stable (.one 9 .stable (.one 10 .stable (.one 11 .stable .nil))))))))))))) .leaf) .leaf)) (.seq (.seq .reg (.block (.loop [(32, .p (.int .i64))] [2, 4, 5, 32, 33, 34, 35, 36, 37, 38, 39, 40, 41, 42, 43, 44, 45, 46, 47, 48, 49, 50, 51, 52, 53, 54, 55, 56, 57, 58, 59, 60, 61, 62, 63, 64, 65, 66, 67, 68, 69, 70, 71, 72, 73, 74, 75, 76, 77, 78, 79, 80, 81, 82, 83, 84] (.seq .reg (.seq (.cond .leaf .leaf) (.seq (.block (.seq .reg (.cut [(83, .p .bool)] [37, 38, 39, 40, 41, 42, 43, 44, 45, 46, 47, 48, 49, 50, 51, 52, 53, 54, 55, 56, 57, 58, 59, 60, 61, 62, 63, 64, 65, 66, 67, 68, 69, 70, 71, 72, 73, 74, 75, 76, 77, 78, 79, 80, 81, 82, 83] (.draw .blk (.one 0 .pre (.one 1 .pre (.one 2 .pre (.one 3 .keep (.one 4 .stable (.one 5 .stable (.one 6 .stable (.one 7 .keep (.one 8 .stable (.one 9 .stable (.one 10 .stable (.one 11 .stable (.one 12 .stable (.one 13 .stable (.one 15 .stable (.one 16 .stable (.one 17 .stable (.one 18 .stable (.one 19 .stable (.one 20 .stable (.one 14 .keep (.one 21 .keep (.one 22 .stable (.one 23 .stable (.one 24 .stable (.one 25 .stable (.one 26 .stable (.one 27 .stable (.one 28 .stable (.one 29 .stable (.one 30 .stable (.one 32 .stable (.one 33 .stable (.one 34 .stable (.one 35 .stable (.one 36 .stable (.one 37 .stable (.one 38 .stable (.one 39 .stable (.one 40 .stable (.one 41 .stable (.one 42 .stable (.one 31 .keep (.one 43 .keep (.one 44 .stable (.one 45 .stable (.one 46 .stable .nil)))))))))))))))))))))))))))))))))))))))))))))))) (.cond (.seq .reg .leaf) .leaf)))) .reg)))))) (.seq .reg (.seq (.draw .blk (.one 0 .pre (.one 1 .pre (.one 2 .pre (.one 3 .pre (.one 4 .pre (.one 5 .pre (.one 6 .pre (.one 7 .pre (.one 8 .pre (.one 9 .pre (.one 10 .pre (.one 11 .pre (.one 12 .pre (.one 13 .pre (.one 14 .pre (.one 15 .pre (.one 16 .pre (.one 17 .pre (.one 18 .pre (.one 19 .pre (.one 20 .pre (.one 21 .pre (.one 22 .pre (.one 23 .pre (.one 24 .pre (.one 26 .stable (.one 27 .stable (.one 28 .stable (.one 29 .stable (.one 30 .stable (.one 25 .keep (.one 31 .stable (.one 32 .stable (.one 33 .stable .nil))))))))))))))))))))))))))))))))))) .leaf))))))
def F_receiver_side_partials (s_b s_o : Nat) (w : World) (R : Value → WP) : Prop :=
 (kLdS w ⟨s_b, s_o + 13, none⟩ fun _ x_l _ =>
 (bsplit (decide ((x_l : Int) = (0 : Int)))
 ((kDrew w fun w1 =>
 (kLd w1 ⟨s_b, s_o + 7, none⟩ .i64 fun x =>
 (kLd w1 ⟨s_b, s_o + 6, none⟩ .i64 fun x1 =>
 (kLet (decide (x = x1)) fun x2 =>
 R (.bool x2) w1)))))
 ((kLdS w ⟨s_b, s_o + 13, none⟩ fun x_a1 x_l1 _ =>
 (∃ I : Int → Nat × (WP), (I (0 : Int)).2 w ∧
 (∀ (_ : Env) (x3 : Int) (w2 : World), (I x3).2 w2 →
 (bsplit (decide (x3 < (x_l1 : Int)))
 ((kIx x_a1 x_l1 x3 fun b =>
 (∃ x_0 : Int, ∃ x_1 : Bool, ∃ x_2 : Int, ∃ x_3_a : OA, ∃ x_3_l x_3_c : Nat, ∃ x_4_a : OA, ∃ x_4_l x_4_c : Nat, cellsAt w2 (b.add (x3.toNat * 5)) 0 [(Iv x_0), (.bool x_1), (Iv x_2), (.slice x_3_a x_3_l x_3_c), (.slice x_4_a x_4_l x_4_c)] ∧
 (kAlloc w2 #[Iv (0 : Int), .bool false, Iv (0 : Int), .slice none 0 0, .slice none 0 0] Ty_api_Partial fun b1 w3 =>
 (sxStore w3 ⟨b1, 0, none⟩ 0 [(Iv x_0), (.bool x_1), (Iv x_2), (.slice x_3_a x_3_l x_3_c), (.slice x_4_a x_4_l x_4_c)] fun w4 =>
 (∃ J : Bool → WP,
 (∀ (_ : Env) (x10 : Bool) (w12 : World), J x10 w12 →
 (bsplit x10
 (R (.bool false) w12)
 ((kW .i64 (x3 + (1 : Int)) fun x11 =>
 ((I x11).2 w12 ∧ (I x11).1 < (I x3).1))))) ∧
 (kDrew w4 fun w5 =>
 (∃ S : Nat → Prop,
 (kLd w5 ⟨b1, 0, none⟩ .i64 fun x4 =>
 (CP N_receiver_side_number #[(.pointer (some ⟨s_b, s_o, none⟩)), (Iv x4)] w5 fun e_ w6 =>
 ∃ r : Bool, e_ = .returned (.bool r) ∧
 (KeepsB S w5 w6 ∧ (bsplit (!r)
 (J true w6)
 ((S b1 ∧
 (∃ x_01 : Int, ∃ x_11 : Bool, ∃ x_21 : Int, ∃ x_3_a1 : OA, ∃ x_3_l1 x_3_c1 : Nat, ∃ x_4_a1 : OA, ∃ x_4_l1 x_4_c1 : Nat, cellsAt w5 ⟨b1, 0, none⟩ 0 [(Iv x_01), (.bool x_11), (Iv x_21), (.slice x_3_a1 x_3_l1 x_3_c1), (.slice x_4_a1 x_4_l1 x_4_c1)] ∧
 (CP N_receiver_partial #[(.agg #[Iv x_01, .bool x_11, Iv x_21, .slice x_3_a1 x_3_l1 x_3_c1, .slice x_4_a1 x_4_l1 x_4_c1])] w6 fun e_1 w7 =>
 ∃ r1 : Bool, e_1 = .returned (.bool r1) ∧
 (KeepsB S w5 w7 ∧ (bsplit (!r1)
 (J true w7)
 ((S b1 ∧
 (kLd w5 ⟨b1, 0, none⟩ .i64 fun x5 =>
 (S s_b ∧
 (kLd w5 ⟨s_b, s_o + 7, none⟩ .i64 fun x6 =>
 (CP N_receiver_side_place #[(.pointer (some ⟨s_b, s_o, none⟩)), (Iv x5)] w7 fun e_2 w8 =>
 ∃ r2 : Int, e_2 = .returned (Iv r2) ∧
 (KeepsB S w5 w8 ∧ (CP N_receiver_side_place #[(.pointer (some ⟨s_b, s_o, none⟩)), (Iv x6)] w8 fun e_3 w9 =>
 ∃ r3 : Int, e_3 = .returned (Iv r3) ∧
 (KeepsB S w5 w9 ∧ (bsplit (decide (r2 ≥ r3))
 (J true w9)
 ((bsplit (decide (x3 > (0 : Int)))
 ((S b1 ∧
 (kLd w5 ⟨b1, 0, none⟩ .i64 fun x7 =>
 (S s_b ∧
 (kLdS w5 ⟨s_b, s_o + 13, none⟩ fun x_a2 x_l2 _ =>
 (kW .i64 (x3 - (1 : Int)) fun x8 =>
 (kIx x_a2 x_l2 x8 fun b2 =>
 (S (b2.add (x8.toNat * 5)).block ∧
 (kLd w5 (b2.add (x8.toNat * 5)) .i64 fun x9 =>
 (CP N_receiver_side_place #[(.pointer (some ⟨s_b, s_o, none⟩)), (Iv x7)] w9 fun e_4 w10 =>
 ∃ r4 : Int, e_4 = .returned (Iv r4) ∧
 (KeepsB S w5 w10 ∧ (CP N_receiver_side_place #[(.pointer (some ⟨s_b, s_o, none⟩)), (Iv x9)] w10 fun e_5 w11 =>
 ∃ r5 : Int, e_5 = .returned (Iv r5) ∧
 (KeepsB S w5 w11 ∧ J (decide (r4 ≤ r5)) w11)))))))))))))
 (J false w9)))))))))))))))))))))))))))))))
 ((kLdS w2 ⟨s_b, s_o + 13, none⟩ fun x_a3 x_l3 _ =>
 (kIx x_a3 x_l3 (0 : Int) fun b3 =>
 (∃ x_02 : Int, ∃ x_12 : Bool, ∃ x_22 : Int, ∃ x_3_a2 : OA, ∃ x_3_l2 x_3_c2 : Nat, ∃ x_4_a2 : OA, ∃ x_4_l2 x_4_c2 : Nat, cellsAt w2 (b3.add ((0 : Int).toNat * 5)) 0 [(Iv x_02), (.bool x_12), (Iv x_22), (.slice x_3_a2 x_3_l2 x_3_c2), (.slice x_4_a2 x_4_l2 x_4_c2)] ∧
 (kAlloc w2 #[Iv (0 : Int), .bool false, Iv (0 : Int), .slice none 0 0, .slice none 0 0] Ty_api_Partial fun b4 w13 =>
 (sxStore w13 ⟨b4, 0, none⟩ 0 [(Iv x_02), (.bool x_12), (Iv x_22), (.slice x_3_a2 x_3_l2 x_3_c2), (.slice x_4_a2 x_4_l2 x_4_c2)] fun w14 =>
 (kDrew w14 fun w15 =>
 (∃ S1 : Nat → Prop,
 (kLdB w15 ⟨b4, 1, none⟩ fun x12 =>
 (bsplit x12
 ((kLd w15 ⟨b4, 0, none⟩ .i64 fun x13 =>
 (kLd w15 ⟨s_b, s_o + 6, none⟩ .i64 fun x14 =>
 (bsplit (!(decide (x13 = x14)))
 ((kLdS w15 ⟨s_b, s_o + 13, none⟩ fun x_a4 x_l4 _ =>
 (kW .i64 ((x_l : Int) - (1 : Int)) fun x15 =>
 (kIx x_a4 x_l4 x15 fun b5 =>
 (kLd w15 (b5.add (x15.toNat * 5)) .i64 fun x16 =>
 (S1 s_b ∧
 (kLd w15 ⟨s_b, s_o + 7, none⟩ .i64 fun x17 =>
 (CP N_receiver_side_behind #[(.pointer (some ⟨s_b, s_o, none⟩)), (Iv x16)] w15 fun e_6 w16 =>
 ∃ r6 : Int, e_6 = .returned (Iv r6) ∧
 (KeepsB S1 w15 w16 ∧ (kLet (decide (r6 = x17)) fun x18 =>
 R (.bool x18) w16))))))))))
 (R (.bool false) w15)))))
 ((kLdS w15 ⟨s_b, s_o + 13, none⟩ fun x_a5 x_l5 _ =>
 (kW .i64 ((x_l : Int) - (1 : Int)) fun x19 =>
 (kIx x_a5 x_l5 x19 fun b6 =>
 (kLd w15 (b6.add (x19.toNat * 5)) .i64 fun x20 =>
 (S1 s_b ∧
 (kLd w15 ⟨s_b, s_o + 7, none⟩ .i64 fun x21 =>
 (CP N_receiver_side_behind #[(.pointer (some ⟨s_b, s_o, none⟩)), (Iv x20)] w15 fun e_7 w17 =>
 ∃ r7 : Int, e_7 = .returned (Iv r7) ∧
 (KeepsB S1 w15 w17 ∧ (kLet (decide (r7 = x21)) fun x22 =>
 R (.bool x22) w17)))))))))))))))))))))))))))
theorem F_receiver_side_partials_eq (s_b s_o : Nat) (w : World) (R : Value → World → Prop) : sxFn Tryz.prog TT h_receiver_side_partials Tryz.f66 #[(.pointer (some ⟨s_b, s_o, none⟩))] w R = F_receiver_side_partials s_b s_o w R := by kernel_rfl
theorem F_receiver_side_partials_ok {R : Ending → World → Prop} (s_b s_o : Nat) (w : World) (h : F_receiver_side_partials s_b s_o w fun v w' => R (.returned v) w') : Calls Tryz.prog N_receiver_side_partials #[(.pointer (some ⟨s_b, s_o, none⟩))] w R :=
 calls_of (f := 66) follows_ok Tryz.func66 (Eq.mpr (F_receiver_side_partials_eq s_b s_o w _) h)

def h_sender_between : H := (.seq .reg (.seq .reg .leaf))
def F_sender_between (x least most : Int) (w : World) (R : Value → WP) : Prop :=
 (bsplit (decide (x ≥ least))
 ((kLet (decide (x ≤ most)) fun x1 =>
 R (.bool x1) w))
 (R (.bool false) w))
theorem F_sender_between_eq (x least most : Int) (w : World) (R : Value → World → Prop) : sxFn Tryz.prog TT h_sender_between Tryz.f67 #[(.int .i64 x), (.int .i64 least), (.int .i64 most)] w R = F_sender_between x least most w R := by kernel_rfl
theorem F_sender_between_ok {R : Ending → World → Prop} (x least most : Int) (w : World) (h : F_sender_between x least most w fun v w' => R (.returned v) w') : Calls Tryz.prog N_sender_between #[(.int .i64 x), (.int .i64 least), (.int .i64 most)] w R :=
 calls_of (f := 67) follows_ok Tryz.func67 (Eq.mpr (F_sender_between_eq x least most w _) h)

def h_counter_Bits : H := (.seq .reg (.seq .reg .leaf))
def F_counter_Bits (bits : Int) (w : World) (R : Value → WP) : Prop :=
 (bsplit (decide (bits ≥ (5 : Int)))
 ((kLet (decide (bits ≤ (9 : Int))) fun x =>
 R (.bool x) w))
 (R (.bool false) w))
theorem F_counter_Bits_eq (bits : Int) (w : World) (R : Value → World → Prop) : sxFn Tryz.prog TT h_counter_Bits Tryz.f68 #[(.int .i64 bits)] w R = F_counter_Bits bits w R := by kernel_rfl
theorem F_counter_Bits_ok {R : Ending → World → Prop} (bits : Int) (w : World) (h : F_counter_Bits bits w fun v w' => R (.returned v) w') : Calls Tryz.prog N_counter_Bits #[(.int .i64 bits)] w R :=
 calls_of (f := 68) follows_ok Tryz.func68 (Eq.mpr (F_counter_Bits_eq bits w _) h)

def h_ref21_Copy : H := (.seq .reg (.seq .reg (.seq .reg (.seq (.seq .reg (.block (.loop [(4, .p (.int .i64))] [4, 5, 8, 9, 10, 11, 12, 13, 14, 15, 16, 17, 18, 19, 20, 21, 22, 23, 24, 25, 26, 27, 28, 29, 30, 31, 32, 33] (.seq (.seq .reg (.cond .leaf .leaf)) (.seq (.block (.seq .reg (.seq .reg (.seq .reg .reg)))) .reg))))) (.seq .reg .leaf)))))
def F_ref21_Copy (r_0 r_1 r_2 r_3 r_4 r_5 r_6 r_7 r_8 r_9 r_10 r_11 : Int) (r_12 : Bool) (r_13_a : OA) (r_13_l r_13_c : Nat) (w : World) (R : Value → WP) : Prop :=
 (kAlloc w #[(Iv r_0), (Iv r_1), (Iv r_2), (Iv r_3), (Iv r_4), (Iv r_5), (Iv r_6), (Iv r_7), (Iv r_8), (Iv r_9), (Iv r_10), (Iv r_11), (.bool r_12), (.slice r_13_a r_13_l r_13_c)] Ty_api_Receiver fun b w1 =>
 (kAlloc w1 #[Iv (0 : Int), Iv (0 : Int), Iv (0 : Int), Iv (0 : Int), Iv (0 : Int), Iv (0 : Int), Iv (0 : Int), Iv (0 : Int), Iv (0 : Int), Iv (0 : Int), Iv (0 : Int), Iv (0 : Int), .bool false, .slice none 0 0] Ty_api_Receiver fun b1 w2 =>
 (∃ x_0 x_1 x_2 x_3 x_4 x_5 x_6 x_7 x_8 x_9 x_10 x_11 : Int, ∃ x_12 : Bool, ∃ x_13_a : OA, ∃ x_13_l x_13_c : Nat, cellsAt w2 ⟨b, 0, none⟩ 0 [(Iv x_0), (Iv x_1), (Iv x_2), (Iv x_3), (Iv x_4), (Iv x_5), (Iv x_6), (Iv x_7), (Iv x_8), (Iv x_9), (Iv x_10), (Iv x_11), (.bool x_12), (.slice x_13_a x_13_l x_13_c)] ∧
 (kAlloc w2 #[Iv (0 : Int), Iv (0 : Int), Iv (0 : Int), Iv (0 : Int), Iv (0 : Int), Iv (0 : Int), Iv (0 : Int), Iv (0 : Int), Iv (0 : Int), Iv (0 : Int), Iv (0 : Int), Iv (0 : Int), .bool false, .slice none 0 0] Ty_api_Receiver fun b2 w3 =>
 (sxStore w3 ⟨b2, 0, none⟩ 0 [(Iv x_0), (Iv x_1), (Iv x_2), (Iv x_3), (Iv x_4), (Iv x_5), (Iv x_6), (Iv x_7), (Iv x_8), (Iv x_9), (Iv x_10), (Iv x_11), (.bool x_12), (.slice x_13_a x_13_l x_13_c)] fun w4 =>
 (kSet w4 ⟨b2, 13, none⟩ (.slice none 0 0) fun w5 =>
 (∃ I : Int → Nat × (WP), (I (0 : Int)).2 w5 ∧
 (∀ (_ : Env) (i : Int) (w6 : World), (I i).2 w6 →
 (kLdS w6 ⟨b, 13, none⟩ fun _ x_l _ =>
 (bsplit (decide (i < (x_l : Int)))
 ((kLdS w6 ⟨b, 13, none⟩ fun x_a1 x_l1 _ =>
 (kIx x_a1 x_l1 i fun b3 =>
 (∃ x_01 : Int, ∃ x_13 : Bool, ∃ x_21 : Int, ∃ x_3_a : OA, ∃ x_3_l x_3_c : Nat, ∃ x_4_a : OA, ∃ x_4_l x_4_c : Nat, cellsAt w6 (b3.add (i.toNat * 5)) 0 [(Iv x_01), (.bool x_13), (Iv x_21), (.slice x_3_a x_3_l x_3_c), (.slice x_4_a x_4_l x_4_c)] ∧
 (kAlloc w6 #[Iv (0 : Int), .bool false, Iv (0 : Int), .slice none 0 0, .slice none 0 0] Ty_api_Partial fun b4 w7 =>
 (sxStore w7 ⟨b4, 0, none⟩ 0 [(Iv x_01), (.bool x_13), (Iv x_21), (.slice x_3_a x_3_l x_3_c), (.slice x_4_a x_4_l x_4_c)] fun w8 =>
 (kLdS w8 ⟨b4, 3, none⟩ fun x_a2 x_l2 x_c2 =>
 (AppP Tryz.prog #[Ty_S_uint8, Ty_S_uint8] Ty_S_uint8 #[(.slice none 0 0), (.slice x_a2 x_l2 x_c2)] w8 fun x_a3 x_l3 x_c3 w9 =>
 (kSet w9 ⟨b4, 3, none⟩ (.slice x_a3 x_l3 x_c3) fun w10 =>
 (kLdS w10 ⟨b4, 4, none⟩ fun x_a4 x_l4 x_c4 =>
 (AppP Tryz.prog #[Ty_S_api_Range, Ty_S_api_Range] Ty_S_api_Range #[(.slice none 0 0), (.slice x_a4 x_l4 x_c4)] w10 fun x_a5 x_l5 x_c5 w11 =>
 (kSet w11 ⟨b4, 4, none⟩ (.slice x_a5 x_l5 x_c5) fun w12 =>
 (kLdS w12 ⟨b2, 13, none⟩ fun x_a6 x_l6 x_c6 =>
 (∃ x_02 : Int, ∃ x_14 : Bool, ∃ x_22 : Int, ∃ x_3_a1 : OA, ∃ x_3_l1 x_3_c1 : Nat, ∃ x_4_a1 : OA, ∃ x_4_l1 x_4_c1 : Nat, cellsAt w12 ⟨b4, 0, none⟩ 0 [(Iv x_02), (.bool x_14), (Iv x_22), (.slice x_3_a1 x_3_l1 x_3_c1), (.slice x_4_a1 x_4_l1 x_4_c1)] ∧
 (kAlloc w12 #[(Iv x_02), (.bool x_14), (Iv x_22), (.slice x_3_a1 x_3_l1 x_3_c1), (.slice x_4_a1 x_4_l1 x_4_c1)] Ty_api_Partial fun b5 w13 =>
 (AppP Tryz.prog #[Ty_S_api_Partial, Ty_S_api_Partial] Ty_S_api_Partial #[(.slice x_a6 x_l6 x_c6), (.slice (some ⟨b5, 0, none⟩) 1 1)] w13 fun x_a7 x_l7 x_c7 w14 =>
 (kSet w14 ⟨b2, 13, none⟩ (.slice x_a7 x_l7 x_c7) fun w15 =>
 (kW .i64 (i + (1 : Int)) fun x =>
 ((I x).2 w15 ∧ (I x).1 < (I i).1)))))))))))))))))))
 ((∃ x_03 x_15 x_23 x_31 x_41 x_51 x_61 x_71 x_81 x_91 x_101 x_111 : Int, ∃ x_121 : Bool, ∃ x_13_a1 : OA, ∃ x_13_l1 x_13_c1 : Nat, cellsAt w6 ⟨b2, 0, none⟩ 0 [(Iv x_03), (Iv x_15), (Iv x_23), (Iv x_31), (Iv x_41), (Iv x_51), (Iv x_61), (Iv x_71), (Iv x_81), (Iv x_91), (Iv x_101), (Iv x_111), (.bool x_121), (.slice x_13_a1 x_13_l1 x_13_c1)] ∧
 (sxStore w6 ⟨b1, 0, none⟩ 0 [(Iv x_03), (Iv x_15), (Iv x_23), (Iv x_31), (Iv x_41), (Iv x_51), (Iv x_61), (Iv x_71), (Iv x_81), (Iv x_91), (Iv x_101), (Iv x_111), (.bool x_121), (.slice x_13_a1 x_13_l1 x_13_c1)] fun w16 =>
 (∃ r_01 r_13 r_21 r_31 r_41 r_51 r_61 r_71 r_81 r_91 r_101 r_111 : Int, ∃ r_121 : Bool, ∃ r_13_a1 : OA, ∃ r_13_l1 r_13_c1 : Nat, cellsAt w16 ⟨b1, 0, none⟩ 0 [(Iv r_01), (Iv r_13), (Iv r_21), (Iv r_31), (Iv r_41), (Iv r_51), (Iv r_61), (Iv r_71), (Iv r_81), (Iv r_91), (Iv r_101), (Iv r_111), (.bool r_121), (.slice r_13_a1 r_13_l1 r_13_c1)] ∧
 R (.agg #[Iv r_01, Iv r_13, Iv r_21, Iv r_31, Iv r_41, Iv r_51, Iv r_61, Iv r_71, Iv r_81, Iv r_91, Iv r_101, Iv r_111, .bool r_121, .slice r_13_a1 r_13_l1 r_13_c1]) w16))))))))))))))
theorem F_ref21_Copy_eq (r_0 r_1 r_2 r_3 r_4 r_5 r_6 r_7 r_8 r_9 r_10 r_11 : Int) (r_12 : Bool) (r_13_a : Option Addr) (r_13_l r_13_c : Nat) (w : World) (R : Value → World → Prop) : sxFn Tryz.prog TT h_ref21_Copy Tryz.f69 #[(.agg #[.int .i64 r_0, .int .i64 r_1, .int .i64 r_2, .int .i64 r_3, .int .i64 r_4, .int .i64 r_5, .int .i64 r_6, .int .i64 r_7, .int .i64 r_8, .int .i64 r_9, .int .i64 r_10, .int .i64 r_11, .bool r_12, .slice r_13_a r_13_l r_13_c])] w R = F_ref21_Copy r_0 r_1 r_2 r_3 r_4 r_5 r_6 r_7 r_8 r_9 r_10 r_11 r_12 r_13_a r_13_l r_13_c w R := by kernel_rfl
theorem F_ref21_Copy_ok {R : Ending → World → Prop} (r_0 r_1 r_2 r_3 r_4 r_5 r_6 r_7 r_8 r_9 r_10 r_11 : Int) (r_12 : Bool) (r_13_a : Option Addr) (r_13_l r_13_c : Nat) (w : World) (h : F_ref21_Copy r_0 r_1 r_2 r_3 r_4 r_5 r_6 r_7 r_8 r_9 r_10 r_11 r_12 r_13_a r_13_l r_13_c w fun v w' => R (.returned v) w') : Calls Tryz.prog N_ref21_Copy #[(.agg #[.int .i64 r_0, .int .i64 r_1, .int .i64 r_2, .int .i64 r_3, .int .i64 r_4, .int .i64 r_5, .int .i64 r_6, .int .i64 r_7, .int .i64 r_8, .int .i64 r_9, .int .i64 r_10, .int .i64 r_11, .bool r_12, .slice r_13_a r_13_l r_13_c])] w R :=
 calls_of (f := 69) follows_ok Tryz.func69 (Eq.mpr (F_ref21_Copy_eq r_0 r_1 r_2 r_3 r_4 r_5 r_6 r_7 r_8 r_9 r_10 r_11 r_12 r_13_a r_13_l r_13_c w _) h)

def h_ref18_Decode : H := (.seq .reg (.seq (.seq .reg (.cond (.seq .reg .leaf) .leaf)) (.seq (.seq .reg (.cond (.seq .reg .leaf) .leaf)) (.seq .reg (.seq .reg (.seq .reg (.seq (.seq .reg (.cond (.seq .reg .leaf) .leaf)) (.cut [] [36, 37, 38, 39, 40] (.seq .reg (.cond .reg .leaf)) (.seq .reg (.seq (.seq .reg (.cond (.seq .reg .leaf) .leaf)) (.seq .reg .leaf)))))))))))
def F_ref18_Decode (bits : Int) (b_a : OA) (b_l b_c : Nat) (w : World) (R : Value → WP) : Prop :=
 (kAlloc w #[Iv (0 : Int), Iv (0 : Int), Iv (0 : Int), Iv (0 : Int), .slice none 0 0] Ty_api_Piece fun b w1 =>
 (CP N_ref15_Bits #[(Iv bits)] w1 fun e_ w2 =>
 ∃ r : Bool, e_ = .returned (.bool r) ∧
 (bsplit (!r)
 ((sxStore w2 ⟨b, 0, none⟩ 0 [(Iv (0 : Int)), (Iv (0 : Int)), (Iv (0 : Int)), (Iv (0 : Int)), (.slice none 0 0)] fun w3 =>
 (∃ r_0 r_1 r_2 r_3 : Int, ∃ r_4_a : OA, ∃ r_4_l r_4_c : Nat, cellsAt w3 ⟨b, 0, none⟩ 0 [(Iv r_0), (Iv r_1), (Iv r_2), (Iv r_3), (.slice r_4_a r_4_l r_4_c)] ∧
 R (.tuple #[(.agg #[Iv r_0, Iv r_1, Iv r_2, Iv r_3, .slice r_4_a r_4_l r_4_c]), (Iv (3 : Int))]) w3)))
 ((bsplit (decide ((b_l : Int) < (2 : Int)))
 ((sxStore w2 ⟨b, 0, none⟩ 0 [(Iv (0 : Int)), (Iv (0 : Int)), (Iv (0 : Int)), (Iv (0 : Int)), (.slice none 0 0)] fun w4 =>
 (∃ r_01 r_11 r_21 r_31 : Int, ∃ r_4_a1 : OA, ∃ r_4_l1 r_4_c1 : Nat, cellsAt w4 ⟨b, 0, none⟩ 0 [(Iv r_01), (Iv r_11), (Iv r_21), (Iv r_31), (.slice r_4_a1 r_4_l1 r_4_c1)] ∧
 R (.tuple #[(.agg #[Iv r_01, Iv r_11, Iv r_21, Iv r_31, .slice r_4_a1 r_4_l1 r_4_c1]), (Iv (5 : Int))]) w4)))
 ((CP N_ref01_Get #[(.slice b_a b_l b_c), (Iv (0 : Int)), (Iv (2 : Int))] w2 fun e_1 w5 =>
 ∃ r1 : Int, e_1 = .returned (Iv r1) ∧
 (kLet (Int.fdiv r1 (2 ^ 14)) fun x =>
 (kLet (bAnd .i64 x (1 : Int)) fun x1 =>
 (kLet (Int.fdiv r1 (2 ^ 12)) fun x2 =>
 (kLet (bAnd .i64 x2 (3 : Int)) fun x3 =>
 (kLet (bAnd .i64 r1 (4095 : Int)) fun x4 =>
 (kAlloc w5 #[Iv (0 : Int), Iv (0 : Int), Iv (0 : Int), Iv (0 : Int), .slice none 0 0] Ty_api_Piece fun b1 w6 =>
 (sxStore w6 ⟨b1, 0, none⟩ 0 [(Iv x4), (Iv x3), (Iv x1), (Iv (0 : Int)), (.slice none 0 0)] fun w7 =>
 (kLd w7 ⟨b1, 1, none⟩ .i64 fun x5 =>
 (CP N_ref18_Head #[(Iv x5)] w7 fun e_2 w8 =>
 ∃ r2 : Int, e_2 = .returned (Iv r2) ∧
 (bsplit (decide ((b_l : Int) ≤ r2))
 ((sxStore w8 ⟨b, 0, none⟩ 0 [(Iv (0 : Int)), (Iv (0 : Int)), (Iv (0 : Int)), (Iv (0 : Int)), (.slice none 0 0)] fun w9 =>
 (∃ r_02 r_12 r_22 r_32 : Int, ∃ r_4_a2 : OA, ∃ r_4_l2 r_4_c2 : Nat, cellsAt w9 ⟨b, 0, none⟩ 0 [(Iv r_02), (Iv r_12), (Iv r_22), (Iv r_32), (.slice r_4_a2 r_4_l2 r_4_c2)] ∧
 R (.tuple #[(.agg #[Iv r_02, Iv r_12, Iv r_22, Iv r_32, .slice r_4_a2 r_4_l2 r_4_c2]), (Iv (5 : Int))]) w9)))
 ((∃ J : WP,
 (∀ (_ : Env)  (w12 : World), J w12 →
 ((0 ≤ r2 ∧ r2 ≤ ((b_l : Nat) : Int)) ∧ (AppP Tryz.prog #[Ty_S_uint8, Ty_S_uint8] Ty_S_uint8 #[(.slice none 0 0), (.slice (slAddr b_c (r2.toNat) 1 b_a) (b_l - r2.toNat) (b_c - r2.toNat))] w12 fun x_a x_l x_c w13 =>
 (kSet w13 ⟨b1, 4, none⟩ (.slice x_a x_l x_c) fun w14 =>
 (bsplit (decide (r1 < (32768 : Int)))
 ((sxStore w14 ⟨b, 0, none⟩ 0 [(Iv (0 : Int)), (Iv (0 : Int)), (Iv (0 : Int)), (Iv (0 : Int)), (.slice none 0 0)] fun w15 =>
 (∃ r_03 r_13 r_23 r_33 : Int, ∃ r_4_a3 : OA, ∃ r_4_l3 r_4_c3 : Nat, cellsAt w15 ⟨b, 0, none⟩ 0 [(Iv r_03), (Iv r_13), (Iv r_23), (Iv r_33), (.slice r_4_a3 r_4_l3 r_4_c3)] ∧
 R (.tuple #[(.agg #[Iv r_03, Iv r_13, Iv r_23, Iv r_33, .slice r_4_a3 r_4_l3 r_4_c3]), (Iv (4 : Int))]) w15)))
 ((∃ x_01 x_11 x_21 x_31 : Int, ∃ x_4_a1 : OA, ∃ x_4_l1 x_4_c1 : Nat, cellsAt w14 ⟨b1, 0, none⟩ 0 [(Iv x_01), (Iv x_11), (Iv x_21), (Iv x_31), (.slice x_4_a1 x_4_l1 x_4_c1)] ∧
 (CP N_ref18_Valid #[(Iv bits), (.agg #[Iv x_01, Iv x_11, Iv x_21, Iv x_31, .slice x_4_a1 x_4_l1 x_4_c1])] w14 fun e_4 w17 =>
 ∃ r4 : Bool, e_4 = .returned (.bool r4) ∧
 (bsplit (!r4)
 ((sxStore w17 ⟨b, 0, none⟩ 0 [(Iv (0 : Int)), (Iv (0 : Int)), (Iv (0 : Int)), (Iv (0 : Int)), (.slice none 0 0)] fun w18 =>
 (∃ r_05 r_15 r_25 r_35 : Int, ∃ r_4_a5 : OA, ∃ r_4_l5 r_4_c5 : Nat, cellsAt w18 ⟨b, 0, none⟩ 0 [(Iv r_05), (Iv r_15), (Iv r_25), (Iv r_35), (.slice r_4_a5 r_4_l5 r_4_c5)] ∧
 R (.tuple #[(.agg #[Iv r_05, Iv r_15, Iv r_25, Iv r_35, .slice r_4_a5 r_4_l5 r_4_c5]), (Iv (4 : Int))]) w18)))
 ((∃ x_02 x_12 x_22 x_32 : Int, ∃ x_4_a2 : OA, ∃ x_4_l2 x_4_c2 : Nat, cellsAt w17 ⟨b1, 0, none⟩ 0 [(Iv x_02), (Iv x_12), (Iv x_22), (Iv x_32), (.slice x_4_a2 x_4_l2 x_4_c2)] ∧
 (sxStore w17 ⟨b, 0, none⟩ 0 [(Iv x_02), (Iv x_12), (Iv x_22), (Iv x_32), (.slice x_4_a2 x_4_l2 x_4_c2)] fun w19 =>
 (∃ r_06 r_16 r_26 r_36 : Int, ∃ r_4_a6 : OA, ∃ r_4_l6 r_4_c6 : Nat, cellsAt w19 ⟨b, 0, none⟩ 0 [(Iv r_06), (Iv r_16), (Iv r_26), (Iv r_36), (.slice r_4_a6 r_4_l6 r_4_c6)] ∧
 R (.tuple #[(.agg #[Iv r_06, Iv r_16, Iv r_26, Iv r_36, .slice r_4_a6 r_4_l6 r_4_c6]), (Iv (0 : Int))]) w19))))))))))))) ∧
 (bsplit (decide (r2 = (4 : Int)))
 ((CP N_ref01_Get #[(.slice b_a b_l b_c), (Iv (2 : Int)), (Iv (2 : Int))] w8 fun e_3 w10 =>
 ∃ r3 : Int, e_3 = .returned (Iv r3) ∧
 (kSet w10 ⟨b1, 3, none⟩ (Iv r3) fun w11 =>
 J w11)))
 (J w8)))))))))))))))))))))
theorem F_ref18_Decode_eq (bits : Int) (b_a : Option Addr) (b_l b_c : Nat) (w : World) (R : Value → World → Prop) : sxFn Tryz.prog TT h_ref18_Decode Tryz.f70 #[(.int .i64 bits), (.slice b_a b_l b_c)] w R = F_ref18_Decode bits b_a b_l b_c w R := by kernel_rfl
theorem F_ref18_Decode_ok {R : Ending → World → Prop} (bits : Int) (b_a : Option Addr) (b_l b_c : Nat) (w : World) (h : F_ref18_Decode bits b_a b_l b_c w fun v w' => R (.returned v) w') : Calls Tryz.prog N_ref18_Decode #[(.int .i64 bits), (.slice b_a b_l b_c)] w R :=
 calls_of (f := 70) follows_ok Tryz.func70 (Eq.mpr (F_ref18_Decode_eq bits b_a b_l b_c w _) h)

def h_ref21_put : H := (.seq .reg (.seq (.seq (.draw .blk (.one 0 .pre (.one 1 .pre (.one 2 .pre (.one 4 .stable (.one 5 .stable (.one 6 .stable (.one 7 .stable (.one 8 .stable (.one 9 .stable (.one 3 .keep (.one 10 .stable .nil)))))))))))) (.cond (.seq .reg .leaf) .leaf)) (.seq .reg (.cut [(7, .p (.int .i64))] [7, 23, 24, 25, 26, 27, 28, 29, 30, 31, 32, 33, 34, 35, 36, 37, 38, 39, 40, 41, 42, 43, 44] (.block (.loop [(7, .p (.int .i64))] [7, 23, 24, 25, 26, 27, 28, 29, 30, 31, 32, 33, 34, 35, 36, 37, 38, 39, 40, 41, 42, 43, 44] (.seq (.seq (.draw .blk (.one 0 .pre (.one 1 .pre (.one 2 .pre (.one 3 .pre (.one 4 .pre (.one 5 .pre (.one 6 .pre (.one 7 .pre (.one 8 .pre (.one 9 .pre (.one 10 .pre (.one 11 .pre (.one 12 .pre (.one 14 .stable (.one 15 .stable (.one 16 .stable (.one 13 .keep (.one 17 .keep (.one 18 .stable (.one 19 .stable .nil))))))))))))))))))))) (.cond .leaf .leaf)) (.block .reg)))) (.seq .reg (.cut [(9, .p .bool)] [9, 48, 49, 50, 51, 52, 53, 54, 55, 56, 57, 58, 59, 60, 61, 62, 63] (.draw .no (.one 0 .stable (.one 1 .stable (.one 2 .stable (.one 3 .stable (.one 4 .stable (.one 5 .stable (.one 6 .stable (.one 7 .stable (.one 8 .stable (.one 9 .stable (.one 10 .stable (.one 11 .stable (.one 12 .stable (.one 13 .stable (.one 14 .stable (.one 15 .stable (.one 16 .stable .nil)))))))))))))))))) (.cut [] [5, 6, 64, 65, 66, 67, 68, 69, 70, 71, 72, 73, 74, 75, 76, 77, 78, 79, 80] (.seq .reg (.cond (.seq .reg (.seq (.seq .reg (.cond (.seq .reg .leaf) .leaf)) (.seq (.seq .reg (.cond (.seq .reg .leaf) .leaf)) (.seq .reg (.cond (.seq .reg .leaf) .leaf))))) .leaf)) (.seq .reg (.seq .reg (.cut [(10, .p .slice)] [10, 84, 85, 86, 87, 88, 89, 90] (.seq .reg (.cond (.seq .reg .reg) .leaf)) (.cut [] [91, 92, 93, 94, 95, 96, 97, 98, 99, 100, 101, 102, 103, 104, 105, 106, 107, 108, 109] (.seq .reg (.cond .reg (.draw .blk (.one 0 .stable (.one 1 .stable (.one 2 .stable (.one 3 .stable (.one 4 .pre (.one 6 .stable (.one 7 .stable (.one 8 .stable (.one 9 .stable (.one 5 .keep (.one 10 .keep (.one 11 .keep (.one 12 .stable (.one 13 .last .nil))))))))))))))))) (.cut [] [110, 111, 112, 113, 114, 115, 116, 117, 118, 119, 120, 121, 122, 123, 124, 125, 126] (.seq (.draw .blk (.one 0 .pre (.one 1 .pre (.one 2 .pre (.one 4 .stable (.one 5 .stable (.one 6 .stable (.one 3 .keep (.one 7 .keep (.one 8 .stable .nil)))))))))) (.cond .reg .leaf)) (.cut [] [127, 128, 129, 130, 131, 132, 133, 134, 135, 136, 137, 138, 139, 140, 141, 142, 143, 144, 145, 146, 147, 148, 149, 150, 151, 152, 153, 154, 155, 156, 157, 158, 159] (.block (.loopG [] [127, 128, 129, 130, 131, 132, 133, 134, 135, 136, 137, 138, 139, 140, 141, 142, 143, 144, 145, 146, 147, 148, 149, 150, 151, 152, 153, 154, 155, 156, 157, 158, 159] (.cut [] [127, 128, 129, 130, 131, 132, 133, 134, 135, 136, 137, 138, 139, 140, 141, 142, 143, 144, 145, 146, 147] (.seq (.draw .no (.one 0 .stable (.one 1 .stable (.one 2 .stable (.one 3 .stable (.one 4 .stable (.one 5 .stable (.one 6 .stable (.one 7 .stable (.one 8 .stable (.one 9 .stable (.one 10 .stable (.one 11 .stable (.one 12 .stable (.one 13 .stable (.one 14 .stable (.one 15 .stable (.one 16 .stable (.one 17 .stable (.one 18 .stable (.one 19 .stable (.one 20 .stable .nil)))))))))))))))))))))) (.cond .leaf .leaf)) (.block (.seq .reg .reg))))) (.seq (.seq (.draw .blk (.one 0 .pre (.one 1 .pre (.one 2 .pre (.one 4 .stable (.one 5 .stable (.one 6 .stable (.one 3 .keep (.one 7 .keep (.one 8 .stable .nil)))))))))) (.cond .reg .leaf)) (.seq .reg .leaf)))))))))))))))
def F_ref21_put (r_0 r_1 r_2 r_3 r_4 r_5 r_6 r_7 r_8 r_9 r_10 r_11 : Int) (r_12 : Bool) (r_13_a : OA) (r_13_l r_13_c : Nat) (p_0 p_1 p_2 p_3 : Int) (p_4_a : OA) (p_4_l p_4_c : Nat) (w : World) (R : Value → WP) : Prop :=
 (kAlloc w #[(Iv r_0), (Iv r_1), (Iv r_2), (Iv r_3), (Iv r_4), (Iv r_5), (Iv r_6), (Iv r_7), (Iv r_8), (Iv r_9), (Iv r_10), (Iv r_11), (.bool r_12), (.slice r_13_a r_13_l r_13_c)] Ty_api_Receiver fun b w1 =>
 (kAlloc w1 #[(Iv p_0), (Iv p_1), (Iv p_2), (Iv p_3), (.slice p_4_a p_4_l p_4_c)] Ty_api_Piece fun b1 w2 =>
 (kAlloc w2 #[Iv (0 : Int), Iv (0 : Int), Iv (0 : Int), Iv (0 : Int), Iv (0 : Int), Iv (0 : Int), Iv (0 : Int), Iv (0 : Int), Iv (0 : Int), Iv (0 : Int), Iv (0 : Int), Iv (0 : Int), .bool false, .slice none 0 0] Ty_api_Receiver fun b2 w3 =>
 (kDrew w3 fun w4 =>
 (∃ S : Nat → Prop,
 (∃ x_0 x_1 x_2 x_3 x_4 x_5 x_6 x_7 x_8 x_9 x_10 x_11 : Int, ∃ x_12 : Bool, ∃ x_13_a : OA, ∃ x_13_l x_13_c : Nat, cellsAt w4 ⟨b, 0, none⟩ 0 [(Iv x_0), (Iv x_1), (Iv x_2), (Iv x_3), (Iv x_4), (Iv x_5), (Iv x_6), (Iv x_7), (Iv x_8), (Iv x_9), (Iv x_10), (Iv x_11), (.bool x_12), (.slice x_13_a x_13_l x_13_c)] ∧
 (kLd w4 ⟨b1, 0, none⟩ .i64 fun x =>
 (S b ∧
 (kLd w4 ⟨b, 0, none⟩ .i64 fun x1 =>
 (kW .i64 (x1 - (1 : Int)) fun x2 =>
 (kW .u64 (x2) fun x3 =>
 (0 ≤ x3 ∧ (kW .i64 ((1 : Int) * 2 ^ (min x3.toNat (IntKind.bits .i64))) fun x4 =>
 (CP N_ref21_place #[(.agg #[Iv x_0, Iv x_1, Iv x_2, Iv x_3, Iv x_4, Iv x_5, Iv x_6, Iv x_7, Iv x_8, Iv x_9, Iv x_10, Iv x_11, .bool x_12, .slice x_13_a x_13_l x_13_c]), (Iv x)] w4 fun e_ w5 =>
 ∃ r : Int, e_ = .returned (Iv r) ∧
 (KeepsB S w4 w5 ∧ (bsplit (decide (r ≥ x4))
 ((∃ x_01 x_13 x_21 x_31 x_41 x_51 x_61 x_71 x_81 x_91 x_101 x_111 : Int, ∃ x_121 : Bool, ∃ x_13_a1 : OA, ∃ x_13_l1 x_13_c1 : Nat, cellsAt w5 ⟨b, 0, none⟩ 0 [(Iv x_01), (Iv x_13), (Iv x_21), (Iv x_31), (Iv x_41), (Iv x_51), (Iv x_61), (Iv x_71), (Iv x_81), (Iv x_91), (Iv x_101), (Iv x_111), (.bool x_121), (.slice x_13_a1 x_13_l1 x_13_c1)] ∧
 (sxStore w5 ⟨b2, 0, none⟩ 0 [(Iv x_01), (Iv x_13), (Iv x_21), (Iv x_31), (Iv x_41), (Iv x_51), (Iv x_61), (Iv x_71), (Iv x_81), (Iv x_91), (Iv x_101), (Iv x_111), (.bool x_121), (.slice x_13_a1 x_13_l1 x_13_c1)] fun w6 =>
 (∃ r_01 r_13 r_21 r_31 r_41 r_51 r_61 r_71 r_81 r_91 r_101 r_111 : Int, ∃ r_121 : Bool, ∃ r_13_a1 : OA, ∃ r_13_l1 r_13_c1 : Nat, cellsAt w6 ⟨b2, 0, none⟩ 0 [(Iv r_01), (Iv r_13), (Iv r_21), (Iv r_31), (Iv r_41), (Iv r_51), (Iv r_61), (Iv r_71), (Iv r_81), (Iv r_91), (Iv r_101), (Iv r_111), (.bool r_121), (.slice r_13_a1 r_13_l1 r_13_c1)] ∧
 R (.tuple #[(.agg #[Iv r_01, Iv r_13, Iv r_21, Iv r_31, Iv r_41, Iv r_51, Iv r_61, Iv r_71, Iv r_81, Iv r_91, Iv r_101, Iv r_111, .bool r_121, .slice r_13_a1 r_13_l1 r_13_c1]), (.slice none 0 0), (Iv (11 : Int))]) w6))))
 ((∃ J : Int → WP,
 (∀ (_ : Env) (k1 : Int) (w11 : World), J k1 w11 →
 (kLd w11 ⟨b1, 0, none⟩ .i64 fun x9 =>
 (kAlloc w11 #[Iv (0 : Int), .bool false, Iv (0 : Int), .slice none 0 0, .slice none 0 0] Ty_api_Partial fun b4 w12 =>
 (sxStore w12 ⟨b4, 0, none⟩ 0 [(Iv x9), (.bool false), (Iv (-1 : Int)), (.slice none 0 0), (.slice none 0 0)] fun w13 =>
 (∃ J1 : Bool → WP,
 (∀ (_ : Env) (found1 : Bool) (w15 : World), J1 found1 w15 →
 (∃ J2 : WP,
 (∀ (_ : Env)  (w22 : World), J2 w22 →
 (∃ x_012 : Int, ∃ x_120 : Bool, ∃ x_212 : Int, ∃ x_3_a3 : OA, ∃ x_3_l3 x_3_c3 : Nat, ∃ x_4_a5 : OA, ∃ x_4_l5 x_4_c5 : Nat, cellsAt w22 ⟨b4, 0, none⟩ 0 [(Iv x_012), (.bool x_120), (Iv x_212), (.slice x_3_a3 x_3_l3 x_3_c3), (.slice x_4_a5 x_4_l5 x_4_c5)] ∧
 (∃ x_013 x_127 x_213 x_39 : Int, ∃ x_4_a6 : OA, ∃ x_4_l6 x_4_c6 : Nat, cellsAt w22 ⟨b1, 0, none⟩ 0 [(Iv x_013), (Iv x_127), (Iv x_213), (Iv x_39), (.slice x_4_a6 x_4_l6 x_4_c6)] ∧
 (CP N_ref21_merge #[(.agg #[Iv x_012, .bool x_120, Iv x_212, .slice x_3_a3 x_3_l3 x_3_c3, .slice x_4_a5 x_4_l5 x_4_c5]), (.agg #[Iv x_013, Iv x_127, Iv x_213, Iv x_39, .slice x_4_a6 x_4_l6 x_4_c6])] w22 fun e_5 w23 =>
 ∃ r_05 : Int, ∃ r_17 : Bool, ∃ r_25 : Int, ∃ r_3_a : OA, ∃ r_3_l r_3_c : Nat, ∃ r_4_a : OA, ∃ r_4_l r_4_c : Nat, e_5 = .returned (.agg #[Iv r_05, .bool r_17, Iv r_25, .slice r_3_a r_3_l r_3_c, .slice r_4_a r_4_l r_4_c]) ∧
 (sxStore w23 ⟨b4, 0, none⟩ 0 [(Iv r_05), (.bool r_17), (Iv r_25), (.slice r_3_a r_3_l r_3_c), (.slice r_4_a r_4_l r_4_c)] fun w24 =>
 (∃ J3 : OA → Nat → Nat → WP,
 (∀ (_ : Env) (unit_a : OA) (unit_l : Nat) (unit_c : Nat) (w27 : World), J3 unit_a unit_l unit_c w27 →
 (∃ J4 : WP,
 (∀ (_ : Env)  (w34 : World), J4 w34 →
 (∃ J5 : WP,
 (∀ (_ : Env)  (w40 : World), J5 w40 →
 (∃ J6 : WP,
 (∀ (_ : Env)  (w47 : World), J6 w47 →
 (kDrew w47 fun w48 =>
 (∃ S4 : Nat → Prop,
 (∃ x_019 x_133 x_219 x_312 x_49 x_59 x_69 x_79 x_89 x_99 x_109 x_1112 : Int, ∃ x_1212 : Bool, ∃ x_13_a9 : OA, ∃ x_13_l9 x_13_c9 : Nat, cellsAt w48 ⟨b, 0, none⟩ 0 [(Iv x_019), (Iv x_133), (Iv x_219), (Iv x_312), (Iv x_49), (Iv x_59), (Iv x_69), (Iv x_79), (Iv x_89), (Iv x_99), (Iv x_109), (Iv x_1112), (.bool x_1212), (.slice x_13_a9 x_13_l9 x_13_c9)] ∧
 (kLd w48 ⟨b, 8, none⟩ .i64 fun x25 =>
 (S4 b ∧
 (∃ x_020 x_134 x_220 x_313 x_410 x_510 x_610 x_710 x_810 x_910 x_1010 x_1113 : Int, ∃ x_1213 : Bool, ∃ x_13_a10 : OA, ∃ x_13_l10 x_13_c10 : Nat, cellsAt w48 ⟨b, 0, none⟩ 0 [(Iv x_020), (Iv x_134), (Iv x_220), (Iv x_313), (Iv x_410), (Iv x_510), (Iv x_610), (Iv x_710), (Iv x_810), (Iv x_910), (Iv x_1010), (Iv x_1113), (.bool x_1213), (.slice x_13_a10 x_13_l10 x_13_c10)] ∧
 (S4 b ∧
 (kLd w48 ⟨b, 7, none⟩ .i64 fun x26 =>
 (CP N_ref21_place #[(.agg #[Iv x_019, Iv x_133, Iv x_219, Iv x_312, Iv x_49, Iv x_59, Iv x_69, Iv x_79, Iv x_89, Iv x_99, Iv x_109, Iv x_1112, .bool x_1212, .slice x_13_a9 x_13_l9 x_13_c9]), (Iv x25)] w48 fun e_11 w49 =>
 ∃ r10 : Int, e_11 = .returned (Iv r10) ∧
 (KeepsB S4 w48 w49 ∧ (CP N_ref21_place #[(.agg #[Iv x_020, Iv x_134, Iv x_220, Iv x_313, Iv x_410, Iv x_510, Iv x_610, Iv x_710, Iv x_810, Iv x_910, Iv x_1010, Iv x_1113, .bool x_1213, .slice x_13_a10 x_13_l10 x_13_c10]), (Iv x26)] w49 fun e_12 w50 =>
 ∃ r11 : Int, e_12 = .returned (Iv r11) ∧
 (KeepsB S4 w48 w50 ∧ (bsplit (decide (r10 > r11))
 ((kLd w50 ⟨b, 6, none⟩ .i64 fun x27 =>
 (kSet w50 ⟨b, 8, none⟩ (Iv x27) fun w51 =>
 (∃ x_021 x_135 x_221 x_314 x_411 x_511 x_611 x_711 x_811 x_911 x_1011 x_1114 : Int, ∃ x_1214 : Bool, ∃ x_13_a11 : OA, ∃ x_13_l11 x_13_c11 : Nat, cellsAt w51 ⟨b, 0, none⟩ 0 [(Iv x_021), (Iv x_135), (Iv x_221), (Iv x_314), (Iv x_411), (Iv x_511), (Iv x_611), (Iv x_711), (Iv x_811), (Iv x_911), (Iv x_1011), (Iv x_1114), (.bool x_1214), (.slice x_13_a11 x_13_l11 x_13_c11)] ∧
 (CP N_ref21_start #[(.agg #[Iv x_021, Iv x_135, Iv x_221, Iv x_314, Iv x_411, Iv x_511, Iv x_611, Iv x_711, Iv x_811, Iv x_911, Iv x_1011, Iv x_1114, .bool x_1214, .slice x_13_a11 x_13_l11 x_13_c11])] w51 fun e_13 w52 =>
 ∃ r_06 r_18 r_26 r_35 r_45 r_55 r_65 r_75 r_85 r_95 r_105 r_115 : Int, ∃ r_125 : Bool, ∃ r_13_a5 : OA, ∃ r_13_l5 r_13_c5 : Nat, e_13 = .returned (.agg #[Iv r_06, Iv r_18, Iv r_26, Iv r_35, Iv r_45, Iv r_55, Iv r_65, Iv r_75, Iv r_85, Iv r_95, Iv r_105, Iv r_115, .bool r_125, .slice r_13_a5 r_13_l5 r_13_c5]) ∧
 (sxStore w52 ⟨b2, 0, none⟩ 0 [(Iv r_06), (Iv r_18), (Iv r_26), (Iv r_35), (Iv r_45), (Iv r_55), (Iv r_65), (Iv r_75), (Iv r_85), (Iv r_95), (Iv r_105), (Iv r_115), (.bool r_125), (.slice r_13_a5 r_13_l5 r_13_c5)] fun w53 =>
 (∃ r_07 r_19 r_27 r_36 r_46 r_56 r_66 r_76 r_86 r_96 r_106 r_116 : Int, ∃ r_126 : Bool, ∃ r_13_a6 : OA, ∃ r_13_l6 r_13_c6 : Nat, cellsAt w53 ⟨b2, 0, none⟩ 0 [(Iv r_07), (Iv r_19), (Iv r_27), (Iv r_36), (Iv r_46), (Iv r_56), (Iv r_66), (Iv r_76), (Iv r_86), (Iv r_96), (Iv r_106), (Iv r_116), (.bool r_126), (.slice r_13_a6 r_13_l6 r_13_c6)] ∧
 R (.tuple #[(.agg #[Iv r_07, Iv r_19, Iv r_27, Iv r_36, Iv r_46, Iv r_56, Iv r_66, Iv r_76, Iv r_86, Iv r_96, Iv r_106, Iv r_116, .bool r_126, .slice r_13_a6 r_13_l6 r_13_c6]), (.slice unit_a unit_l unit_c), (Iv (0 : Int))]) w53)))))))
 ((∃ x_022 x_136 x_222 x_315 x_412 x_512 x_612 x_712 x_812 x_912 x_1012 x_1115 : Int, ∃ x_1215 : Bool, ∃ x_13_a12 : OA, ∃ x_13_l12 x_13_c12 : Nat, cellsAt w50 ⟨b, 0, none⟩ 0 [(Iv x_022), (Iv x_136), (Iv x_222), (Iv x_315), (Iv x_412), (Iv x_512), (Iv x_612), (Iv x_712), (Iv x_812), (Iv x_912), (Iv x_1012), (Iv x_1115), (.bool x_1215), (.slice x_13_a12 x_13_l12 x_13_c12)] ∧
 (CP N_ref21_start #[(.agg #[Iv x_022, Iv x_136, Iv x_222, Iv x_315, Iv x_412, Iv x_512, Iv x_612, Iv x_712, Iv x_812, Iv x_912, Iv x_1012, Iv x_1115, .bool x_1215, .slice x_13_a12 x_13_l12 x_13_c12])] w50 fun e_14 w54 =>
 ∃ r_08 r_110 r_28 r_37 r_47 r_57 r_67 r_77 r_87 r_97 r_107 r_117 : Int, ∃ r_127 : Bool, ∃ r_13_a7 : OA, ∃ r_13_l7 r_13_c7 : Nat, e_14 = .returned (.agg #[Iv r_08, Iv r_110, Iv r_28, Iv r_37, Iv r_47, Iv r_57, Iv r_67, Iv r_77, Iv r_87, Iv r_97, Iv r_107, Iv r_117, .bool r_127, .slice r_13_a7 r_13_l7 r_13_c7]) ∧
 (sxStore w54 ⟨b2, 0, none⟩ 0 [(Iv r_08), (Iv r_110), (Iv r_28), (Iv r_37), (Iv r_47), (Iv r_57), (Iv r_67), (Iv r_77), (Iv r_87), (Iv r_97), (Iv r_107), (Iv r_117), (.bool r_127), (.slice r_13_a7 r_13_l7 r_13_c7)] fun w55 =>
 (∃ r_09 r_118 r_29 r_38 r_48 r_58 r_68 r_78 r_88 r_98 r_108 r_119 : Int, ∃ r_128 : Bool, ∃ r_13_a8 : OA, ∃ r_13_l8 r_13_c8 : Nat, cellsAt w55 ⟨b2, 0, none⟩ 0 [(Iv r_09), (Iv r_118), (Iv r_29), (Iv r_38), (Iv r_48), (Iv r_58), (Iv r_68), (Iv r_78), (Iv r_88), (Iv r_98), (Iv r_108), (Iv r_119), (.bool r_128), (.slice r_13_a8 r_13_l8 r_13_c8)] ∧
 R (.tuple #[(.agg #[Iv r_09, Iv r_118, Iv r_29, Iv r_38, Iv r_48, Iv r_58, Iv r_68, Iv r_78, Iv r_88, Iv r_98, Iv r_108, Iv r_119, .bool r_128, .slice r_13_a8 r_13_l8 r_13_c8]), (.slice unit_a unit_l unit_c), (Iv (0 : Int))]) w55))))))))))))))))))) ∧
 (∃ I1 : Nat → WP, (∃ m' : Nat, I1 m' w40) ∧
 (∀ (_ : Env)  (m : Nat) (w41 : World), I1 m w41 →
 (∃ J7 : WP,
 (∀ (_ : Env)  (w43 : World), J7 w43 →
 (kLdS w43 ⟨b, 13, none⟩ fun x_a14 x_l14 x_c14 =>
 ((0 ≤ (1 : Int) ∧ (1 : Int) ≤ ((x_l14 : Nat) : Int)) ∧ (kSet w43 ⟨b, 13, none⟩ (.slice (slAddr x_c14 ((1 : Int).toNat) 5 x_a14) (x_l14 - (1 : Int).toNat) (x_c14 - (1 : Int).toNat)) fun w44 =>
 (kLd w44 ⟨b, 0, none⟩ .i64 fun x22 =>
 (kLd w44 ⟨b, 6, none⟩ .i64 fun x23 =>
 (kW .i64 (x23 + (1 : Int)) fun x24 =>
 (CP N_ref02_Low #[(Iv x22), (Iv x24)] w44 fun e_10 w45 =>
 ∃ r9 : Int, e_10 = .returned (Iv r9) ∧
 (kSet w45 ⟨b, 6, none⟩ (Iv r9) fun w46 =>
 (∃ m' : Nat, m' < m ∧ I1 m' w46)))))))))) ∧
 (kDrew w41 fun w42 =>
 (kLdS w42 ⟨b, 13, none⟩ fun _ x_l11 _ =>
 (bsplit (decide ((x_l11 : Int) > (0 : Int)))
 ((kLdS w42 ⟨b, 13, none⟩ fun x_a12 x_l12 _ =>
 (kIx x_a12 x_l12 (0 : Int) fun b9 =>
 (kLdB w42 ((b9.add ((0 : Int).toNat * 5)).add 1) fun x19 =>
 (bsplit x19
 ((kLdS w42 ⟨b, 13, none⟩ fun x_a13 x_l13 _ =>
 (kIx x_a13 x_l13 (0 : Int) fun b10 =>
 (kLd w42 (b10.add ((0 : Int).toNat * 5)) .i64 fun x20 =>
 (kLd w42 ⟨b, 6, none⟩ .i64 fun x21 =>
 (bsplit (decide (x20 = x21))
 (J7 w42)
 (J6 w42)))))))
 (J6 w42))))))
 (J6 w42))))))))) ∧
 (kDrew w34 fun w35 =>
 (∃ S3 : Nat → Prop,
 (∃ x_017 x_131 x_217 x_310 x_47 x_57 x_67 x_77 x_87 x_97 x_107 x_1110 : Int, ∃ x_1210 : Bool, ∃ x_13_a7 : OA, ∃ x_13_l7 x_13_c7 : Nat, cellsAt w35 ⟨b, 0, none⟩ 0 [(Iv x_017), (Iv x_131), (Iv x_217), (Iv x_310), (Iv x_47), (Iv x_57), (Iv x_67), (Iv x_77), (Iv x_87), (Iv x_97), (Iv x_107), (Iv x_1110), (.bool x_1210), (.slice x_13_a7 x_13_l7 x_13_c7)] ∧
 (kLd w35 ⟨b1, 0, none⟩ .i64 fun x14 =>
 (S3 b ∧
 (∃ x_018 x_132 x_218 x_311 x_48 x_58 x_68 x_78 x_88 x_98 x_108 x_1111 : Int, ∃ x_1211 : Bool, ∃ x_13_a8 : OA, ∃ x_13_l8 x_13_c8 : Nat, cellsAt w35 ⟨b, 0, none⟩ 0 [(Iv x_018), (Iv x_132), (Iv x_218), (Iv x_311), (Iv x_48), (Iv x_58), (Iv x_68), (Iv x_78), (Iv x_88), (Iv x_98), (Iv x_108), (Iv x_1111), (.bool x_1211), (.slice x_13_a8 x_13_l8 x_13_c8)] ∧
 (S3 b ∧
 (kLd w35 ⟨b, 7, none⟩ .i64 fun x15 =>
 (CP N_ref21_place #[(.agg #[Iv x_017, Iv x_131, Iv x_217, Iv x_310, Iv x_47, Iv x_57, Iv x_67, Iv x_77, Iv x_87, Iv x_97, Iv x_107, Iv x_1110, .bool x_1210, .slice x_13_a7 x_13_l7 x_13_c7]), (Iv x14)] w35 fun e_7 w36 =>
 ∃ r6 : Int, e_7 = .returned (Iv r6) ∧
 (KeepsB S3 w35 w36 ∧ (CP N_ref21_place #[(.agg #[Iv x_018, Iv x_132, Iv x_218, Iv x_311, Iv x_48, Iv x_58, Iv x_68, Iv x_78, Iv x_88, Iv x_98, Iv x_108, Iv x_1111, .bool x_1211, .slice x_13_a8 x_13_l8 x_13_c8]), (Iv x15)] w36 fun e_8 w37 =>
 ∃ r7 : Int, e_8 = .returned (Iv r7) ∧
 (KeepsB S3 w35 w37 ∧ (bsplit (decide (r6 ≥ r7))
 ((kLd w37 ⟨b, 0, none⟩ .i64 fun x16 =>
 (kLd w37 ⟨b1, 0, none⟩ .i64 fun x17 =>
 (kW .i64 (x17 + (1 : Int)) fun x18 =>
 (CP N_ref02_Low #[(Iv x16), (Iv x18)] w37 fun e_9 w38 =>
 ∃ r8 : Int, e_9 = .returned (Iv r8) ∧
 (kSet w38 ⟨b, 7, none⟩ (Iv r8) fun w39 =>
 J5 w39))))))
 (J5 w37)))))))))))))))) ∧
 (bsplit found1
 ((kLdS w27 ⟨b, 13, none⟩ fun x_a6 x_l6 _ =>
 (∃ x_015 : Int, ∃ x_129 : Bool, ∃ x_215 : Int, ∃ x_3_a5 : OA, ∃ x_3_l5 x_3_c5 : Nat, ∃ x_4_a8 : OA, ∃ x_4_l8 x_4_c8 : Nat, cellsAt w27 ⟨b4, 0, none⟩ 0 [(Iv x_015), (.bool x_129), (Iv x_215), (.slice x_3_a5 x_3_l5 x_3_c5), (.slice x_4_a8 x_4_l8 x_4_c8)] ∧
 (kIx x_a6 x_l6 k1 fun b7 =>
 (sxStore w27 (b7.add (k1.toNat * 5)) 0 [(Iv x_015), (.bool x_129), (Iv x_215), (.slice x_3_a5 x_3_l5 x_3_c5), (.slice x_4_a8 x_4_l8 x_4_c8)] fun w28 =>
 J4 w28)))))
 ((kDrew w27 fun w29 =>
 (∃ S2 : Nat → Prop,
 (S2 b ∧
 (kLdS w29 ⟨b, 13, none⟩ fun x_a7 _ x_c7 =>
 ((0 ≤ k1 ∧ k1 ≤ ((x_c7 : Nat) : Int)) ∧ (∃ x_016 : Int, ∃ x_130 : Bool, ∃ x_216 : Int, ∃ x_3_a6 : OA, ∃ x_3_l6 x_3_c6 : Nat, ∃ x_4_a9 : OA, ∃ x_4_l9 x_4_c9 : Nat, cellsAt w29 ⟨b4, 0, none⟩ 0 [(Iv x_016), (.bool x_130), (Iv x_216), (.slice x_3_a6 x_3_l6 x_3_c6), (.slice x_4_a9 x_4_l9 x_4_c9)] ∧
 (S2 b ∧
 (kLdS w29 ⟨b, 13, none⟩ fun x_a8 x_l8 x_c8 =>
 ((0 ≤ k1 ∧ k1 ≤ ((x_l8 : Nat) : Int)) ∧ (kAlloc w29 #[(Iv x_016), (.bool x_130), (Iv x_216), (.slice x_3_a6 x_3_l6 x_3_c6), (.slice x_4_a9 x_4_l9 x_4_c9)] Ty_api_Partial fun b8 w30 =>
 (KeepsB S2 w29 w30 ∧ (AppP Tryz.prog #[Ty_S_api_Partial, Ty_S_api_Partial] Ty_S_api_Partial #[(.slice (some ⟨b8, 0, none⟩) 1 1), (.slice (slAddr x_c8 (k1.toNat) 5 x_a8) (x_l8 - k1.toNat) (x_c8 - k1.toNat))] w30 fun x_a9 x_l9 x_c9 w31 =>
 (KeepsB S2 w29 w31 ∧ (AppP Tryz.prog #[Ty_S_api_Partial, Ty_S_api_Partial] Ty_S_api_Partial #[(.slice (slAddr x_c7 0 5 x_a7) (k1.toNat - 0) (x_c7 - 0)), (.slice x_a9 x_l9 x_c9)] w31 fun x_a10 x_l10 x_c10 w32 =>
 (KeepsB S2 w29 w32 ∧ (kSet w32 ⟨b, 13, none⟩ (.slice x_a10 x_l10 x_c10) fun w33 =>
 J4 w33)))))))))))))))))))) ∧
 (∃ x_014 : Int, ∃ x_128 : Bool, ∃ x_214 : Int, ∃ x_3_a4 : OA, ∃ x_3_l4 x_3_c4 : Nat, ∃ x_4_a7 : OA, ∃ x_4_l7 x_4_c7 : Nat, cellsAt w24 ⟨b4, 0, none⟩ 0 [(Iv x_014), (.bool x_128), (Iv x_214), (.slice x_3_a4 x_3_l4 x_3_c4), (.slice x_4_a7 x_4_l7 x_4_c7)] ∧
 (CP N_ref21_whole #[(.agg #[Iv x_014, .bool x_128, Iv x_214, .slice x_3_a4 x_3_l4 x_3_c4, .slice x_4_a7 x_4_l7 x_4_c7])] w24 fun e_6 w25 =>
 ∃ r5 : Bool, e_6 = .returned (.bool r5) ∧
 (bsplit r5
 ((kLdS w25 ⟨b4, 3, none⟩ fun x_a5 x_l5 x_c5 =>
 (kLd w25 ⟨b1, 0, none⟩ .i64 fun x13 =>
 (sxStore w25 ⟨b4, 0, none⟩ 0 [(Iv x13), (.bool true), (Iv (0 : Int)), (.slice none 0 0), (.slice none 0 0)] fun w26 =>
 J3 x_a5 x_l5 x_c5 w26))))
 (J3 none 0 0 w25)))))))))) ∧
 (bsplit found1
 ((kLdS w15 ⟨b, 13, none⟩ fun x_a4 x_l4 _ =>
 (kIx x_a4 x_l4 k1 fun b6 =>
 (∃ x_04 : Int, ∃ x_16 : Bool, ∃ x_24 : Int, ∃ x_3_a : OA, ∃ x_3_l x_3_c : Nat, ∃ x_4_a : OA, ∃ x_4_l x_4_c : Nat, cellsAt w15 (b6.add (k1.toNat * 5)) 0 [(Iv x_04), (.bool x_16), (Iv x_24), (.slice x_3_a x_3_l x_3_c), (.slice x_4_a x_4_l x_4_c)] ∧
 (sxStore w15 ⟨b4, 0, none⟩ 0 [(Iv x_04), (.bool x_16), (Iv x_24), (.slice x_3_a x_3_l x_3_c), (.slice x_4_a x_4_l x_4_c)] fun w16 =>
 (kLdB w16 ⟨b4, 1, none⟩ fun x12 =>
 (bsplit x12
 ((∃ x_05 x_17 x_25 x_34 x_44 x_54 x_64 x_74 x_84 x_94 x_104 x_114 : Int, ∃ x_124 : Bool, ∃ x_13_a4 : OA, ∃ x_13_l4 x_13_c4 : Nat, cellsAt w16 ⟨b, 0, none⟩ 0 [(Iv x_05), (Iv x_17), (Iv x_25), (Iv x_34), (Iv x_44), (Iv x_54), (Iv x_64), (Iv x_74), (Iv x_84), (Iv x_94), (Iv x_104), (Iv x_114), (.bool x_124), (.slice x_13_a4 x_13_l4 x_13_c4)] ∧
 (sxStore w16 ⟨b2, 0, none⟩ 0 [(Iv x_05), (Iv x_17), (Iv x_25), (Iv x_34), (Iv x_44), (Iv x_54), (Iv x_64), (Iv x_74), (Iv x_84), (Iv x_94), (Iv x_104), (Iv x_114), (.bool x_124), (.slice x_13_a4 x_13_l4 x_13_c4)] fun w17 =>
 (∃ r_02 r_14 r_22 r_32 r_42 r_52 r_62 r_72 r_82 r_92 r_102 r_112 : Int, ∃ r_122 : Bool, ∃ r_13_a2 : OA, ∃ r_13_l2 r_13_c2 : Nat, cellsAt w17 ⟨b2, 0, none⟩ 0 [(Iv r_02), (Iv r_14), (Iv r_22), (Iv r_32), (Iv r_42), (Iv r_52), (Iv r_62), (Iv r_72), (Iv r_82), (Iv r_92), (Iv r_102), (Iv r_112), (.bool r_122), (.slice r_13_a2 r_13_l2 r_13_c2)] ∧
 R (.tuple #[(.agg #[Iv r_02, Iv r_14, Iv r_22, Iv r_32, Iv r_42, Iv r_52, Iv r_62, Iv r_72, Iv r_82, Iv r_92, Iv r_102, Iv r_112, .bool r_122, .slice r_13_a2 r_13_l2 r_13_c2]), (.slice none 0 0), (Iv (12 : Int))]) w17))))
 ((∃ x_06 : Int, ∃ x_18 : Bool, ∃ x_26 : Int, ∃ x_3_a1 : OA, ∃ x_3_l1 x_3_c1 : Nat, ∃ x_4_a1 : OA, ∃ x_4_l1 x_4_c1 : Nat, cellsAt w16 ⟨b4, 0, none⟩ 0 [(Iv x_06), (.bool x_18), (Iv x_26), (.slice x_3_a1 x_3_l1 x_3_c1), (.slice x_4_a1 x_4_l1 x_4_c1)] ∧
 (∃ x_07 x_19 x_27 x_35 : Int, ∃ x_4_a2 : OA, ∃ x_4_l2 x_4_c2 : Nat, cellsAt w16 ⟨b1, 0, none⟩ 0 [(Iv x_07), (Iv x_19), (Iv x_27), (Iv x_35), (.slice x_4_a2 x_4_l2 x_4_c2)] ∧
 (CP N_ref21_contradicts #[(.agg #[Iv x_06, .bool x_18, Iv x_26, .slice x_3_a1 x_3_l1 x_3_c1, .slice x_4_a1 x_4_l1 x_4_c1]), (.agg #[Iv x_07, Iv x_19, Iv x_27, Iv x_35, .slice x_4_a2 x_4_l2 x_4_c2])] w16 fun e_3 w18 =>
 ∃ r3 : Bool, e_3 = .returned (.bool r3) ∧
 (bsplit r3
 ((∃ x_08 x_110 x_28 x_36 x_45 x_55 x_65 x_75 x_85 x_95 x_105 x_115 : Int, ∃ x_125 : Bool, ∃ x_13_a5 : OA, ∃ x_13_l5 x_13_c5 : Nat, cellsAt w18 ⟨b, 0, none⟩ 0 [(Iv x_08), (Iv x_110), (Iv x_28), (Iv x_36), (Iv x_45), (Iv x_55), (Iv x_65), (Iv x_75), (Iv x_85), (Iv x_95), (Iv x_105), (Iv x_115), (.bool x_125), (.slice x_13_a5 x_13_l5 x_13_c5)] ∧
 (sxStore w18 ⟨b2, 0, none⟩ 0 [(Iv x_08), (Iv x_110), (Iv x_28), (Iv x_36), (Iv x_45), (Iv x_55), (Iv x_65), (Iv x_75), (Iv x_85), (Iv x_95), (Iv x_105), (Iv x_115), (.bool x_125), (.slice x_13_a5 x_13_l5 x_13_c5)] fun w19 =>
 (∃ r_03 r_15 r_23 r_33 r_43 r_53 r_63 r_73 r_83 r_93 r_103 r_113 : Int, ∃ r_123 : Bool, ∃ r_13_a3 : OA, ∃ r_13_l3 r_13_c3 : Nat, cellsAt w19 ⟨b2, 0, none⟩ 0 [(Iv r_03), (Iv r_15), (Iv r_23), (Iv r_33), (Iv r_43), (Iv r_53), (Iv r_63), (Iv r_73), (Iv r_83), (Iv r_93), (Iv r_103), (Iv r_113), (.bool r_123), (.slice r_13_a3 r_13_l3 r_13_c3)] ∧
 R (.tuple #[(.agg #[Iv r_03, Iv r_15, Iv r_23, Iv r_33, Iv r_43, Iv r_53, Iv r_63, Iv r_73, Iv r_83, Iv r_93, Iv r_103, Iv r_113, .bool r_123, .slice r_13_a3 r_13_l3 r_13_c3]), (.slice none 0 0), (Iv (4 : Int))]) w19))))
 ((∃ x_09 : Int, ∃ x_116 : Bool, ∃ x_29 : Int, ∃ x_3_a2 : OA, ∃ x_3_l2 x_3_c2 : Nat, ∃ x_4_a3 : OA, ∃ x_4_l3 x_4_c3 : Nat, cellsAt w18 ⟨b4, 0, none⟩ 0 [(Iv x_09), (.bool x_116), (Iv x_29), (.slice x_3_a2 x_3_l2 x_3_c2), (.slice x_4_a3 x_4_l3 x_4_c3)] ∧
 (∃ x_010 x_117 x_210 x_37 : Int, ∃ x_4_a4 : OA, ∃ x_4_l4 x_4_c4 : Nat, cellsAt w18 ⟨b1, 0, none⟩ 0 [(Iv x_010), (Iv x_117), (Iv x_210), (Iv x_37), (.slice x_4_a4 x_4_l4 x_4_c4)] ∧
 (CP N_ref21_has #[(.agg #[Iv x_09, .bool x_116, Iv x_29, .slice x_3_a2 x_3_l2 x_3_c2, .slice x_4_a3 x_4_l3 x_4_c3]), (.agg #[Iv x_010, Iv x_117, Iv x_210, Iv x_37, .slice x_4_a4 x_4_l4 x_4_c4])] w18 fun e_4 w20 =>
 ∃ r4 : Bool, e_4 = .returned (.bool r4) ∧
 (bsplit r4
 ((∃ x_011 x_118 x_211 x_38 x_46 x_56 x_66 x_76 x_86 x_96 x_106 x_119 : Int, ∃ x_126 : Bool, ∃ x_13_a6 : OA, ∃ x_13_l6 x_13_c6 : Nat, cellsAt w20 ⟨b, 0, none⟩ 0 [(Iv x_011), (Iv x_118), (Iv x_211), (Iv x_38), (Iv x_46), (Iv x_56), (Iv x_66), (Iv x_76), (Iv x_86), (Iv x_96), (Iv x_106), (Iv x_119), (.bool x_126), (.slice x_13_a6 x_13_l6 x_13_c6)] ∧
 (sxStore w20 ⟨b2, 0, none⟩ 0 [(Iv x_011), (Iv x_118), (Iv x_211), (Iv x_38), (Iv x_46), (Iv x_56), (Iv x_66), (Iv x_76), (Iv x_86), (Iv x_96), (Iv x_106), (Iv x_119), (.bool x_126), (.slice x_13_a6 x_13_l6 x_13_c6)] fun w21 =>
 (∃ r_04 r_16 r_24 r_34 r_44 r_54 r_64 r_74 r_84 r_94 r_104 r_114 : Int, ∃ r_124 : Bool, ∃ r_13_a4 : OA, ∃ r_13_l4 r_13_c4 : Nat, cellsAt w21 ⟨b2, 0, none⟩ 0 [(Iv r_04), (Iv r_16), (Iv r_24), (Iv r_34), (Iv r_44), (Iv r_54), (Iv r_64), (Iv r_74), (Iv r_84), (Iv r_94), (Iv r_104), (Iv r_114), (.bool r_124), (.slice r_13_a4 r_13_l4 r_13_c4)] ∧
 R (.tuple #[(.agg #[Iv r_04, Iv r_16, Iv r_24, Iv r_34, Iv r_44, Iv r_54, Iv r_64, Iv r_74, Iv r_84, Iv r_94, Iv r_104, Iv r_114, .bool r_124, .slice r_13_a4 r_13_l4 r_13_c4]), (.slice none 0 0), (Iv (12 : Int))]) w21))))
 (J2 w20))))))))))))))))))
 (J2 w15)))) ∧
 (kDrew w13 fun w14 =>
 (kLdS w14 ⟨b, 13, none⟩ fun _ x_l2 _ =>
 (bsplit (decide (k1 < (x_l2 : Int)))
 ((kLdS w14 ⟨b, 13, none⟩ fun x_a3 x_l3 _ =>
 (kIx x_a3 x_l3 k1 fun b5 =>
 (kLd w14 (b5.add (k1.toNat * 5)) .i64 fun x10 =>
 (kLd w14 ⟨b1, 0, none⟩ .i64 fun x11 =>
 (kLet (decide (x10 = x11)) fun found =>
 J1 found w14))))))
 (J1 false w14))))))))) ∧
 (∃ I : Int → Nat × (WP), (I (0 : Int)).2 w5 ∧
 (∀ (_ : Env) (k : Int) (w7 : World), (I k).2 w7 →
 (kDrew w7 fun w8 =>
 (∃ S1 : Nat → Prop,
 (kLdS w8 ⟨b, 13, none⟩ fun _ x_l _ =>
 (bsplit (decide (k < (x_l : Int)))
 ((∃ x_02 x_14 x_22 x_32 x_42 x_52 x_62 x_72 x_82 x_92 x_102 x_112 : Int, ∃ x_122 : Bool, ∃ x_13_a2 : OA, ∃ x_13_l2 x_13_c2 : Nat, cellsAt w8 ⟨b, 0, none⟩ 0 [(Iv x_02), (Iv x_14), (Iv x_22), (Iv x_32), (Iv x_42), (Iv x_52), (Iv x_62), (Iv x_72), (Iv x_82), (Iv x_92), (Iv x_102), (Iv x_112), (.bool x_122), (.slice x_13_a2 x_13_l2 x_13_c2)] ∧
 (kLdS w8 ⟨b, 13, none⟩ fun x_a1 x_l1 _ =>
 (kIx x_a1 x_l1 k fun b3 =>
 (kLd w8 (b3.add (k.toNat * 5)) .i64 fun x5 =>
 (S1 b ∧
 (∃ x_03 x_15 x_23 x_33 x_43 x_53 x_63 x_73 x_83 x_93 x_103 x_113 : Int, ∃ x_123 : Bool, ∃ x_13_a3 : OA, ∃ x_13_l3 x_13_c3 : Nat, cellsAt w8 ⟨b, 0, none⟩ 0 [(Iv x_03), (Iv x_15), (Iv x_23), (Iv x_33), (Iv x_43), (Iv x_53), (Iv x_63), (Iv x_73), (Iv x_83), (Iv x_93), (Iv x_103), (Iv x_113), (.bool x_123), (.slice x_13_a3 x_13_l3 x_13_c3)] ∧
 (S1 b1 ∧
 (kLd w8 ⟨b1, 0, none⟩ .i64 fun x6 =>
 (CP N_ref21_place #[(.agg #[Iv x_02, Iv x_14, Iv x_22, Iv x_32, Iv x_42, Iv x_52, Iv x_62, Iv x_72, Iv x_82, Iv x_92, Iv x_102, Iv x_112, .bool x_122, .slice x_13_a2 x_13_l2 x_13_c2]), (Iv x5)] w8 fun e_1 w9 =>
 ∃ r1 : Int, e_1 = .returned (Iv r1) ∧
 (KeepsB S1 w8 w9 ∧ (CP N_ref21_place #[(.agg #[Iv x_03, Iv x_15, Iv x_23, Iv x_33, Iv x_43, Iv x_53, Iv x_63, Iv x_73, Iv x_83, Iv x_93, Iv x_103, Iv x_113, .bool x_123, .slice x_13_a3 x_13_l3 x_13_c3]), (Iv x6)] w9 fun e_2 w10 =>
 ∃ r2 : Int, e_2 = .returned (Iv r2) ∧
 (KeepsB S1 w8 w10 ∧ (bsplit (decide (r1 < r2))
 ((kW .i64 (k + (1 : Int)) fun x7 =>
 ((I x7).2 w10 ∧ (I x7).1 < (I k).1)))
 (J k w10)))))))))))))))
 (J k w8)))))))))))))))))))))))))
theorem F_ref21_put_eq (r_0 r_1 r_2 r_3 r_4 r_5 r_6 r_7 r_8 r_9 r_10 r_11 : Int) (r_12 : Bool) (r_13_a : Option Addr) (r_13_l r_13_c : Nat) (p_0 p_1 p_2 p_3 : Int) (p_4_a : Option Addr) (p_4_l p_4_c : Nat) (w : World) (R : Value → World → Prop) : sxFn Tryz.prog TT h_ref21_put Tryz.f71 #[(.agg #[.int .i64 r_0, .int .i64 r_1, .int .i64 r_2, .int .i64 r_3, .int .i64 r_4, .int .i64 r_5, .int .i64 r_6, .int .i64 r_7, .int .i64 r_8, .int .i64 r_9, .int .i64 r_10, .int .i64 r_11, .bool r_12, .slice r_13_a r_13_l r_13_c]), (.agg #[.int .i64 p_0, .int .i64 p_1, .int .i64 p_2, .int .i64 p_3, .slice p_4_a p_4_l p_4_c])] w R = F_ref21_put r_0 r_1 r_2 r_3 r_4 r_5 r_6 r_7 r_8 r_9 r_10 r_11 r_12 r_13_a r_13_l r_13_c p_0 p_1 p_2 p_3 p_4_a p_4_l p_4_c w R := by kernel_rfl
theorem F_ref21_put_ok {R : Ending → World → Prop} (r_0 r_1 r_2 r_3 r_4 r_5 r_6 r_7 r_8 r_9 r_10 r_11 : Int) (r_12 : Bool) (r_13_a : Option Addr) (r_13_l r_13_c : Nat) (p_0 p_1 p_2 p_3 : Int) (p_4_a : Option Addr) (p_4_l p_4_c : Nat) (w : World) (h : F_ref21_put r_0 r_1 r_2 r_3 r_4 r_5 r_6 r_7 r_8 r_9 r_10 r_11 r_12 r_13_a r_13_l r_13_c p_0 p_1 p_2 p_3 p_4_a p_4_l p_4_c w fun v w' => R (.returned v) w') : Calls Tryz.prog N_ref21_put #[(.agg #[.int .i64 r_0, .int .i64 r_1, .int .i64 r_2, .int .i64 r_3, .int .i64 r_4, .int .i64 r_5, .int .i64 r_6, .int .i64 r_7, .int .i64 r_8, .int .i64 r_9, .int .i64 r_10, .int .i64 r_11, .bool r_12, .slice r_13_a r_13_l r_13_c]), (.agg #[.int .i64 p_0, .int .i64 p_1, .int .i64 p_2, .int .i64 p_3, .slice p_4_a p_4_l p_4_c])] w R :=
 calls_of (f := 71) follows_ok Tryz.func71 (Eq.mpr (F_ref21_put_eq r_0 r_1 r_2 r_3 r_4 r_5 r_6 r_7 r_8 r_9 r_10 r_11 r_12 r_13_a r_13_l r_13_c p_0 p_1 p_2 p_3 p_4_a p_4_l p_4_c w _) h)

def h_ref21_start : H := (.seq .reg (.cut [] [3, 4, 5, 6, 7, 8, 9, 10, 11, 12, 13, 14, 15, 16, 17, 18, 19, 20, 21, 22, 23, 24, 25] (.seq (.draw .blk (.one 0 .pre (.one 1 .pre (.one 2 .pre (.one 3 .pre (.one 4 .pre (.one 5 .pre (.one 6 .pre (.one 7 .keep (.one 8 .stable (.one 9 .stable (.one 10 .stable (.one 11 .stable (.one 12 .stable (.one 14 .stable (.one 15 .stable (.one 16 .stable (.one 13 .keep (.one 17 .keep (.one 18 .stable (.one 19 .stable (.one 20 .stable .nil)))))))))))))))))))))) (.cond .reg .leaf)) (.seq (.seq .reg (.cond .reg .leaf)) (.seq .reg .leaf))))
def F_ref21_start (r_0 r_1 r_2 r_3 r_4 r_5 r_6 r_7 r_8 r_9 r_10 r_11 : Int) (r_12 : Bool) (r_13_a : OA) (r_13_l r_13_c : Nat) (w : World) (R : Value → WP) : Prop :=
 (kAlloc w #[(Iv r_0), (Iv r_1), (Iv r_2), (Iv r_3), (Iv r_4), (Iv r_5), (Iv r_6), (Iv r_7), (Iv r_8), (Iv r_9), (Iv r_10), (Iv r_11), (.bool r_12), (.slice r_13_a r_13_l r_13_c)] Ty_api_Receiver fun b w1 =>
 (kAlloc w1 #[Iv (0 : Int), Iv (0 : Int), Iv (0 : Int), Iv (0 : Int), Iv (0 : Int), Iv (0 : Int), Iv (0 : Int), Iv (0 : Int), Iv (0 : Int), Iv (0 : Int), Iv (0 : Int), Iv (0 : Int), .bool false, .slice none 0 0] Ty_api_Receiver fun b1 w2 =>
 (∃ J : WP,
 (∀ (_ : Env)  (w13 : World), J w13 →
 (kLd w13 ⟨b, 9, none⟩ .i64 fun x4 =>
 (bsplit (decide (x4 = (-1 : Int)))
 ((kLd w13 ⟨b, 6, none⟩ .i64 fun x5 =>
 (kLd w13 ⟨b, 7, none⟩ .i64 fun x6 =>
 (bsplit (!decide (x5 = x6))
 ((kLd w13 ⟨b, 7, none⟩ .i64 fun x7 =>
 (kLd w13 ⟨b, 3, none⟩ .i64 fun x8 =>
 (kSet w13 ⟨b, 9, none⟩ (Iv x7) fun w14 =>
 (kSet w14 ⟨b, 10, none⟩ (Iv x8) fun w15 =>
 (∃ x_03 x_15 x_23 x_33 x_43 x_53 x_63 x_73 x_83 x_93 x_103 x_113 : Int, ∃ x_123 : Bool, ∃ x_13_a3 : OA, ∃ x_13_l3 x_13_c3 : Nat, cellsAt w15 ⟨b, 0, none⟩ 0 [(Iv x_03), (Iv x_15), (Iv x_23), (Iv x_33), (Iv x_43), (Iv x_53), (Iv x_63), (Iv x_73), (Iv x_83), (Iv x_93), (Iv x_103), (Iv x_113), (.bool x_123), (.slice x_13_a3 x_13_l3 x_13_c3)] ∧
 (sxStore w15 ⟨b1, 0, none⟩ 0 [(Iv x_03), (Iv x_15), (Iv x_23), (Iv x_33), (Iv x_43), (Iv x_53), (Iv x_63), (Iv x_73), (Iv x_83), (Iv x_93), (Iv x_103), (Iv x_113), (.bool x_123), (.slice x_13_a3 x_13_l3 x_13_c3)] fun w16 =>
 (∃ r_01 r_13 r_21 r_31 r_41 r_51 r_61 r_71 r_81 r_91 r_101 r_111 : Int, ∃ r_121 : Bool, ∃ r_13_a1 : OA, ∃ r_13_l1 r_13_c1 : Nat, cellsAt w16 ⟨b1, 0, none⟩ 0 [(Iv r_01), (Iv r_13), (Iv r_21), (Iv r_31), (Iv r_41), (Iv r_51), (Iv r_61), (Iv r_71), (Iv r_81), (Iv r_91), (Iv r_101), (Iv r_111), (.bool r_121), (.slice r_13_a1 r_13_l1 r_13_c1)] ∧
 R (.agg #[Iv r_01, Iv r_13, Iv r_21, Iv r_31, Iv r_41, Iv r_51, Iv r_61, Iv r_71, Iv r_81, Iv r_91, Iv r_101, Iv r_111, .bool r_121, .slice r_13_a1 r_13_l1 r_13_c1]) w16))))))))
 ((∃ x_04 x_16 x_24 x_34 x_44 x_54 x_64 x_74 x_84 x_94 x_104 x_114 : Int, ∃ x_124 : Bool, ∃ x_13_a4 : OA, ∃ x_13_l4 x_13_c4 : Nat, cellsAt w13 ⟨b, 0, none⟩ 0 [(Iv x_04), (Iv x_16), (Iv x_24), (Iv x_34), (Iv x_44), (Iv x_54), (Iv x_64), (Iv x_74), (Iv x_84), (Iv x_94), (Iv x_104), (Iv x_114), (.bool x_124), (.slice x_13_a4 x_13_l4 x_13_c4)] ∧
 (sxStore w13 ⟨b1, 0, none⟩ 0 [(Iv x_04), (Iv x_16), (Iv x_24), (Iv x_34), (Iv x_44), (Iv x_54), (Iv x_64), (Iv x_74), (Iv x_84), (Iv x_94), (Iv x_104), (Iv x_114), (.bool x_124), (.slice x_13_a4 x_13_l4 x_13_c4)] fun w17 =>
 (∃ r_02 r_14 r_22 r_32 r_42 r_52 r_62 r_72 r_82 r_92 r_102 r_112 : Int, ∃ r_122 : Bool, ∃ r_13_a2 : OA, ∃ r_13_l2 r_13_c2 : Nat, cellsAt w17 ⟨b1, 0, none⟩ 0 [(Iv r_02), (Iv r_14), (Iv r_22), (Iv r_32), (Iv r_42), (Iv r_52), (Iv r_62), (Iv r_72), (Iv r_82), (Iv r_92), (Iv r_102), (Iv r_112), (.bool r_122), (.slice r_13_a2 r_13_l2 r_13_c2)] ∧
 R (.agg #[Iv r_02, Iv r_14, Iv r_22, Iv r_32, Iv r_42, Iv r_52, Iv r_62, Iv r_72, Iv r_82, Iv r_92, Iv r_102, Iv r_112, .bool r_122, .slice r_13_a2 r_13_l2 r_13_c2]) w17))))))))
 ((∃ x_06 x_18 x_26 x_36 x_46 x_56 x_66 x_76 x_86 x_96 x_106 x_116 : Int, ∃ x_126 : Bool, ∃ x_13_a6 : OA, ∃ x_13_l6 x_13_c6 : Nat, cellsAt w13 ⟨b, 0, none⟩ 0 [(Iv x_06), (Iv x_18), (Iv x_26), (Iv x_36), (Iv x_46), (Iv x_56), (Iv x_66), (Iv x_76), (Iv x_86), (Iv x_96), (Iv x_106), (Iv x_116), (.bool x_126), (.slice x_13_a6 x_13_l6 x_13_c6)] ∧
 (sxStore w13 ⟨b1, 0, none⟩ 0 [(Iv x_06), (Iv x_18), (Iv x_26), (Iv x_36), (Iv x_46), (Iv x_56), (Iv x_66), (Iv x_76), (Iv x_86), (Iv x_96), (Iv x_106), (Iv x_116), (.bool x_126), (.slice x_13_a6 x_13_l6 x_13_c6)] fun w21 =>
 (∃ r_04 r_16 r_24 r_34 r_44 r_54 r_64 r_74 r_84 r_94 r_104 r_114 : Int, ∃ r_124 : Bool, ∃ r_13_a4 : OA, ∃ r_13_l4 r_13_c4 : Nat, cellsAt w21 ⟨b1, 0, none⟩ 0 [(Iv r_04), (Iv r_16), (Iv r_24), (Iv r_34), (Iv r_44), (Iv r_54), (Iv r_64), (Iv r_74), (Iv r_84), (Iv r_94), (Iv r_104), (Iv r_114), (.bool r_124), (.slice r_13_a4 r_13_l4 r_13_c4)] ∧
 R (.agg #[Iv r_04, Iv r_16, Iv r_24, Iv r_34, Iv r_44, Iv r_54, Iv r_64, Iv r_74, Iv r_84, Iv r_94, Iv r_104, Iv r_114, .bool r_124, .slice r_13_a4 r_13_l4 r_13_c4]) w21))))))) ∧
 (kDrew w2 fun w3 =>
 (∃ S : Nat → Prop,
 (kLd w3 ⟨b, 9, none⟩ .i64 fun x =>
 (bsplit (!decide (x = (-1 : Int)))
 ((∃ x_0 x_1 x_2 x_3 x_4 x_5 x_6 x_7 x_8 x_9 x_10 x_11 : Int, ∃ x_12 : Bool, ∃ x_13_a : OA, ∃ x_13_l x_13_c : Nat, cellsAt w3 ⟨b, 0, none⟩ 0 [(Iv x_0), (Iv x_1), (Iv x_2), (Iv x_3), (Iv x_4), (Iv x_5), (Iv x_6), (Iv x_7), (Iv x_8), (Iv x_9), (Iv x_10), (Iv x_11), (.bool x_12), (.slice x_13_a x_13_l x_13_c)] ∧
 (kLd w3 ⟨b, 9, none⟩ .i64 fun x1 =>
 (CP N_ref21_place #[(.agg #[Iv x_0, Iv x_1, Iv x_2, Iv x_3, Iv x_4, Iv x_5, Iv x_6, Iv x_7, Iv x_8, Iv x_9, Iv x_10, Iv x_11, .bool x_12, .slice x_13_a x_13_l x_13_c]), (Iv x1)] w3 fun e_ w4 =>
 ∃ r : Int, e_ = .returned (Iv r) ∧
 (KeepsB S w3 w4 ∧ (bsplit (decide (r = (0 : Int)))
 ((kSet w4 ⟨b, 9, none⟩ (Iv (-1 : Int)) fun w5 =>
 (kSet w5 ⟨b, 10, none⟩ (Iv (0 : Int)) fun w6 =>
 J w6)))
 ((S b ∧
 (∃ x_01 x_13 x_21 x_31 x_41 x_51 x_61 x_71 x_81 x_91 x_101 x_111 : Int, ∃ x_121 : Bool, ∃ x_13_a1 : OA, ∃ x_13_l1 x_13_c1 : Nat, cellsAt w3 ⟨b, 0, none⟩ 0 [(Iv x_01), (Iv x_13), (Iv x_21), (Iv x_31), (Iv x_41), (Iv x_51), (Iv x_61), (Iv x_71), (Iv x_81), (Iv x_91), (Iv x_101), (Iv x_111), (.bool x_121), (.slice x_13_a1 x_13_l1 x_13_c1)] ∧
 (S b ∧
 (kLd w3 ⟨b, 9, none⟩ .i64 fun x2 =>
 (S b ∧
 (∃ x_02 x_14 x_22 x_32 x_42 x_52 x_62 x_72 x_82 x_92 x_102 x_112 : Int, ∃ x_122 : Bool, ∃ x_13_a2 : OA, ∃ x_13_l2 x_13_c2 : Nat, cellsAt w3 ⟨b, 0, none⟩ 0 [(Iv x_02), (Iv x_14), (Iv x_22), (Iv x_32), (Iv x_42), (Iv x_52), (Iv x_62), (Iv x_72), (Iv x_82), (Iv x_92), (Iv x_102), (Iv x_112), (.bool x_122), (.slice x_13_a2 x_13_l2 x_13_c2)] ∧
 (S b ∧
 (kLd w3 ⟨b, 7, none⟩ .i64 fun x3 =>
 (CP N_ref21_place #[(.agg #[Iv x_01, Iv x_13, Iv x_21, Iv x_31, Iv x_41, Iv x_51, Iv x_61, Iv x_71, Iv x_81, Iv x_91, Iv x_101, Iv x_111, .bool x_121, .slice x_13_a1 x_13_l1 x_13_c1]), (Iv x2)] w4 fun e_1 w7 =>
 ∃ r1 : Int, e_1 = .returned (Iv r1) ∧
 (KeepsB S w3 w7 ∧ (CP N_ref21_place #[(.agg #[Iv x_02, Iv x_14, Iv x_22, Iv x_32, Iv x_42, Iv x_52, Iv x_62, Iv x_72, Iv x_82, Iv x_92, Iv x_102, Iv x_112, .bool x_122, .slice x_13_a2 x_13_l2 x_13_c2]), (Iv x3)] w7 fun e_2 w8 =>
 ∃ r2 : Int, e_2 = .returned (Iv r2) ∧
 (KeepsB S w3 w8 ∧ (bsplit (decide (r1 > r2))
 ((kSet w8 ⟨b, 9, none⟩ (Iv (-1 : Int)) fun w9 =>
 (kSet w9 ⟨b, 10, none⟩ (Iv (0 : Int)) fun w10 =>
 J w10)))
 (J w8)))))))))))))))))))))
 (J w3))))))))
theorem F_ref21_start_eq (r_0 r_1 r_2 r_3 r_4 r_5 r_6 r_7 r_8 r_9 r_10 r_11 : Int) (r_12 : Bool) (r_13_a : Option Addr) (r_13_l r_13_c : Nat) (w : World) (R : Value → World → Prop) : sxFn Tryz.prog TT h_ref21_start Tryz.f72 #[(.agg #[.int .i64 r_0, .int .i64 r_1, .int .i64 r_2, .int .i64 r_3, .int .i64 r_4, .int .i64 r_5, .int .i64 r_6, .int .i64 r_7, .int .i64 r_8, .int .i64 r_9, .int .i64 r_10, .int .i64 r_11, .bool r_12, .slice r_13_a r_13_l r_13_c])] w R = F_ref21_start r_0 r_1 r_2 r_3 r_4 r_5 r_6 r_7 r_8 r_9 r_10 r_11 r_12 r_13_a r_13_l r_13_c w R := by kernel_rfl
theorem F_ref21_start_ok {R : Ending → World → Prop} (r_0 r_1 r_2 r_3 r_4 r_5 r_6 r_7 r_8 r_9 r_10 r_11 : Int) (r_12 : Bool) (r_13_a : Option Addr) (r_13_l r_13_c : Nat) (w : World) (h : F_ref21_start r_0 r_1 r_2 r_3 r_4 r_5 r_6 r_7 r_8 r_9 r_10 r_11 r_12 r_13_a r_13_l r_13_c w fun v w' => R (.returned v) w') : Calls Tryz.prog N_ref21_start #[(.agg #[.int .i64 r_0, .int .i64 r_1, .int .i64 r_2, .int .i64 r_3, .int .i64 r_4, .int .i64 r_5, .int .i64 r_6, .int .i64 r_7, .int .i64 r_8, .int .i64 r_9, .int .i64 r_10, .int .i64 r_11, .bool r_12, .slice r_13_a r_13_l r_13_c])] w R :=
 calls_of (f := 72) follows_ok Tryz.func72 (Eq.mpr (F_ref21_start_eq r_0 r_1 r_2 r_3 r_4 r_5 r_6 r_7 r_8 r_9 r_10 r_11 r_12 r_13_a r_13_l r_13_c w _) h)

def h_ref19_Fit : H := (.seq .reg (.seq (.seq .reg (.cond (.seq .reg .leaf) .leaf)) (.seq (.seq .reg (.cond (.seq .reg .leaf) .leaf)) (.seq .reg (.seq .reg (.seq (.seq .reg (.block (.loop [(9, .p (.int .i64)), (10, .p (.int .i64))] [9, 10, 11, 12, 24, 25, 26, 27, 28, 29, 30, 31, 32, 33, 34, 35, 36, 37, 38, 39, 40, 41, 42, 43, 44, 45, 46, 47, 48, 49, 50, 51, 52, 53, 54, 55, 56, 57, 58, 59, 60, 61, 62, 63, 64, 65, 66, 67, 68, 69, 70, 71, 72, 73, 74, 75, 76, 77, 78, 79, 80, 81, 82, 83, 84] (.seq (.seq .reg (.cond .leaf .leaf)) (.block (.seq .reg (.cut [(11, .p (.int .i64)), (12, .p (.int .i64))] [11, 12, 30, 31, 32, 33, 34, 35, 36, 37, 38, 39, 40, 41, 42, 43, 44, 45, 46, 47, 48, 49, 50, 51, 52, 53, 54, 55, 56, 57, 58, 59] (.block (.loop [(11, .p (.int .i64)), (12, .p (.int .i64))] [11, 12, 30, 31, 32, 33, 34, 35, 36, 37, 38, 39, 40, 41, 42, 43, 44, 45, 46, 47, 48, 49, 50, 51, 52, 53, 54, 55, 56, 57, 58, 59] (.seq (.seq (.draw .no (.one 0 .stable (.one 1 .stable (.one 2 .stable (.one 3 .stable (.one 4 .stable (.one 5 .stable (.one 6 .stable (.one 7 .stable (.one 8 .stable (.one 9 .stable (.one 10 .stable (.one 11 .stable (.one 12 .stable (.one 13 .stable (.one 14 .stable (.one 15 .stable (.one 16 .stable (.one 17 .stable (.one 18 .stable (.one 19 .stable .nil))))))))))))))))))))) (.cond .leaf .leaf)) (.block (.seq .reg .reg))))) (.seq (.seq .reg (.cond (.seq .reg .leaf) .leaf)) (.seq (.draw .blk (.one 0 .pre (.one 1 .pre (.one 2 .pre (.one 3 .pre (.one 4 .pre (.one 5 .pre (.one 6 .pre (.one 7 .keep (.one 8 .stable (.one 9 .last .nil))))))))))) (.seq .reg .reg)))))))))) (.seq .reg .leaf)))))))
def F_ref19_Fit (bits s_0 : Int) (s_1_a : OA) (s_1_l s_1_c : Nat) (space : Int) (w : World) (R : Value → WP) : Prop :=
 (kAlloc w #[(Iv s_0), (.slice s_1_a s_1_l s_1_c)] Ty_api_Status fun b w1 =>
 (kAlloc w1 #[Iv (0 : Int), .slice none 0 0] Ty_api_Status fun b1 w2 =>
 (∃ x_0 : Int, ∃ x_1_a : OA, ∃ x_1_l x_1_c : Nat, cellsAt w2 ⟨b, 0, none⟩ 0 [(Iv x_0), (.slice x_1_a x_1_l x_1_c)] ∧
 (CP N_ref19_Valid #[(Iv bits), (.agg #[Iv x_0, .slice x_1_a x_1_l x_1_c])] w2 fun e_ w3 =>
 ∃ r : Bool, e_ = .returned (.bool r) ∧
 (bsplit (!r)
 ((sxStore w3 ⟨b1, 0, none⟩ 0 [(Iv (0 : Int)), (.slice none 0 0)] fun w4 =>
 (∃ r_0 : Int, ∃ r_1_a : OA, ∃ r_1_l r_1_c : Nat, cellsAt w4 ⟨b1, 0, none⟩ 0 [(Iv r_0), (.slice r_1_a r_1_l r_1_c)] ∧
 R (.tuple #[(.agg #[Iv r_0, .slice r_1_a r_1_l r_1_c]), (Iv (1 : Int))]) w4)))
 ((bsplit (decide (space < (3 : Int)))
 ((sxStore w3 ⟨b1, 0, none⟩ 0 [(Iv (0 : Int)), (.slice none 0 0)] fun w5 =>
 (∃ r_01 : Int, ∃ r_1_a1 : OA, ∃ r_1_l1 r_1_c1 : Nat, cellsAt w5 ⟨b1, 0, none⟩ 0 [(Iv r_01), (.slice r_1_a1 r_1_l1 r_1_c1)] ∧
 R (.tuple #[(.agg #[Iv r_01, .slice r_1_a1 r_1_l1 r_1_c1]), (Iv (15 : Int))]) w5)))
 ((kLd w3 ⟨b, 0, none⟩ .i64 fun x =>
 (kAlloc w3 #[Iv (0 : Int), .slice none 0 0] Ty_api_Status fun b2 w6 =>
 (sxStore w6 ⟨b2, 0, none⟩ 0 [(Iv x), (.slice none 0 0)] fun w7 =>
 (∃ I : Int → Int → Nat × (WP), (I (3 : Int) (0 : Int)).2 w7 ∧
 (∀ (_ : Env) (n : Int) (i : Int) (w8 : World), (I n i).2 w8 →
 (kLdS w8 ⟨b, 1, none⟩ fun _ x_l _ =>
 (bsplit (decide (i < (x_l : Int)))
 ((∃ J : Int → Int → WP,
 (∀ (_ : Env) (k1 : Int) (more1 : Int) (w13 : World), J k1 more1 w13 →
 (kW .i64 (n + more1) fun x7 =>
 (bsplit (decide (x7 > space))
 ((kLdS w13 ⟨b, 1, none⟩ fun x_a6 x_l6 _ =>
 (kIx x_a6 x_l6 i fun b7 =>
 (kLd w13 (b7.add (i.toNat * 3)) .i64 fun x8 =>
 (kSet w13 ⟨b2, 0, none⟩ (Iv x8) fun w14 =>
 (∃ x_03 : Int, ∃ x_1_a1 : OA, ∃ x_1_l1 x_1_c1 : Nat, cellsAt w14 ⟨b2, 0, none⟩ 0 [(Iv x_03), (.slice x_1_a1 x_1_l1 x_1_c1)] ∧
 (sxStore w14 ⟨b1, 0, none⟩ 0 [(Iv x_03), (.slice x_1_a1 x_1_l1 x_1_c1)] fun w15 =>
 (∃ r_02 : Int, ∃ r_1_a2 : OA, ∃ r_1_l2 r_1_c2 : Nat, cellsAt w15 ⟨b1, 0, none⟩ 0 [(Iv r_02), (.slice r_1_a2 r_1_l2 r_1_c2)] ∧
 R (.tuple #[(.agg #[Iv r_02, .slice r_1_a2 r_1_l2 r_1_c2]), (Iv (0 : Int))]) w15))))))))
 ((kDrew w13 fun w16 =>
 (∃ S : Nat → Prop,
 (kLdS w16 ⟨b2, 1, none⟩ fun x_a7 x_l7 x_c7 =>
 (kLdS w16 ⟨b, 1, none⟩ fun x_a8 _ x_c8 =>
 ((0 ≤ k1 ∧ k1 ≤ ((x_c8 : Nat) : Int)) ∧ ((0 ≤ i ∧ i ≤ ((k1.toNat : Nat) : Int)) ∧ (AppP Tryz.prog #[Ty_S_api_Range, Ty_S_api_Range] Ty_S_api_Range #[(.slice x_a7 x_l7 x_c7), (.slice (slAddr x_c8 (i.toNat) 3 x_a8) (k1.toNat - i.toNat) (x_c8 - i.toNat))] w16 fun x_a9 x_l9 x_c9 w17 =>
 (KeepsB S w16 w17 ∧ (kSet w17 ⟨b2, 1, none⟩ (.slice x_a9 x_l9 x_c9) fun w18 =>
 (kW .i64 (n + more1) fun x9 =>
 ((I x9 k1).2 w18 ∧ (I x9 k1).1 < (I n i).1))))))))))))))) ∧
 (∃ I1 : Int → Int → Nat × (WP), (I1 i (0 : Int)).2 w8 ∧
 (∀ (_ : Env) (k : Int) (more : Int) (w9 : World), (I1 k more).2 w9 →
 (kDrew w9 fun w10 =>
 (kLdS w10 ⟨b, 1, none⟩ fun _ x_l1 _ =>
 (bsplit (decide (k < (x_l1 : Int)))
 ((kLdS w10 ⟨b, 1, none⟩ fun x_a2 x_l2 _ =>
 (kIx x_a2 x_l2 k fun b3 =>
 (kLd w10 (b3.add (k.toNat * 3)) .i64 fun x1 =>
 (kLdS w10 ⟨b, 1, none⟩ fun x_a3 x_l3 _ =>
 (kIx x_a3 x_l3 i fun b4 =>
 (kLd w10 (b4.add (i.toNat * 3)) .i64 fun x2 =>
 (bsplit (decide (x1 = x2))
 ((kLdS w10 ⟨b, 1, none⟩ fun x_a4 x_l4 _ =>
 (kIx x_a4 x_l4 k fun b5 =>
 (∃ x_01 x_1 x_2 : Int, cellsAt w10 (b5.add (k.toNat * 3)) 0 [(Iv x_01), (Iv x_1), (Iv x_2)] ∧
 (CP N_ref19_size #[(.agg #[Iv x_01, Iv x_1, Iv x_2])] w10 fun e_1 w11 =>
 ∃ r1 : Int, e_1 = .returned (Iv r1) ∧
 (kW .i64 (more + r1) fun x3 =>
 (kW .i64 (k + (1 : Int)) fun x4 =>
 ((I1 x4 x3).2 w11 ∧ (I1 x4 x3).1 < (I1 k more).1))))))))
 (J k more w10)))))))))
 (J k more w10))))))))
 ((∃ x_04 : Int, ∃ x_1_a2 : OA, ∃ x_1_l2 x_1_c2 : Nat, cellsAt w8 ⟨b2, 0, none⟩ 0 [(Iv x_04), (.slice x_1_a2 x_1_l2 x_1_c2)] ∧
 (sxStore w8 ⟨b1, 0, none⟩ 0 [(Iv x_04), (.slice x_1_a2 x_1_l2 x_1_c2)] fun w19 =>
 (∃ r_03 : Int, ∃ r_1_a3 : OA, ∃ r_1_l3 r_1_c3 : Nat, cellsAt w19 ⟨b1, 0, none⟩ 0 [(Iv r_03), (.slice r_1_a3 r_1_l3 r_1_c3)] ∧
 R (.tuple #[(.agg #[Iv r_03, .slice r_1_a3 r_1_l3 r_1_c3]), (Iv (0 : Int))]) w19)))))))))))))))))))
theorem F_ref19_Fit_eq (bits s_0 : Int) (s_1_a : Option Addr) (s_1_l s_1_c : Nat) (space : Int) (w : World) (R : Value → World → Prop) : sxFn Tryz.prog TT h_ref19_Fit Tryz.f73 #[(.int .i64 bits), (.agg #[.int .i64 s_0, .slice s_1_a s_1_l s_1_c]), (.int .i64 space)] w R = F_ref19_Fit bits s_0 s_1_a s_1_l s_1_c space w R := by kernel_rfl
theorem F_ref19_Fit_ok {R : Ending → World → Prop} (bits s_0 : Int) (s_1_a : Option Addr) (s_1_l s_1_c : Nat) (space : Int) (w : World) (h : F_ref19_Fit bits s_0 s_1_a s_1_l s_1_c space w fun v w' => R (.returned v) w') : Calls Tryz.prog N_ref19_Fit #[(.int .i64 bits), (.agg #[.int .i64 s_0, .slice s_1_a s_1_l s_1_c]), (.int .i64 space)] w R :=
 calls_of (f := 73) follows_ok Tryz.func73 (Eq.mpr (F_ref19_Fit_eq bits s_0 s_1_a s_1_l s_1_c space w _) h)

def h_ref21_partial : H := (.seq .reg (.seq (.cut [(66, .p .bool)] [8, 9, 10, 11, 12, 13, 14, 15, 16, 17, 18, 19, 20, 21, 22, 23, 24, 25, 26, 27, 28, 29, 30, 31, 32, 33, 34, 35, 36, 37, 38, 39, 40, 41, 42, 43, 44, 45, 46, 47, 48, 49, 50, 51, 52, 53, 54, 55, 56, 57, 58, 59, 60, 61, 62, 63, 64, 65, 66] (.draw .blk (.one 0 .pre (.one 1 .pre (.one 2 .pre (.one 3 .pre (.one 4 .pre (.one 5 .pre (.one 6 .pre (.one 7 .pre (.one 8 .pre (.one 9 .pre (.one 10 .pre (.one 11 .pre (.one 12 .pre (.one 13 .pre (.one 14 .pre (.one 15 .pre (.one 16 .pre (.one 17 .pre (.one 18 .pre (.one 19 .pre (.one 20 .pre (.one 21 .pre (.one 22 .keep (.one 23 .stable (.one 24 .stable (.one 25 .stable (.one 26 .stable (.one 27 .stable (.one 28 .stable (.one 29 .stable (.one 30 .stable (.one 31 .stable (.one 32 .stable (.one 33 .stable (.one 34 .stable (.one 35 .stable (.one 36 .stable (.one 37 .stable (.one 38 .stable (.one 39 .stable (.one 40 .stable (.one 41 .stable (.one 42 .stable (.one 43 .stable (.one 44 .stable (.one 45 .stable (.one 46 .stable (.one 47 .stable (.one 48 .stable (.one 49 .stable (.one 50 .stable (.one 51 .stable (.one 52 .stable (.one 53 .stable (.one 54 .stable (.one 55 .stable (.one 56 .stable (.one 57 .stable (.one 58 .stable .nil)))))))))))))))))))))))))))))))))))))))))))))))))))))))))))) (.cond (.seq .reg .leaf) .leaf)) (.seq (.seq .reg (.block (.loop [(3, .p (.int .i64))] [2, 3, 67, 68, 69, 70, 71, 72, 73, 74, 75, 76, 77, 78, 79, 80, 81, 82] (.seq (.seq .reg (.cond .leaf .leaf)) (.seq (.block (.seq (.draw .no (.one 0 .stable (.one 1 .stable (.one 2 .stable (.one 3 .stable (.one 4 .stable (.one 5 .stable (.one 6 .stable (.one 7 .stable (.one 8 .stable .nil)))))))))) (.cond (.seq .reg .leaf) .leaf))) .reg))))) (.seq .reg (.seq (.seq .reg (.block (.loop [(6, .p (.int .i64))] [2, 6, 7, 94, 95, 96, 97, 98, 99, 100, 101, 102, 103, 104, 105, 106, 107, 108, 109, 110, 111, 112, 113, 114, 115, 116, 117, 118, 119] (.seq (.seq .reg (.cond .leaf .leaf)) (.seq (.block (.seq .reg (.block (.loop [(7, .p (.int .i64))] [2, 7, 105, 106, 107, 108, 109, 110, 111, 112, 113, 114, 115, 116, 117, 118, 119] (.seq (.seq .reg (.cond .leaf .leaf)) (.seq (.block (.seq .reg (.cond (.seq .reg .leaf) .leaf))) .reg)))))) .reg))))) (.seq .reg .leaf))))))
def F_ref21_partial (p_0 : Int) (p_1 : Bool) (p_2 : Int) (p_3_a : OA) (p_3_l p_3_c : Nat) (p_4_a : OA) (p_4_l p_4_c : Nat) (w : World) (R : Value → WP) : Prop :=
 (kAlloc w #[(Iv p_0), (.bool p_1), (Iv p_2), (.slice p_3_a p_3_l p_3_c), (.slice p_4_a p_4_l p_4_c)] Ty_api_Partial fun b w1 =>
 (∃ J : Bool → WP,
 (∀ (_ : Env) (x15 : Bool) (w5 : World), J x15 w5 →
 (bsplit x15
 (R (.bool false) w5)
 ((∃ I : Int → Nat × (WP), (I (0 : Int)).2 w5 ∧
 (∀ (_ : Env) (i : Int) (w6 : World), (I i).2 w6 →
 (kLdS w6 ⟨b, 4, none⟩ fun _ x_l20 _ =>
 (bsplit (decide (i < (x_l20 : Int)))
 ((kDrew w6 fun w7 =>
 (kLdS w7 ⟨b, 4, none⟩ fun x_a21 x_l21 _ =>
 (kIx x_a21 x_l21 i fun b5 =>
 (kLd w7 (b5.add (i.toNat * 3)) .i64 fun x16 =>
 (kLd w7 ⟨b, 0, none⟩ .i64 fun x17 =>
 (bsplit (!decide (x16 = x17))
 (R (.bool false) w7)
 ((kW .i64 (i + (1 : Int)) fun x18 =>
 ((I x18).2 w7 ∧ (I x18).1 < (I i).1))))))))))
 ((kLdS w6 ⟨b, 4, none⟩ fun x_a22 x_l22 x_c22 =>
 (kLd w6 ⟨b, 0, none⟩ .i64 fun x19 =>
 (kLdS w6 ⟨b, 3, none⟩ fun _ x_l23 _ =>
 (CP N_ref18_Gaps #[(.slice x_a22 x_l22 x_c22), (Iv x19), (Iv (x_l23 : Int))] w6 fun e_2 w8 =>
 ∃ r_a : OA, ∃ r_l r_c : Nat, ∃ r2 : Int, e_2 = .returned (.tuple #[(.slice r_a r_l r_c), (Iv r2)]) ∧
 (∃ I1 : Int → Nat × (WP), (I1 (0 : Int)).2 w8 ∧
 (∀ (_ : Env) (i1 : Int) (w9 : World), (I1 i1).2 w9 →
 (bsplit (decide (i1 < (r_l : Int)))
 ((kIx r_a r_l i1 fun b6 =>
 (kLd w9 ((b6.add (i1.toNat * 3)).add 1) .i64 fun x20 =>
 (∃ I2 : Int → Nat × (WP), (I2 x20).2 w9 ∧
 (∀ (_ : Env) (k : Int) (w10 : World), (I2 k).2 w10 →
 (kIx r_a r_l i1 fun b7 =>
 (kLd w10 ((b7.add (i1.toNat * 3)).add 2) .i64 fun x21 =>
 (bsplit (decide (k < x21))
 ((kLdS w10 ⟨b, 3, none⟩ fun x_a24 x_l24 _ =>
 (kIx x_a24 x_l24 k fun b8 =>
 (kLd w10 (b8.add (k.toNat * 1)) .u8 fun x22 =>
 (bsplit (!decide (x22 = (0 : Int)))
 (R (.bool false) w10)
 ((kW .i64 (k + (1 : Int)) fun x23 =>
 ((I2 x23).2 w10 ∧ (I2 x23).1 < (I2 k).1))))))))
 ((kW .i64 (i1 + (1 : Int)) fun x24 =>
 ((I1 x24).2 w10 ∧ (I1 x24).1 < (I1 i1).1)))))))))))
 ((∃ x_0 : Int, ∃ x_1 : Bool, ∃ x_2 : Int, ∃ x_3_a : OA, ∃ x_3_l x_3_c : Nat, ∃ x_4_a : OA, ∃ x_4_l x_4_c : Nat, cellsAt w9 ⟨b, 0, none⟩ 0 [(Iv x_0), (.bool x_1), (Iv x_2), (.slice x_3_a x_3_l x_3_c), (.slice x_4_a x_4_l x_4_c)] ∧
 (CP N_ref21_whole #[(.agg #[Iv x_0, .bool x_1, Iv x_2, .slice x_3_a x_3_l x_3_c, .slice x_4_a x_4_l x_4_c])] w9 fun e_3 w11 =>
 ∃ r3 : Bool, e_3 = .returned (.bool r3) ∧
 R (.bool (!r3)) w11)))))))))))))))))) ∧
 (kDrew w1 fun w2 =>
 (∃ S : Nat → Prop,
 (kLd w2 ⟨b, 2, none⟩ .i64 fun x =>
 (bsplit (!decide (x = (-1 : Int)))
 ((kLd w2 ⟨b, 2, none⟩ .i64 fun x1 =>
 (bsplit (decide (x1 < (1 : Int)))
 (J true w2)
 ((kLd w2 ⟨b, 2, none⟩ .i64 fun x2 =>
 (bsplit (decide (x2 > (2054 : Int)))
 (J true w2)
 ((kLdS w2 ⟨b, 4, none⟩ fun _ x_l _ =>
 (bsplit (decide ((x_l : Int) = (0 : Int)))
 (J true w2)
 ((kLdS w2 ⟨b, 4, none⟩ fun x_a1 x_l1 x_c1 =>
 (CP N_ref18_Normal #[(.slice x_a1 x_l1 x_c1)] w2 fun e_ w3 =>
 ∃ r : Bool, e_ = .returned (.bool r) ∧
 (KeepsB S w2 w3 ∧ (bsplit (!r)
 (J true w3)
 ((S b ∧
 (kLdS w2 ⟨b, 3, none⟩ fun _ x_l2 _ =>
 (bsplit (decide ((x_l2 : Int) > (2054 : Int)))
 (J true w3)
 ((S b ∧
 (kLd w2 ⟨b, 2, none⟩ .i64 fun x3 =>
 (bsplit (!decide (x3 = (-1 : Int)))
 ((S b ∧
 (kLdS w2 ⟨b, 3, none⟩ fun _ x_l3 _ =>
 (S b ∧
 (kLd w2 ⟨b, 2, none⟩ .i64 fun x4 =>
 (bsplit (decide ((x_l3 : Int) > x4))
 (J true w3)
 ((S b ∧
 (kLdS w2 ⟨b, 4, none⟩ fun x_a4 x_l4 _ =>
 (S b ∧
 (kLdS w2 ⟨b, 4, none⟩ fun _ x_l5 _ =>
 (kW .i64 ((x_l5 : Int) - (1 : Int)) fun x5 =>
 (kIx x_a4 x_l4 x5 fun b1 =>
 (S ((b1.add (x5.toNat * 3)).add 2).block ∧
 (kLd w2 ((b1.add (x5.toNat * 3)).add 2) .i64 fun x6 =>
 (S b ∧
 (kLdS w2 ⟨b, 3, none⟩ fun _ x_l6 _ =>
 J (!decide (x6 = (x_l6 : Int))) w3)))))))))))))))))
 ((S b ∧
 (kLdS w2 ⟨b, 4, none⟩ fun x_a7 x_l7 _ =>
 (S b ∧
 (kLdS w2 ⟨b, 4, none⟩ fun _ x_l8 _ =>
 (kW .i64 ((x_l8 : Int) - (1 : Int)) fun x7 =>
 (kIx x_a7 x_l7 x7 fun b2 =>
 (S ((b2.add (x7.toNat * 3)).add 2).block ∧
 (kLd w2 ((b2.add (x7.toNat * 3)).add 2) .i64 fun x8 =>
 (S b ∧
 (kLdS w2 ⟨b, 3, none⟩ fun _ x_l9 _ =>
 J (!decide (x8 = (x_l9 : Int))) w3)))))))))))))))))))))))))))))))))
 ((kLdS w2 ⟨b, 4, none⟩ fun _ x_l10 _ =>
 (bsplit (decide ((x_l10 : Int) = (0 : Int)))
 (J true w2)
 ((kLdS w2 ⟨b, 4, none⟩ fun x_a11 x_l11 x_c11 =>
 (CP N_ref18_Normal #[(.slice x_a11 x_l11 x_c11)] w2 fun e_1 w4 =>
 ∃ r1 : Bool, e_1 = .returned (.bool r1) ∧
 (KeepsB S w2 w4 ∧ (bsplit (!r1)
 (J true w4)
 ((S b ∧
 (kLdS w2 ⟨b, 3, none⟩ fun _ x_l12 _ =>
 (bsplit (decide ((x_l12 : Int) > (2054 : Int)))
 (J true w4)
 ((S b ∧
 (kLd w2 ⟨b, 2, none⟩ .i64 fun x9 =>
 (bsplit (!decide (x9 = (-1 : Int)))
 ((S b ∧
 (kLdS w2 ⟨b, 3, none⟩ fun _ x_l13 _ =>
 (S b ∧
 (kLd w2 ⟨b, 2, none⟩ .i64 fun x10 =>
 (bsplit (decide ((x_l13 : Int) > x10))
 (J true w4)
 ((S b ∧
 (kLdS w2 ⟨b, 4, none⟩ fun x_a14 x_l14 _ =>
 (S b ∧
 (kLdS w2 ⟨b, 4, none⟩ fun _ x_l15 _ =>
 (kW .i64 ((x_l15 : Int) - (1 : Int)) fun x11 =>
 (kIx x_a14 x_l14 x11 fun b3 =>
 (S ((b3.add (x11.toNat * 3)).add 2).block ∧
 (kLd w2 ((b3.add (x11.toNat * 3)).add 2) .i64 fun x12 =>
 (S b ∧
 (kLdS w2 ⟨b, 3, none⟩ fun _ x_l16 _ =>
 J (!decide (x12 = (x_l16 : Int))) w4)))))))))))))))))
 ((S b ∧
 (kLdS w2 ⟨b, 4, none⟩ fun x_a17 x_l17 _ =>
 (S b ∧
 (kLdS w2 ⟨b, 4, none⟩ fun _ x_l18 _ =>
 (kW .i64 ((x_l18 : Int) - (1 : Int)) fun x13 =>
 (kIx x_a17 x_l17 x13 fun b4 =>
 (S ((b4.add (x13.toNat * 3)).add 2).block ∧
 (kLd w2 ((b4.add (x13.toNat * 3)).add 2) .i64 fun x14 =>
 (S b ∧
 (kLdS w2 ⟨b, 3, none⟩ fun _ x_l19 _ =>
 J (!decide (x14 = (x_l19 : Int))) w4)))))))))))))))))))))))))))))))))
theorem F_ref21_partial_eq (p_0 : Int) (p_1 : Bool) (p_2 : Int) (p_3_a : Option Addr) (p_3_l p_3_c : Nat) (p_4_a : Option Addr) (p_4_l p_4_c : Nat) (w : World) (R : Value → World → Prop) : sxFn Tryz.prog TT h_ref21_partial Tryz.f74 #[(.agg #[.int .i64 p_0, .bool p_1, .int .i64 p_2, .slice p_3_a p_3_l p_3_c, .slice p_4_a p_4_l p_4_c])] w R = F_ref21_partial p_0 p_1 p_2 p_3_a p_3_l p_3_c p_4_a p_4_l p_4_c w R := by kernel_rfl
theorem F_ref21_partial_ok {R : Ending → World → Prop} (p_0 : Int) (p_1 : Bool) (p_2 : Int) (p_3_a : Option Addr) (p_3_l p_3_c : Nat) (p_4_a : Option Addr) (p_4_l p_4_c : Nat) (w : World) (h : F_ref21_partial p_0 p_1 p_2 p_3_a p_3_l p_3_c p_4_a p_4_l p_4_c w fun v w' => R (.returned v) w') : Calls Tryz.prog N_ref21_partial #[(.agg #[.int .i64 p_0, .bool p_1, .int .i64 p_2, .slice p_3_a p_3_l p_3_c, .slice p_4_a p_4_l p_4_c])] w R :=
 calls_of (f := 74) follows_ok Tryz.func74 (Eq.mpr (F_ref21_partial_eq p_0 p_1 p_2 p_3_a p_3_l p_3_c p_4_a p_4_l p_4_c w _) h)

def h_made_Dice_Bits : H := (.seq .reg (.seq .reg .leaf))
def F_made_Dice_Bits (d_b d_o : Nat) (w : World) (R : Value → WP) : Prop :=
 (kAlloc w #[(Iv (5 : Int)), (Iv (5 : Int)), (Iv (6 : Int)), (Iv (9 : Int))] Ty_int fun b w1 =>
 (CP N_made_Dice_Next #[(.pointer (some ⟨d_b, d_o, none⟩)), (Iv (4 : Int))] w1 fun e_ w2 =>
 ∃ r : Int, e_ = .returned (Iv r) ∧
 (kIx (some ⟨b, 0, none⟩) 4 r fun b1 =>
 (kLd w2 (b1.add (r.toNat * 1)) .i64 fun x =>
 R (Iv x) w2))))
theorem F_made_Dice_Bits_eq (d_b d_o : Nat) (w : World) (R : Value → World → Prop) : sxFn Tryz.prog TT h_made_Dice_Bits Tryz.f75 #[(.pointer (some ⟨d_b, d_o, none⟩))] w R = F_made_Dice_Bits d_b d_o w R := by kernel_rfl
theorem F_made_Dice_Bits_ok {R : Ending → World → Prop} (d_b d_o : Nat) (w : World) (h : F_made_Dice_Bits d_b d_o w fun v w' => R (.returned v) w') : Calls Tryz.prog N_made_Dice_Bits #[(.pointer (some ⟨d_b, d_o, none⟩))] w R :=
 calls_of (f := 75) follows_ok Tryz.func75 (Eq.mpr (F_made_Dice_Bits_eq d_b d_o w _) h)

def h_ref02_valid : H := (.seq .reg (.seq .reg .leaf))
def F_ref02_valid (n : Int) (w : World) (R : Value → WP) : Prop :=
 (bsplit (decide (n ≥ (1 : Int)))
 ((kLet (decide (n ≤ (32 : Int))) fun x =>
 R (.bool x) w))
 (R (.bool false) w))
theorem F_ref02_valid_eq (n : Int) (w : World) (R : Value → World → Prop) : sxFn Tryz.prog TT h_ref02_valid Tryz.f76 #[(.int .i64 n)] w R = F_ref02_valid n w R := by kernel_rfl
theorem F_ref02_valid_ok {R : Ending → World → Prop} (n : Int) (w : World) (h : F_ref02_valid n w fun v w' => R (.returned v) w') : Calls Tryz.prog N_ref02_valid #[(.int .i64 n)] w R :=
 calls_of (f := 76) follows_ok Tryz.func76 (Eq.mpr (F_ref02_valid_eq n w _) h)

def h_slices_Clone_Sapi_Partial_api_Partial : H := (.seq .reg (.seq (.seq .reg (.cond (.seq .reg .leaf) .leaf)) (.seq .reg .leaf)))
def F_slices_Clone_Sapi_Partial_api_Partial (s_a : OA) (s_l s_c : Nat) (w : World) (R : Value → WP) : Prop :=
 (bsplit s_a.isNone
 (R (.slice none 0 0) w)
 ((kAlloc w #[] Ty_api_Partial fun b w1 =>
 (AppP Tryz.prog #[Ty_S_api_Partial, Ty_S_api_Partial] Ty_S_api_Partial #[(.slice (some ⟨b, 0, none⟩) 0 0), (.slice s_a s_l s_c)] w1 fun x_a x_l x_c w2 =>
 R (.slice x_a x_l x_c) w2))))
theorem F_slices_Clone_Sapi_Partial_api_Partial_eq (s_a : Option Addr) (s_l s_c : Nat) (w : World) (R : Value → World → Prop) : sxFn Tryz.prog TT h_slices_Clone_Sapi_Partial_api_Partial Tryz.f77 #[(.slice s_a s_l s_c)] w R = F_slices_Clone_Sapi_Partial_api_Partial s_a s_l s_c w R := by kernel_rfl
theorem F_slices_Clone_Sapi_Partial_api_Partial_ok {R : Ending → World → Prop} (s_a : Option Addr) (s_l s_c : Nat) (w : World) (h : F_slices_Clone_Sapi_Partial_api_Partial s_a s_l s_c w fun v w' => R (.returned v) w') : Calls Tryz.prog N_slices_Clone_Sapi_Partial_api_Partial #[(.slice s_a s_l s_c)] w R :=
 calls_of (f := 77) follows_ok Tryz.func77 (Eq.mpr (F_slices_Clone_Sapi_Partial_api_Partial_eq s_a s_l s_c w _) h)

def h_slices_Clone_Sbyte_byte : H := (.seq .reg (.seq (.seq .reg (.cond (.seq .reg .leaf) .leaf)) (.seq .reg .leaf)))
def F_slices_Clone_Sbyte_byte (s_a : OA) (s_l s_c : Nat) (w : World) (R : Value → WP) : Prop :=
 (bsplit s_a.isNone
 (R (.slice none 0 0) w)
 ((kAlloc w #[] Ty_uint8 fun b w1 =>
 (AppP Tryz.prog #[Ty_S_uint8, Ty_S_uint8] Ty_S_uint8 #[(.slice (some ⟨b, 0, none⟩) 0 0), (.slice s_a s_l s_c)] w1 fun x_a x_l x_c w2 =>
 R (.slice x_a x_l x_c) w2))))
theorem F_slices_Clone_Sbyte_byte_eq (s_a : Option Addr) (s_l s_c : Nat) (w : World) (R : Value → World → Prop) : sxFn Tryz.prog TT h_slices_Clone_Sbyte_byte Tryz.f78 #[(.slice s_a s_l s_c)] w R = F_slices_Clone_Sbyte_byte s_a s_l s_c w R := by kernel_rfl
theorem F_slices_Clone_Sbyte_byte_ok {R : Ending → World → Prop} (s_a : Option Addr) (s_l s_c : Nat) (w : World) (h : F_slices_Clone_Sbyte_byte s_a s_l s_c w fun v w' => R (.returned v) w') : Calls Tryz.prog N_slices_Clone_Sbyte_byte #[(.slice s_a s_l s_c)] w R :=
 calls_of (f := 78) follows_ok Tryz.func78 (Eq.mpr (F_slices_Clone_Sbyte_byte_eq s_a s_l s_c w _) h)

def h_slices_Clone_Sapi_Range_api_Range : H := (.seq .reg (.seq (.seq .reg (.cond (.seq .reg .leaf) .leaf)) (.seq .reg .leaf)))
def F_slices_Clone_Sapi_Range_api_Range (s_a : OA) (s_l s_c : Nat) (w : World) (R : Value → WP) : Prop :=
 (bsplit s_a.isNone
 (R (.slice none 0 0) w)
 ((kAlloc w #[] Ty_api_Range fun b w1 =>
 (AppP Tryz.prog #[Ty_S_api_Range, Ty_S_api_Range] Ty_S_api_Range #[(.slice (some ⟨b, 0, none⟩) 0 0), (.slice s_a s_l s_c)] w1 fun x_a x_l x_c w2 =>
 R (.slice x_a x_l x_c) w2))))
theorem F_slices_Clone_Sapi_Range_api_Range_eq (s_a : Option Addr) (s_l s_c : Nat) (w : World) (R : Value → World → Prop) : sxFn Tryz.prog TT h_slices_Clone_Sapi_Range_api_Range Tryz.f79 #[(.slice s_a s_l s_c)] w R = F_slices_Clone_Sapi_Range_api_Range s_a s_l s_c w R := by kernel_rfl
theorem F_slices_Clone_Sapi_Range_api_Range_ok {R : Ending → World → Prop} (s_a : Option Addr) (s_l s_c : Nat) (w : World) (h : F_slices_Clone_Sapi_Range_api_Range s_a s_l s_c w fun v w' => R (.returned v) w') : Calls Tryz.prog N_slices_Clone_Sapi_Range_api_Range #[(.slice s_a s_l s_c)] w R :=
 calls_of (f := 79) follows_ok Tryz.func79 (Eq.mpr (F_slices_Clone_Sapi_Range_api_Range_eq s_a s_l s_c w _) h)

def h_segment_head : H := (.seq .reg (.seq (.seq .reg (.cond (.seq .reg .leaf) .leaf)) (.seq .reg .leaf)))
def F_segment_head (part : Int) (w : World) (R : Value → WP) : Prop :=
 (CP N_segment_begins #[(Iv part)] w fun e_ w1 =>
 ∃ r : Bool, e_ = .returned (.bool r) ∧
 (bsplit r
 (R (Iv (2 : Int)) w1)
 (R (Iv (4 : Int)) w1)))
theorem F_segment_head_eq (part : Int) (w : World) (R : Value → World → Prop) : sxFn Tryz.prog TT h_segment_head Tryz.f80 #[(.int .i64 part)] w R = F_segment_head part w R := by kernel_rfl
theorem F_segment_head_ok {R : Ending → World → Prop} (part : Int) (w : World) (h : F_segment_head part w fun v w' => R (.returned v) w') : Calls Tryz.prog N_segment_head #[(.int .i64 part)] w R :=
 calls_of (f := 80) follows_ok Tryz.func80 (Eq.mpr (F_segment_head_eq part w _) h)

def h_segment_Valid : H := (.seq .reg (.seq (.cut [(39, .p .bool)] [5, 6, 7, 8, 9, 10, 11, 12, 13, 14, 15, 16, 17, 18, 19, 20, 21, 22, 23, 24, 25, 26, 27, 28, 29, 30, 31, 32, 33, 34, 35, 36, 37, 38, 39] (.draw .blk (.one 0 .pre (.one 1 .keep (.one 2 .stable (.one 3 .stable (.one 4 .stable (.one 5 .stable (.one 6 .stable (.one 7 .stable (.one 8 .stable (.one 9 .stable (.one 10 .stable (.one 11 .stable (.one 12 .stable (.one 13 .stable (.one 14 .stable (.one 15 .stable (.one 16 .stable (.one 17 .stable (.one 18 .stable (.one 19 .stable (.one 20 .stable (.one 21 .stable (.one 22 .stable (.one 23 .stable (.one 24 .stable (.one 25 .stable (.one 26 .stable (.one 27 .stable (.one 28 .stable (.one 29 .stable (.one 30 .stable (.one 31 .stable (.one 32 .stable (.one 33 .stable (.one 34 .stable .nil)))))))))))))))))))))))))))))))))))) (.cond (.seq .reg .leaf) .leaf)) (.cut [] [4, 40, 41, 42, 43, 44, 45, 46, 47, 48, 49, 50, 51, 52, 53, 54, 55, 56] (.seq (.draw .blk (.one 0 .pre (.one 1 .pre (.one 3 .stable (.one 4 .stable (.one 5 .stable (.one 2 .keep (.one 6 .stable (.one 7 .stable (.one 8 .stable (.one 9 .stable (.one 10 .stable (.one 11 .stable (.one 12 .stable (.one 13 .stable (.one 14 .stable (.one 15 .stable (.one 16 .stable .nil)))))))))))))))))) (.cond (.seq .reg .leaf) .leaf)) (.seq .reg .leaf))))
def F_segment_Valid (bits p_0 p_1 p_2 p_3 : Int) (p_4_a : OA) (p_4_l p_4_c : Nat) (w : World) (R : Value → WP) : Prop :=
 (kAlloc w #[(Iv p_0), (Iv p_1), (Iv p_2), (Iv p_3), (.slice p_4_a p_4_l p_4_c)] Ty_api_Piece fun b w1 =>
 (∃ J : Bool → WP,
 (∀ (_ : Env) (x7 : Bool) (w4 : World), J x7 w4 →
 (bsplit x7
 (R (.bool false) w4)
 ((∃ J1 : WP,
 (∀ (_ : Env)  (w7 : World), J1 w7 →
 (kLdS w7 ⟨b, 4, none⟩ fun _ x_l _ =>
 (bsplit (decide ((x_l : Int) ≥ (1 : Int)))
 ((kLdS w7 ⟨b, 4, none⟩ fun _ x_l1 _ =>
 (kLd w7 ⟨b, 3, none⟩ .i64 fun x12 =>
 (kW .i64 ((2054 : Int) - x12) fun x13 =>
 (kLet (decide ((x_l1 : Int) ≤ x13)) fun x14 =>
 R (.bool x14) w7)))))
 (R (.bool false) w7)))) ∧
 (kDrew w4 fun w5 =>
 (∃ S1 : Nat → Prop,
 (kLd w5 ⟨b, 1, none⟩ .i64 fun x8 =>
 (S1 b ∧
 (kLd w5 ⟨b, 3, none⟩ .i64 fun x9 =>
 (CP N_segment_begins #[(Iv x8)] w5 fun e_1 w6 =>
 ∃ r1 : Bool, e_1 = .returned (.bool r1) ∧
 (KeepsB S1 w5 w6 ∧ (bsplit (!(r1 == (decide (x9 = (0 : Int)))))
 (R (.bool false) w6)
 ((S1 b ∧
 (kLd w5 ⟨b, 3, none⟩ .i64 fun x10 =>
 (bsplit (decide (x10 < (0 : Int)))
 (R (.bool false) w6)
 ((S1 b ∧
 (kLd w5 ⟨b, 3, none⟩ .i64 fun x11 =>
 (bsplit (decide (x11 > (2054 : Int)))
 (R (.bool false) w6)
 (J1 w6))))))))))))))))))))) ∧
 (kDrew w1 fun w2 =>
 (∃ S : Nat → Prop,
 (CP N_counter_Bits #[(Iv bits)] w2 fun e_ w3 =>
 ∃ r : Bool, e_ = .returned (.bool r) ∧
 (KeepsB S w2 w3 ∧ (bsplit (!r)
 (J true w3)
 ((S b ∧
 (kLd w2 ⟨b, 0, none⟩ .i64 fun x =>
 (bsplit (decide (x < (0 : Int)))
 (J true w3)
 ((S b ∧
 (kLd w2 ⟨b, 0, none⟩ .i64 fun x1 =>
 (0 ≤ bits ∧ (kW .i64 ((1 : Int) * 2 ^ (min bits.toNat (IntKind.bits .i64))) fun x2 =>
 (bsplit (decide (x1 ≥ x2))
 (J true w3)
 ((S b ∧
 (kLd w2 ⟨b, 1, none⟩ .i64 fun x3 =>
 (bsplit (decide (x3 < (0 : Int)))
 (J true w3)
 ((S b ∧
 (kLd w2 ⟨b, 1, none⟩ .i64 fun x4 =>
 (bsplit (decide (x4 > (3 : Int)))
 (J true w3)
 ((S b ∧
 (kLd w2 ⟨b, 2, none⟩ .i64 fun x5 =>
 (bsplit (decide (x5 < (0 : Int)))
 (J true w3)
 ((S b ∧
 (kLd w2 ⟨b, 2, none⟩ .i64 fun x6 =>
 J (decide (x6 > (1 : Int))) w3))))))))))))))))))))))))))))))))
theorem F_segment_Valid_eq (bits p_0 p_1 p_2 p_3 : Int) (p_4_a : Option Addr) (p_4_l p_4_c : Nat) (w : World) (R : Value → World → Prop) : sxFn Tryz.prog TT h_segment_Valid Tryz.f81 #[(.int .i64 bits), (.agg #[.int .i64 p_0, .int .i64 p_1, .int .i64 p_2, .int .i64 p_3, .slice p_4_a p_4_l p_4_c])] w R = F_segment_Valid bits p_0 p_1 p_2 p_3 p_4_a p_4_l p_4_c w R := by kernel_rfl
theorem F_segment_Valid_ok {R : Ending → World → Prop} (bits p_0 p_1 p_2 p_3 : Int) (p_4_a : Option Addr) (p_4_l p_4_c : Nat) (w : World) (h : F_segment_Valid bits p_0 p_1 p_2 p_3 p_4_a p_4_l p_4_c w fun v w' => R (.returned v) w') : Calls Tryz.prog N_segment_Valid #[(.int .i64 bits), (.agg #[.int .i64 p_0, .int .i64 p_1, .int .i64 p_2, .int .i64 p_3, .slice p_4_a p_4_l p_4_c])] w R :=
 calls_of (f := 81) follows_ok Tryz.func81 (Eq.mpr (F_segment_Valid_eq bits p_0 p_1 p_2 p_3 p_4_a p_4_l p_4_c w _) h)

def h_serial_Distance : H := (.seq .reg (.seq .reg .leaf))
def F_serial_Distance (n a b : Int) (w : World) (R : Value → WP) : Prop :=
 (kW .i64 (b - a) fun x =>
 (CP N_serial_Low #[(Iv n), (Iv x)] w fun e_ w1 =>
 ∃ r : Int, e_ = .returned (Iv r) ∧
 R (Iv r) w1))
theorem F_serial_Distance_eq (n a b : Int) (w : World) (R : Value → World → Prop) : sxFn Tryz.prog TT h_serial_Distance Tryz.f82 #[(.int .i64 n), (.int .i64 a), (.int .i64 b)] w R = F_serial_Distance n a b w R := by kernel_rfl
theorem F_serial_Distance_ok {R : Ending → World → Prop} (n a b : Int) (w : World) (h : F_serial_Distance n a b w fun v w' => R (.returned v) w') : Calls Tryz.prog N_serial_Distance #[(.int .i64 n), (.int .i64 a), (.int .i64 b)] w R :=
 calls_of (f := 82) follows_ok Tryz.func82 (Eq.mpr (F_serial_Distance_eq n a b w _) h)

def h_receiver_piece_contradicts : H := (.seq .reg (.seq .reg (.seq (.block (.seq .reg (.cond (.seq (.draw .blk (.one 0 .pre (.one 1 .pre (.one 2 .pre (.one 3 .pre (.one 4 .pre (.one 5 .pre (.one 6 .pre (.one 7 .pre (.one 8 .pre (.one 9 .pre (.one 10 .pre (.one 12 .stable (.one 13 .stable (.one 11 .keep (.one 14 .stable (.one 15 .stable (.one 16 .stable .nil)))))))))))))))))) .leaf) (.seq .reg (.cond (.seq .reg .leaf) .leaf))))) (.seq .reg .leaf))))
def F_receiver_piece_contradicts (p_0 p_1 p_2 p_3 : Int) (p_4_a : OA) (p_4_l p_4_c : Nat) (p_5 : Int) (p_6 : Bool) (x_0 : Int) (x_1 : Bool) (x_2 : Int) (x_3_a : OA) (x_3_l x_3_c : Nat) (x_4_a : OA) (x_4_l x_4_c : Nat) (w : World) (R : Value → WP) : Prop :=
 (kAlloc w #[(Iv p_0), (Iv p_1), (Iv p_2), (Iv p_3), (.slice p_4_a p_4_l p_4_c), (Iv p_5), (.bool p_6)] Ty_receiver_piece fun b w1 =>
 (kAlloc w1 #[(Iv x_0), (.bool x_1), (Iv x_2), (.slice x_3_a x_3_l x_3_c), (.slice x_4_a x_4_l x_4_c)] Ty_api_Partial fun b1 w2 =>
 (kLd w2 ⟨b1, 2, none⟩ .i64 fun x =>
 (kLet (!decide (x = (-1 : Int))) fun known =>
 (kLdB w2 ⟨b, 6, none⟩ fun x1 =>
 (bsplit x1
 ((kDrew w2 fun w3 =>
 (∃ S : Nat → Prop,
 (bsplit known
 ((kLd w3 ⟨b1, 2, none⟩ .i64 fun x2 =>
 (kLd w3 ⟨b, 5, none⟩ .i64 fun x3 =>
 (bsplit (!decide (x2 = x3))
 (R (.bool true) w3)
 ((kLdS w3 ⟨b1, 4, none⟩ fun x_a x_l x_c =>
 (S b ∧
 (kLd w3 ⟨b, 5, none⟩ .i64 fun x4 =>
 (CP N_receiver_end #[(.slice x_a x_l x_c)] w3 fun e_ w4 =>
 ∃ r : Int, e_ = .returned (Iv r) ∧
 (KeepsB S w3 w4 ∧ (kLet (decide (r > x4)) fun x5 =>
 R (.bool x5) w4)))))))))))
 ((kLdS w3 ⟨b1, 4, none⟩ fun x_a1 x_l1 x_c1 =>
 (S b ∧
 (kLd w3 ⟨b, 5, none⟩ .i64 fun x6 =>
 (CP N_receiver_end #[(.slice x_a1 x_l1 x_c1)] w3 fun e_1 w5 =>
 ∃ r1 : Int, e_1 = .returned (Iv r1) ∧
 (KeepsB S w3 w5 ∧ (kLet (decide (r1 > x6)) fun x7 =>
 R (.bool x7) w5)))))))))))
 ((bsplit known
 ((kLd w2 ⟨b, 5, none⟩ .i64 fun x8 =>
 (kLd w2 ⟨b1, 2, none⟩ .i64 fun x9 =>
 (kLet (decide (x8 ≥ x9)) fun x10 =>
 R (.bool x10) w2))))
 (R (.bool false) w2)))))))))
theorem F_receiver_piece_contradicts_eq (p_0 p_1 p_2 p_3 : Int) (p_4_a : Option Addr) (p_4_l p_4_c : Nat) (p_5 : Int) (p_6 : Bool) (x_0 : Int) (x_1 : Bool) (x_2 : Int) (x_3_a : Option Addr) (x_3_l x_3_c : Nat) (x_4_a : Option Addr) (x_4_l x_4_c : Nat) (w : World) (R : Value → World → Prop) : sxFn Tryz.prog TT h_receiver_piece_contradicts Tryz.f83 #[(.agg #[.int .i64 p_0, .int .i64 p_1, .int .i64 p_2, .int .i64 p_3, .slice p_4_a p_4_l p_4_c, .int .i64 p_5, .bool p_6]), (.agg #[.int .i64 x_0, .bool x_1, .int .i64 x_2, .slice x_3_a x_3_l x_3_c, .slice x_4_a x_4_l x_4_c])] w R = F_receiver_piece_contradicts p_0 p_1 p_2 p_3 p_4_a p_4_l p_4_c p_5 p_6 x_0 x_1 x_2 x_3_a x_3_l x_3_c x_4_a x_4_l x_4_c w R := by kernel_rfl
theorem F_receiver_piece_contradicts_ok {R : Ending → World → Prop} (p_0 p_1 p_2 p_3 : Int) (p_4_a : Option Addr) (p_4_l p_4_c : Nat) (p_5 : Int) (p_6 : Bool) (x_0 : Int) (x_1 : Bool) (x_2 : Int) (x_3_a : Option Addr) (x_3_l x_3_c : Nat) (x_4_a : Option Addr) (x_4_l x_4_c : Nat) (w : World) (h : F_receiver_piece_contradicts p_0 p_1 p_2 p_3 p_4_a p_4_l p_4_c p_5 p_6 x_0 x_1 x_2 x_3_a x_3_l x_3_c x_4_a x_4_l x_4_c w fun v w' => R (.returned v) w') : Calls Tryz.prog N_receiver_piece_contradicts #[(.agg #[.int .i64 p_0, .int .i64 p_1, .int .i64 p_2, .int .i64 p_3, .slice p_4_a p_4_l p_4_c, .int .i64 p_5, .bool p_6]), (.agg #[.int .i64 x_0, .bool x_1, .int .i64 x_2, .slice x_3_a x_3_l x_3_c, .slice x_4_a x_4_l x_4_c])] w R :=
 calls_of (f := 83) follows_ok Tryz.func83 (Eq.mpr (F_receiver_piece_contradicts_eq p_0 p_1 p_2 p_3 p_4_a p_4_l p_4_c p_5 p_6 x_0 x_1 x_2 x_3_a x_3_l x_3_c x_4_a x_4_l x_4_c w _) h)

def h_receiver_piece_known : H := (.seq .reg (.seq .reg (.seq .reg .leaf)))
def F_receiver_piece_known (p_0 p_1 p_2 p_3 : Int) (p_4_a : OA) (p_4_l p_4_c : Nat) (p_5 : Int) (p_6 : Bool) (x_0 : Int) (x_1 : Bool) (x_2 : Int) (x_3_a : OA) (x_3_l x_3_c : Nat) (x_4_a : OA) (x_4_l x_4_c : Nat) (w : World) (R : Value → WP) : Prop :=
 (kAlloc w #[(Iv p_0), (Iv p_1), (Iv p_2), (Iv p_3), (.slice p_4_a p_4_l p_4_c), (Iv p_5), (.bool p_6)] Ty_receiver_piece fun b w1 =>
 (kAlloc w1 #[(Iv x_0), (.bool x_1), (Iv x_2), (.slice x_3_a x_3_l x_3_c), (.slice x_4_a x_4_l x_4_c)] Ty_api_Partial fun b1 w2 =>
 (kLdS w2 ⟨b1, 4, none⟩ fun x_a x_l x_c =>
 (CP N_slices_ContainsFunc_Sapi_Range_api_Range #[(.slice x_a x_l x_c), (.func (.func N_receiver_piece_known_1) #[] #[(.pointer (some ⟨b, 0, none⟩))])] w2 fun e_ w3 =>
 ∃ r : Bool, e_ = .returned (.bool r) ∧
 (bsplit r
 ((kLdB w3 ⟨b, 6, none⟩ fun x =>
 (bsplit (!x)
 (R (.bool true) w3)
 ((kLd w3 ⟨b1, 2, none⟩ .i64 fun x1 =>
 (kLet (!decide (x1 = (-1 : Int))) fun x2 =>
 R (.bool x2) w3))))))
 (R (.bool false) w3))))))
theorem F_receiver_piece_known_eq (p_0 p_1 p_2 p_3 : Int) (p_4_a : Option Addr) (p_4_l p_4_c : Nat) (p_5 : Int) (p_6 : Bool) (x_0 : Int) (x_1 : Bool) (x_2 : Int) (x_3_a : Option Addr) (x_3_l x_3_c : Nat) (x_4_a : Option Addr) (x_4_l x_4_c : Nat) (w : World) (R : Value → World → Prop) : sxFn Tryz.prog TT h_receiver_piece_known Tryz.f84 #[(.agg #[.int .i64 p_0, .int .i64 p_1, .int .i64 p_2, .int .i64 p_3, .slice p_4_a p_4_l p_4_c, .int .i64 p_5, .bool p_6]), (.agg #[.int .i64 x_0, .bool x_1, .int .i64 x_2, .slice x_3_a x_3_l x_3_c, .slice x_4_a x_4_l x_4_c])] w R = F_receiver_piece_known p_0 p_1 p_2 p_3 p_4_a p_4_l p_4_c p_5 p_6 x_0 x_1 x_2 x_3_a x_3_l x_3_c x_4_a x_4_l x_4_c w R := by kernel_rfl
theorem F_receiver_piece_known_ok {R : Ending → World → Prop} (p_0 p_1 p_2 p_3 : Int) (p_4_a : Option Addr) (p_4_l p_4_c : Nat) (p_5 : Int) (p_6 : Bool) (x_0 : Int) (x_1 : Bool) (x_2 : Int) (x_3_a : Option Addr) (x_3_l x_3_c : Nat) (x_4_a : Option Addr) (x_4_l x_4_c : Nat) (w : World) (h : F_receiver_piece_known p_0 p_1 p_2 p_3 p_4_a p_4_l p_4_c p_5 p_6 x_0 x_1 x_2 x_3_a x_3_l x_3_c x_4_a x_4_l x_4_c w fun v w' => R (.returned v) w') : Calls Tryz.prog N_receiver_piece_known #[(.agg #[.int .i64 p_0, .int .i64 p_1, .int .i64 p_2, .int .i64 p_3, .slice p_4_a p_4_l p_4_c, .int .i64 p_5, .bool p_6]), (.agg #[.int .i64 x_0, .bool x_1, .int .i64 x_2, .slice x_3_a x_3_l x_3_c, .slice x_4_a x_4_l x_4_c])] w R :=
 calls_of (f := 84) follows_ok Tryz.func84 (Eq.mpr (F_receiver_piece_known_eq p_0 p_1 p_2 p_3 p_4_a p_4_l p_4_c p_5 p_6 x_0 x_1 x_2 x_3_a x_3_l x_3_c x_4_a x_4_l x_4_c w _) h)

def h_serial_Low : H := (.seq .reg (.seq (.seq .reg (.cond (.seq .reg .leaf) .leaf)) (.seq .reg .leaf)))
def F_serial_Low (n x : Int) (w : World) (R : Value → WP) : Prop :=
 (CP N_serial_valid #[(Iv n)] w fun e_ w1 =>
 ∃ r : Bool, e_ = .returned (.bool r) ∧
 (bsplit (!r)
 (R (Iv (-1 : Int)) w1)
 ((0 ≤ n ∧ (kW .i64 ((1 : Int) * 2 ^ (min n.toNat (IntKind.bits .i64))) fun x1 =>
 (kW .i64 (x1 - (1 : Int)) fun x2 =>
 (kLet (bAnd .i64 x x2) fun x3 =>
 R (Iv x3) w1)))))))
theorem F_serial_Low_eq (n x : Int) (w : World) (R : Value → World → Prop) : sxFn Tryz.prog TT h_serial_Low Tryz.f87 #[(.int .i64 n), (.int .i64 x)] w R = F_serial_Low n x w R := by kernel_rfl
theorem F_serial_Low_ok {R : Ending → World → Prop} (n x : Int) (w : World) (h : F_serial_Low n x w fun v w' => R (.returned v) w') : Calls Tryz.prog N_serial_Low #[(.int .i64 n), (.int .i64 x)] w R :=
 calls_of (f := 87) follows_ok Tryz.func87 (Eq.mpr (F_serial_Low_eq n x w _) h)

def h_segment_Union : H := (.seq .reg (.cut [] [4, 5, 10, 11, 12, 13, 14, 15, 16, 17, 18] (.seq .reg (.cond (.seq .reg .leaf) .leaf)) (.seq .reg (.seq (.seq .reg (.block (.loop [(6, .p .slice), (7, .p .slice), (21, .p (.int .i64))] [6, 7, 9, 21, 22, 23, 24, 25, 26, 27, 28, 29, 30, 31, 32, 33, 34, 35, 36, 37, 38, 39, 40, 41, 42, 43, 44, 45, 46, 47, 48, 49, 50, 51, 52, 53, 54, 55, 56, 57, 58, 59, 60] (.seq .reg (.seq (.cond .leaf .leaf) (.seq (.block (.seq .reg (.seq .reg (.block (.seq .reg (.cond .reg (.seq .reg (.cond .reg (.draw .blk (.one 0 .pre (.one 1 .pre (.one 2 .pre (.one 3 .pre (.one 4 .pre (.one 5 .pre (.one 6 .pre (.one 7 .stable (.one 8 .stable (.one 9 .stable (.one 10 .pre (.one 11 .keep (.one 12 .stable (.one 13 .last .nil))))))))))))))))))))))) .reg)))))) (.seq .reg .leaf)))))
def F_segment_Union (l_a : OA) (l_l l_c : Nat) (r_0 r_1 r_2 : Int) (w : World) (R : Value → WP) : Prop :=
 (kAlloc w #[(Iv r_0), (Iv r_1), (Iv r_2)] Ty_api_Range fun b w1 =>
 (∃ J : WP,
 (∀ (_ : Env)  (w5 : World), J w5 →
 (∃ I : OA → Nat → Nat → OA → Nat → Nat → Int → Nat × (WP), (I none 0 0 none 0 0 (0 : Int)).2 w5 ∧
 (∀ (_ : Env) (before_a : OA) (before_l : Nat) (before_c : Nat) (behind_a : OA) (behind_l : Nat) (behind_c : Nat) (x : Int) (w6 : World), (I before_a before_l before_c behind_a behind_l behind_c x).2 w6 →
 (bsplit (decide (x < (l_l : Int)))
 ((kIx l_a l_l x fun b2 =>
 (∃ x_01 x_11 x_21 : Int, cellsAt w6 (b2.add (x.toNat * 3)) 0 [(Iv x_01), (Iv x_11), (Iv x_21)] ∧
 (kAlloc w6 #[Iv (0 : Int), Iv (0 : Int), Iv (0 : Int)] Ty_api_Range fun b3 w7 =>
 (sxStore w7 ⟨b3, 0, none⟩ 0 [(Iv x_01), (Iv x_11), (Iv x_21)] fun w8 =>
 (kLd w8 ⟨b, 0, none⟩ .i64 fun x1 =>
 (kSet w8 ⟨b3, 0, none⟩ (Iv x1) fun w9 =>
 (kLd w9 ⟨b3, 2, none⟩ .i64 fun x2 =>
 (kLd w9 ⟨b, 1, none⟩ .i64 fun x3 =>
 (kLet (decide (x2 < x3)) fun x4 =>
 (bsplit x4
 ((∃ x_02 x_12 x_22 : Int, cellsAt w9 ⟨b3, 0, none⟩ 0 [(Iv x_02), (Iv x_12), (Iv x_22)] ∧
 (kAlloc w9 #[(Iv x_02), (Iv x_12), (Iv x_22)] Ty_api_Range fun b4 w10 =>
 (AppP Tryz.prog #[Ty_S_api_Range, Ty_S_api_Range] Ty_S_api_Range #[(.slice before_a before_l before_c), (.slice (some ⟨b4, 0, none⟩) 1 1)] w10 fun x_a x_l x_c w11 =>
 (kW .i64 (x + (1 : Int)) fun x5 =>
 ((I x_a x_l x_c behind_a behind_l behind_c x5).2 w11 ∧ (I x_a x_l x_c behind_a behind_l behind_c x5).1 < (I before_a before_l before_c behind_a behind_l behind_c x).1))))))
 ((kLd w9 ⟨b3, 1, none⟩ .i64 fun x6 =>
 (kLd w9 ⟨b, 2, none⟩ .i64 fun x7 =>
 (kLet (decide (x6 > x7)) fun x8 =>
 (bsplit x8
 ((∃ x_03 x_13 x_23 : Int, cellsAt w9 ⟨b3, 0, none⟩ 0 [(Iv x_03), (Iv x_13), (Iv x_23)] ∧
 (kAlloc w9 #[(Iv x_03), (Iv x_13), (Iv x_23)] Ty_api_Range fun b5 w12 =>
 (AppP Tryz.prog #[Ty_S_api_Range, Ty_S_api_Range] Ty_S_api_Range #[(.slice behind_a behind_l behind_c), (.slice (some ⟨b5, 0, none⟩) 1 1)] w12 fun x_a1 x_l1 x_c1 w13 =>
 (kW .i64 (x + (1 : Int)) fun x9 =>
 ((I before_a before_l before_c x_a1 x_l1 x_c1 x9).2 w13 ∧ (I before_a before_l before_c x_a1 x_l1 x_c1 x9).1 < (I before_a before_l before_c behind_a behind_l behind_c x).1))))))
 ((kDrew w9 fun w14 =>
 (∃ S : Nat → Prop,
 (kLd w14 ⟨b, 1, none⟩ .i64 fun x10 =>
 (kLd w14 ⟨b3, 1, none⟩ .i64 fun x11 =>
 (kLd w14 ⟨b, 2, none⟩ .i64 fun x12 =>
 (S b3 ∧
 (kLd w14 ⟨b3, 2, none⟩ .i64 fun x13 =>
 (kSet w14 ⟨b, 1, none⟩ (Iv (if x11 < x10 then x11 else x10)) fun w15 =>
 (KeepsB S w14 w15 ∧ (kSet w15 ⟨b, 2, none⟩ (Iv (if x13 > x12 then x13 else x12)) fun w16 =>
 (kW .i64 (x + (1 : Int)) fun x14 =>
 ((I before_a before_l before_c behind_a behind_l behind_c x14).2 w16 ∧ (I before_a before_l before_c behind_a behind_l behind_c x14).1 < (I before_a before_l before_c behind_a behind_l behind_c x).1)))))))))))))))))))))))))))))
 ((∃ x_04 x_14 x_24 : Int, cellsAt w6 ⟨b, 0, none⟩ 0 [(Iv x_04), (Iv x_14), (Iv x_24)] ∧
 (kAlloc w6 #[(Iv x_04), (Iv x_14), (Iv x_24)] Ty_api_Range fun b6 w17 =>
 (kAlloc w17 #[(.slice before_a before_l before_c), (.slice (some ⟨b6, 0, none⟩) 1 1), (.slice behind_a behind_l behind_c)] Ty_S_api_Range fun b7 w18 =>
 (CP N_slices_Concat_Sapi_Range_api_Range #[(.slice (some ⟨b7, 0, none⟩) 3 3)] w18 fun e_2 w19 =>
 ∃ r_a : OA, ∃ r_l r_c : Nat, e_2 = .returned (.slice r_a r_l r_c) ∧
 R (.tuple #[(.slice r_a r_l r_c), (Iv (0 : Int))]) w19))))))))) ∧
 (CP N_segment_Normal #[(.slice l_a l_l l_c)] w1 fun e_ w2 =>
 ∃ r : Bool, e_ = .returned (.bool r) ∧
 (bsplit (!r)
 (R (.tuple #[(.slice none 0 0), (Iv (4 : Int))]) w2)
 ((∃ x_0 x_1 x_2 : Int, cellsAt w2 ⟨b, 0, none⟩ 0 [(Iv x_0), (Iv x_1), (Iv x_2)] ∧
 (kAlloc w2 #[(Iv x_0), (Iv x_1), (Iv x_2)] Ty_api_Range fun b1 w3 =>
 (CP N_segment_Normal #[(.slice (some ⟨b1, 0, none⟩) 1 1)] w3 fun e_1 w4 =>
 ∃ r1 : Bool, e_1 = .returned (.bool r1) ∧
 (bsplit (!r1)
 (R (.tuple #[(.slice none 0 0), (Iv (4 : Int))]) w4)
 (J w4))))))))))
theorem F_segment_Union_eq (l_a : Option Addr) (l_l l_c : Nat) (r_0 r_1 r_2 : Int) (w : World) (R : Value → World → Prop) : sxFn Tryz.prog TT h_segment_Union Tryz.f88 #[(.slice l_a l_l l_c), (.agg #[.int .i64 r_0, .int .i64 r_1, .int .i64 r_2])] w R = F_segment_Union l_a l_l l_c r_0 r_1 r_2 w R := by kernel_rfl
theorem F_segment_Union_ok {R : Ending → World → Prop} (l_a : Option Addr) (l_l l_c : Nat) (r_0 r_1 r_2 : Int) (w : World) (h : F_segment_Union l_a l_l l_c r_0 r_1 r_2 w fun v w' => R (.returned v) w') : Calls Tryz.prog N_segment_Union #[(.slice l_a l_l l_c), (.agg #[.int .i64 r_0, .int .i64 r_1, .int .i64 r_2])] w R :=
 calls_of (f := 88) follows_ok Tryz.func88 (Eq.mpr (F_segment_Union_eq l_a l_l l_c r_0 r_1 r_2 w _) h)

def h_status_Valid : H := (.seq .reg (.cut [] [4, 10, 11, 12, 13, 14, 15, 16, 17, 18, 19, 20, 21, 22, 23, 24, 25, 26, 27, 28, 29, 30] (.seq (.draw .blk (.one 0 .pre (.one 1 .keep (.one 2 .stable (.one 3 .stable (.one 4 .stable (.one 5 .stable (.one 6 .stable (.one 7 .stable (.one 8 .stable (.one 9 .stable (.one 10 .stable (.one 11 .stable (.one 12 .stable (.one 13 .stable (.one 14 .stable (.one 15 .stable (.one 16 .stable (.one 17 .stable (.one 18 .stable (.one 19 .stable (.one 20 .stable .nil)))))))))))))))))))))) (.cond (.seq .reg .leaf) .leaf)) (.seq .reg (.seq (.seq .reg (.block (.loop [(5, .p (.int .i64)), (38, .p (.int .i64))] [4, 5, 6, 7, 8, 9, 38, 39, 40, 41, 42, 43, 44, 45, 46, 47, 48, 49, 50, 51, 52, 53, 54, 55, 56, 57, 58, 59, 60, 61, 62, 63, 64, 65, 66, 67, 68, 69, 70, 71, 72, 73, 74, 75, 76, 77, 78, 79, 80, 81, 82, 83, 84, 85, 86, 87, 88, 89, 90, 91, 92, 93, 94, 95, 96, 97, 98, 99, 100, 101, 102, 103, 104, 105, 106, 107, 108, 109, 110, 111, 112] (.seq .reg (.seq (.cond .leaf .leaf) (.seq (.block (.seq .reg (.seq .reg (.seq (.cut [(84, .p .bool)] [49, 50, 51, 52, 53, 54, 55, 56, 57, 58, 59, 60, 61, 62, 63, 64, 65, 66, 67, 68, 69, 70, 71, 72, 73, 74, 75, 76, 77, 78, 79, 80, 81, 82, 83, 84] (.draw .blk (.one 0 .pre (.one 1 .pre (.one 2 .pre (.one 3 .pre (.one 4 .pre (.one 5 .pre (.one 6 .pre (.one 7 .pre (.one 8 .pre (.one 9 .pre (.one 10 .pre (.one 11 .pre (.one 12 .pre (.one 13 .pre (.one 14 .pre (.one 15 .pre (.one 16 .pre (.one 17 .pre (.one 18 .pre (.one 19 .pre (.one 20 .pre (.one 21 .pre (.one 22 .pre (.one 23 .pre (.one 24 .pre (.one 25 .pre (.one 26 .pre (.one 27 .pre (.one 28 .keep (.one 29 .stable (.one 30 .stable (.one 31 .stable (.one 32 .keep (.one 33 .stable (.one 34 .stable (.one 35 .stable .nil))))))))))))))))))))))))))))))))))))) (.cond (.seq .reg .leaf) .leaf)) (.seq (.cut [(91, .p .bool)] [85, 86, 87, 88, 89, 90, 91] .reg (.cond (.seq .reg (.seq .reg (.cond (.seq .reg .leaf) .leaf))) .leaf)) .reg))))) .reg)))))) (.seq .reg .leaf)))))
def F_status_Valid (bits s_0 : Int) (s_1_a : OA) (s_1_l s_1_c : Nat) (w : World) (R : Value → WP) : Prop :=
 (kAlloc w #[(Iv s_0), (.slice s_1_a s_1_l s_1_c)] Ty_api_Status fun b w1 =>
 (∃ J : WP,
 (∀ (_ : Env)  (w4 : World), J w4 →
 (kW .i64 (bits - (1 : Int)) fun x3 =>
 (0 ≤ x3 ∧ (kW .i64 ((1 : Int) * 2 ^ (min x3.toNat (IntKind.bits .i64))) fun x4 =>
 (kW .i64 (x4 + (1 : Int)) fun x5 =>
 (kLdS w4 ⟨b, 1, none⟩ fun x_a1 x_l1 _ =>
 (∃ I : Int → Int → Nat × (WP), (I x5 (0 : Int)).2 w4 ∧
 (∀ (_ : Env) (before : Int) (x6 : Int) (w5 : World), (I before x6).2 w5 →
 (bsplit (decide (x6 < (x_l1 : Int)))
 ((kIx x_a1 x_l1 x6 fun b1 =>
 (∃ x_0 x_1 x_2 : Int, cellsAt w5 (b1.add (x6.toNat * 3)) 0 [(Iv x_0), (Iv x_1), (Iv x_2)] ∧
 (kAlloc w5 #[Iv (0 : Int), Iv (0 : Int), Iv (0 : Int)] Ty_api_Range fun b2 w6 =>
 (sxStore w6 ⟨b2, 0, none⟩ 0 [(Iv x_0), (Iv x_1), (Iv x_2)] fun w7 =>
 (kLd w7 ⟨b2, 0, none⟩ .i64 fun x7 =>
 (kLd w7 ⟨b, 0, none⟩ .i64 fun x8 =>
 (CP N_serial_Distance #[(Iv bits), (Iv x7), (Iv x8)] w7 fun e_1 w8 =>
 ∃ r1 : Int, e_1 = .returned (Iv r1) ∧
 (∃ J1 : Bool → WP,
 (∀ (_ : Env) (x14 : Bool) (w12 : World), J1 x14 w12 →
 (bsplit x14
 (R (.bool false) w12)
 ((∃ J2 : Bool → WP,
 (∀ (_ : Env) (x15 : Bool) (w13 : World), J2 x15 w13 →
 (bsplit x15
 ((kLdS w13 ⟨b, 1, none⟩ fun x_a2 x_l2 _ =>
 (kW .i64 (x6 - (1 : Int)) fun x16 =>
 (kIx x_a2 x_l2 x16 fun b3 =>
 (∃ x_03 x_13 x_23 : Int, cellsAt w13 (b3.add (x16.toNat * 3)) 0 [(Iv x_03), (Iv x_13), (Iv x_23)] ∧
 (kAlloc w13 #[Iv (0 : Int), Iv (0 : Int), Iv (0 : Int)] Ty_api_Range fun b4 w14 =>
 (sxStore w14 ⟨b4, 0, none⟩ 0 [(Iv x_03), (Iv x_13), (Iv x_23)] fun w15 =>
 (∃ x_04 x_14 x_24 : Int, cellsAt w15 ⟨b4, 0, none⟩ 0 [(Iv x_04), (Iv x_14), (Iv x_24)] ∧
 (CP N_status_Whole #[(.agg #[Iv x_04, Iv x_14, Iv x_24])] w15 fun e_4 w16 =>
 ∃ r4 : Bool, e_4 = .returned (.bool r4) ∧
 (bsplit r4
 (R (.bool false) w16)
 ((∃ x_05 x_15 x_25 : Int, cellsAt w16 ⟨b2, 0, none⟩ 0 [(Iv x_05), (Iv x_15), (Iv x_25)] ∧
 (CP N_status_Whole #[(.agg #[Iv x_05, Iv x_15, Iv x_25])] w16 fun e_5 w17 =>
 ∃ r5 : Bool, e_5 = .returned (.bool r5) ∧
 (bsplit r5
 (R (.bool false) w17)
 ((kLd w17 ⟨b2, 1, none⟩ .i64 fun x19 =>
 (kLd w17 ⟨b4, 2, none⟩ .i64 fun x20 =>
 (bsplit (decide (x19 ≤ x20))
 (R (.bool false) w17)
 ((kW .i64 (x6 + (1 : Int)) fun x21 =>
 ((I r1 x21).2 w17 ∧ (I r1 x21).1 < (I before x6).1)))))))))))))))))))))
 ((kW .i64 (x6 + (1 : Int)) fun x22 =>
 ((I r1 x22).2 w13 ∧ (I r1 x22).1 < (I before x6).1))))) ∧
 (bsplit (decide (r1 = before))
 (J2 (decide (x6 > (0 : Int))) w12)
 (J2 false w12)))))) ∧
 (kDrew w8 fun w9 =>
 (∃ S1 : Nat → Prop,
 (kLd w9 ⟨b2, 0, none⟩ .i64 fun x9 =>
 (bsplit (decide (x9 < (0 : Int)))
 (J1 true w9)
 ((kLd w9 ⟨b2, 0, none⟩ .i64 fun x10 =>
 (0 ≤ bits ∧ (kW .i64 ((1 : Int) * 2 ^ (min bits.toNat (IntKind.bits .i64))) fun x11 =>
 (bsplit (decide (x10 ≥ x11))
 (J1 true w9)
 ((bsplit (decide (r1 < (1 : Int)))
 (J1 true w9)
 ((bsplit (decide (r1 > before))
 (J1 true w9)
 ((kW .i64 (bits - (1 : Int)) fun x12 =>
 (0 ≤ x12 ∧ (kW .i64 ((1 : Int) * 2 ^ (min x12.toNat (IntKind.bits .i64))) fun x13 =>
 (bsplit (decide (r1 > x13))
 (J1 true w9)
 ((∃ x_01 x_11 x_21 : Int, cellsAt w9 ⟨b2, 0, none⟩ 0 [(Iv x_01), (Iv x_11), (Iv x_21)] ∧
 (CP N_status_Whole #[(.agg #[Iv x_01, Iv x_11, Iv x_21])] w9 fun e_2 w10 =>
 ∃ r2 : Bool, e_2 = .returned (.bool r2) ∧
 (KeepsB S1 w9 w10 ∧ (bsplit (!r2)
 ((S1 b2 ∧
 (∃ x_02 x_12 x_22 : Int, cellsAt w9 ⟨b2, 0, none⟩ 0 [(Iv x_02), (Iv x_12), (Iv x_22)] ∧
 (CP N_status_part #[(.agg #[Iv x_02, Iv x_12, Iv x_22])] w10 fun e_3 w11 =>
 ∃ r3 : Bool, e_3 = .returned (.bool r3) ∧
 (KeepsB S1 w9 w11 ∧ J1 (!r3) w11)))))
 (J1 false w10)))))))))))))))))))))))))))))))))
 (R (.bool true) w5)))))))))) ∧
 (kDrew w1 fun w2 =>
 (∃ S : Nat → Prop,
 (CP N_counter_Bits #[(Iv bits)] w2 fun e_ w3 =>
 ∃ r : Bool, e_ = .returned (.bool r) ∧
 (KeepsB S w2 w3 ∧ (bsplit (!r)
 (R (.bool false) w3)
 ((S b ∧
 (kLd w2 ⟨b, 0, none⟩ .i64 fun x =>
 (bsplit (decide (x < (0 : Int)))
 (R (.bool false) w3)
 ((S b ∧
 (kLd w2 ⟨b, 0, none⟩ .i64 fun x1 =>
 (0 ≤ bits ∧ (kW .i64 ((1 : Int) * 2 ^ (min bits.toNat (IntKind.bits .i64))) fun x2 =>
 (bsplit (decide (x1 ≥ x2))
 (R (.bool false) w3)
 ((S b ∧
 (kLdS w2 ⟨b, 1, none⟩ fun _ x_l _ =>
 (bsplit (decide ((x_l : Int) > (64 : Int)))
 (R (.bool false) w3)
 (J w3))))))))))))))))))))))
theorem F_status_Valid_eq (bits s_0 : Int) (s_1_a : Option Addr) (s_1_l s_1_c : Nat) (w : World) (R : Value → World → Prop) : sxFn Tryz.prog TT h_status_Valid Tryz.f89 #[(.int .i64 bits), (.agg #[.int .i64 s_0, .slice s_1_a s_1_l s_1_c])] w R = F_status_Valid bits s_0 s_1_a s_1_l s_1_c w R := by kernel_rfl
theorem F_status_Valid_ok {R : Ending → World → Prop} (bits s_0 : Int) (s_1_a : Option Addr) (s_1_l s_1_c : Nat) (w : World) (h : F_status_Valid bits s_0 s_1_a s_1_l s_1_c w fun v w' => R (.returned v) w') : Calls Tryz.prog N_status_Valid #[(.int .i64 bits), (.agg #[.int .i64 s_0, .slice s_1_a s_1_l s_1_c])] w R :=
 calls_of (f := 89) follows_ok Tryz.func89 (Eq.mpr (F_status_Valid_eq bits s_0 s_1_a s_1_l s_1_c w _) h)

def h_status_size : H := (.seq .reg (.seq (.seq .reg (.cond (.seq .reg .leaf) .leaf)) (.seq .reg .leaf)))
def F_status_size (r_0 r_1 r_2 : Int) (w : World) (R : Value → WP) : Prop :=
 (kAlloc w #[(Iv r_0), (Iv r_1), (Iv r_2)] Ty_api_Range fun b w1 =>
 (∃ x_0 x_1 x_2 : Int, cellsAt w1 ⟨b, 0, none⟩ 0 [(Iv x_0), (Iv x_1), (Iv x_2)] ∧
 (CP N_status_Whole #[(.agg #[Iv x_0, Iv x_1, Iv x_2])] w1 fun e_ w2 =>
 ∃ r : Bool, e_ = .returned (.bool r) ∧
 (bsplit r
 (R (Iv (2 : Int)) w2)
 (R (Iv (6 : Int)) w2)))))
theorem F_status_size_eq (r_0 r_1 r_2 : Int) (w : World) (R : Value → World → Prop) : sxFn Tryz.prog TT h_status_size Tryz.f90 #[(.agg #[.int .i64 r_0, .int .i64 r_1, .int .i64 r_2])] w R = F_status_size r_0 r_1 r_2 w R := by kernel_rfl
theorem F_status_size_ok {R : Ending → World → Prop} (r_0 r_1 r_2 : Int) (w : World) (h : F_status_size r_0 r_1 r_2 w fun v w' => R (.returned v) w') : Calls Tryz.prog N_status_size #[(.agg #[.int .i64 r_0, .int .i64 r_1, .int .i64 r_2])] w R :=
 calls_of (f := 90) follows_ok Tryz.func90 (Eq.mpr (F_status_size_eq r_0 r_1 r_2 w _) h)

def h_status_Whole : H := (.seq .reg (.seq .reg .leaf))
def F_status_Whole (r_0 r_1 r_2 : Int) (w : World) (R : Value → WP) : Prop :=
 (kAlloc w #[(Iv r_0), (Iv r_1), (Iv r_2)] Ty_api_Range fun b w1 =>
 (kLd w1 ⟨b, 1, none⟩ .i64 fun x =>
 (bsplit (decide (x = (0 : Int)))
 ((kLd w1 ⟨b, 2, none⟩ .i64 fun x1 =>
 (kLet (decide (x1 = (0 : Int))) fun x2 =>
 R (.bool x2) w1)))
 (R (.bool false) w1))))
theorem F_status_Whole_eq (r_0 r_1 r_2 : Int) (w : World) (R : Value → World → Prop) : sxFn Tryz.prog TT h_status_Whole Tryz.f91 #[(.agg #[.int .i64 r_0, .int .i64 r_1, .int .i64 r_2])] w R = F_status_Whole r_0 r_1 r_2 w R := by kernel_rfl
theorem F_status_Whole_ok {R : Ending → World → Prop} (r_0 r_1 r_2 : Int) (w : World) (h : F_status_Whole r_0 r_1 r_2 w fun v w' => R (.returned v) w') : Calls Tryz.prog N_status_Whole #[(.agg #[.int .i64 r_0, .int .i64 r_1, .int .i64 r_2])] w R :=
 calls_of (f := 91) follows_ok Tryz.func91 (Eq.mpr (F_status_Whole_eq r_0 r_1 r_2 w _) h)

def h_ref19_Valid : H := (.seq .reg (.cut [] [4, 11, 12, 13, 14, 15, 16, 17, 18, 19, 20, 21, 22, 23, 24, 25, 26, 27, 28, 29, 30, 31, 32] (.seq .reg (.cond (.seq .reg .leaf) .leaf)) (.seq (.seq .reg (.block (.loop [(5, .p (.int .i64))] [4, 5, 6, 7, 8, 9, 10, 33, 34, 35, 36, 37, 38, 39, 40, 41, 42, 43, 44, 45, 46, 47, 48, 49, 50, 51, 52, 53, 54, 55, 56, 57, 58, 59, 60, 61, 62, 63, 64, 65, 66, 67, 68, 69, 70, 71, 72, 73, 74, 75, 76, 77, 78, 79, 80, 81, 82, 83, 84, 85, 86, 87, 88, 89, 90, 91, 92, 93, 94, 95, 96, 97, 98, 99, 100, 101, 102, 103, 104, 105, 106, 107, 108, 109, 110, 111, 112, 113, 114, 115, 116, 117, 118, 119, 120, 121, 122, 123, 124, 125, 126, 127, 128, 129, 130, 131, 132, 133, 134, 135, 136, 137] (.seq (.seq .reg (.cond .leaf .leaf)) (.seq (.block (.seq .reg (.seq .reg (.cut [] [4, 51, 52, 53, 54, 55, 56, 57, 58, 59, 60, 61, 62, 63, 64, 65, 66, 67, 68, 69, 70, 71, 72, 73] (.seq .reg (.cond (.seq .reg .leaf) .leaf)) (.cut [(8, .p .bool)] [8, 74, 75, 76, 77, 78, 79, 80, 81] .reg (.cut [] [4, 82, 83, 84, 85, 86, 87, 88, 89, 90, 91, 92, 93, 94, 95, 96, 97, 98, 99, 100] (.seq .reg (.cond (.seq .reg .leaf) .leaf)) (.seq (.seq .reg (.cond .leaf .leaf)) (.seq .reg (.seq .reg (.cut [(137, .p .bool)] [115, 116, 117, 118, 119, 120, 121, 122, 123, 124, 125, 126, 127, 128, 129, 130, 131, 132, 133, 134, 135, 136, 137] .reg (.cond (.seq .reg .leaf) .leaf))))))))))) .reg))))) (.seq .reg .leaf))))
def F_ref19_Valid (bits s_0 : Int) (s_1_a : OA) (s_1_l s_1_c : Nat) (w : World) (R : Value → WP) : Prop :=
 (kAlloc w #[(Iv s_0), (.slice s_1_a s_1_l s_1_c)] Ty_api_Status fun b w1 =>
 (∃ J : WP,
 (∀ (_ : Env)  (w3 : World), J w3 →
 (∃ I : Int → Nat × (WP), (I (0 : Int)).2 w3 ∧
 (∀ (_ : Env) (i : Int) (w4 : World), (I i).2 w4 →
 (kLdS w4 ⟨b, 1, none⟩ fun _ x_l1 _ =>
 (bsplit (decide (i < (x_l1 : Int)))
 ((kLdS w4 ⟨b, 1, none⟩ fun x_a2 x_l2 _ =>
 (kIx x_a2 x_l2 i fun b1 =>
 (∃ x_0 x_1 x_2 : Int, cellsAt w4 (b1.add (i.toNat * 3)) 0 [(Iv x_0), (Iv x_1), (Iv x_2)] ∧
 (kAlloc w4 #[Iv (0 : Int), Iv (0 : Int), Iv (0 : Int)] Ty_api_Range fun b2 w5 =>
 (sxStore w5 ⟨b2, 0, none⟩ 0 [(Iv x_0), (Iv x_1), (Iv x_2)] fun w6 =>
 (kLd w6 ⟨b2, 0, none⟩ .i64 fun x4 =>
 (kLd w6 ⟨b, 0, none⟩ .i64 fun x5 =>
 (CP N_ref02_Distance #[(Iv bits), (Iv x4), (Iv x5)] w6 fun e_1 w7 =>
 ∃ r1 : Int, e_1 = .returned (Iv r1) ∧
 (∃ J1 : WP,
 (∀ (_ : Env)  (w8 : World), J1 w8 →
 (∃ J2 : Bool → WP,
 (∀ (_ : Env) (whole1 : Bool) (w9 : World), J2 whole1 w9 →
 (∃ J3 : WP,
 (∀ (_ : Env)  (w10 : World), J3 w10 →
 (bsplit (decide (i = (0 : Int)))
 ((kW .i64 (i + (1 : Int)) fun x19 =>
 ((I x19).2 w10 ∧ (I x19).1 < (I i).1)))
 ((kLdS w10 ⟨b, 1, none⟩ fun x_a3 x_l3 _ =>
 (kW .i64 (i - (1 : Int)) fun x20 =>
 (kIx x_a3 x_l3 x20 fun b3 =>
 (∃ x_01 x_11 x_21 : Int, cellsAt w10 (b3.add (x20.toNat * 3)) 0 [(Iv x_01), (Iv x_11), (Iv x_21)] ∧
 (kAlloc w10 #[Iv (0 : Int), Iv (0 : Int), Iv (0 : Int)] Ty_api_Range fun b4 w11 =>
 (sxStore w11 ⟨b4, 0, none⟩ 0 [(Iv x_01), (Iv x_11), (Iv x_21)] fun w12 =>
 (kLd w12 ⟨b4, 0, none⟩ .i64 fun x21 =>
 (kLd w12 ⟨b, 0, none⟩ .i64 fun x22 =>
 (CP N_ref02_Distance #[(Iv bits), (Iv x21), (Iv x22)] w12 fun e_2 w13 =>
 ∃ r2 : Int, e_2 = .returned (Iv r2) ∧
 (∃ J4 : Bool → WP,
 (∀ (_ : Env) (x26 : Bool) (w14 : World), J4 x26 w14 →
 (bsplit x26
 (R (.bool false) w14)
 ((kW .i64 (i + (1 : Int)) fun x27 =>
 ((I x27).2 w14 ∧ (I x27).1 < (I i).1))))) ∧
 (bsplit (decide (r2 < r1))
 (J4 true w13)
 ((bsplit (decide (r2 = r1))
 ((bsplit whole1
 (J4 true w13)
 ((kLd w13 ⟨b4, 2, none⟩ .i64 fun x23 =>
 (bsplit (decide (x23 = (0 : Int)))
 (J4 true w13)
 ((kLd w13 ⟨b2, 1, none⟩ .i64 fun x24 =>
 (kLd w13 ⟨b4, 2, none⟩ .i64 fun x25 =>
 J4 (decide (x24 ≤ x25)) w13))))))))
 (J4 false w13))))))))))))))))) ∧
 (bsplit (!whole1)
 ((kLd w9 ⟨b2, 1, none⟩ .i64 fun x15 =>
 (bsplit (decide (x15 < (0 : Int)))
 (R (.bool false) w9)
 ((kLd w9 ⟨b2, 1, none⟩ .i64 fun x16 =>
 (kLd w9 ⟨b2, 2, none⟩ .i64 fun x17 =>
 (bsplit (decide (x16 ≥ x17))
 (R (.bool false) w9)
 ((kLd w9 ⟨b2, 2, none⟩ .i64 fun x18 =>
 (bsplit (decide (x18 > (65535 : Int)))
 (R (.bool false) w9)
 (J3 w9)))))))))))
 (J3 w9)))) ∧
 (kLd w8 ⟨b2, 1, none⟩ .i64 fun x13 =>
 (bsplit (decide (x13 = (0 : Int)))
 ((kLd w8 ⟨b2, 2, none⟩ .i64 fun x14 =>
 (kLet (decide (x14 = (0 : Int))) fun whole =>
 J2 whole w8)))
 (J2 false w8))))) ∧
 (kLd w7 ⟨b2, 0, none⟩ .i64 fun x6 =>
 (bsplit (decide (x6 < (0 : Int)))
 (R (.bool false) w7)
 ((kLd w7 ⟨b2, 0, none⟩ .i64 fun x7 =>
 (kW .u64 (bits) fun x8 =>
 (0 ≤ x8 ∧ (kW .i64 ((1 : Int) * 2 ^ (min x8.toNat (IntKind.bits .i64))) fun x9 =>
 (bsplit (decide (x7 ≥ x9))
 (R (.bool false) w7)
 ((bsplit (decide (r1 < (1 : Int)))
 (R (.bool false) w7)
 ((kW .i64 (bits - (1 : Int)) fun x10 =>
 (kW .u64 (x10) fun x11 =>
 (0 ≤ x11 ∧ (kW .i64 ((1 : Int) * 2 ^ (min x11.toNat (IntKind.bits .i64))) fun x12 =>
 (bsplit (decide (r1 > x12))
 (R (.bool false) w7)
 (J1 w7)))))))))))))))))))))))))))
 (R (.bool true) w4)))))) ∧
 (CP N_ref15_Bits #[(Iv bits)] w1 fun e_ w2 =>
 ∃ r : Bool, e_ = .returned (.bool r) ∧
 (bsplit (!r)
 (R (.bool false) w2)
 ((kLd w2 ⟨b, 0, none⟩ .i64 fun x =>
 (bsplit (decide (x < (0 : Int)))
 (R (.bool false) w2)
 ((kLd w2 ⟨b, 0, none⟩ .i64 fun x1 =>
 (kW .u64 (bits) fun x2 =>
 (0 ≤ x2 ∧ (kW .i64 ((1 : Int) * 2 ^ (min x2.toNat (IntKind.bits .i64))) fun x3 =>
 (bsplit (decide (x1 ≥ x3))
 (R (.bool false) w2)
 ((kLdS w2 ⟨b, 1, none⟩ fun _ x_l _ =>
 (bsplit (decide ((x_l : Int) > (64 : Int)))
 (R (.bool false) w2)
 (J w2)))))))))))))))))
theorem F_ref19_Valid_eq (bits s_0 : Int) (s_1_a : Option Addr) (s_1_l s_1_c : Nat) (w : World) (R : Value → World → Prop) : sxFn Tryz.prog TT h_ref19_Valid Tryz.f92 #[(.int .i64 bits), (.agg #[.int .i64 s_0, .slice s_1_a s_1_l s_1_c])] w R = F_ref19_Valid bits s_0 s_1_a s_1_l s_1_c w R := by kernel_rfl
theorem F_ref19_Valid_ok {R : Ending → World → Prop} (bits s_0 : Int) (s_1_a : Option Addr) (s_1_l s_1_c : Nat) (w : World) (h : F_ref19_Valid bits s_0 s_1_a s_1_l s_1_c w fun v w' => R (.returned v) w') : Calls Tryz.prog N_ref19_Valid #[(.int .i64 bits), (.agg #[.int .i64 s_0, .slice s_1_a s_1_l s_1_c])] w R :=
 calls_of (f := 92) follows_ok Tryz.func92 (Eq.mpr (F_ref19_Valid_eq bits s_0 s_1_a s_1_l s_1_c w _) h)

def h_ref19_size : H := (.seq .reg (.seq (.seq .reg (.cond (.seq .reg .leaf) .leaf)) (.seq .reg .leaf)))
def F_ref19_size (x_0 x_1 x_2 : Int) (w : World) (R : Value → WP) : Prop :=
 (kAlloc w #[(Iv x_0), (Iv x_1), (Iv x_2)] Ty_api_Range fun b w1 =>
 (kLd w1 ⟨b, 1, none⟩ .i64 fun x =>
 (bsplit (decide (x = (0 : Int)))
 ((kLd w1 ⟨b, 2, none⟩ .i64 fun x1 =>
 (bsplit (decide (x1 = (0 : Int)))
 (R (Iv (2 : Int)) w1)
 (R (Iv (6 : Int)) w1))))
 (R (Iv (6 : Int)) w1))))
theorem F_ref19_size_eq (x_0 x_1 x_2 : Int) (w : World) (R : Value → World → Prop) : sxFn Tryz.prog TT h_ref19_size Tryz.f93 #[(.agg #[.int .i64 x_0, .int .i64 x_1, .int .i64 x_2])] w R = F_ref19_size x_0 x_1 x_2 w R := by kernel_rfl
theorem F_ref19_size_ok {R : Ending → World → Prop} (x_0 x_1 x_2 : Int) (w : World) (h : F_ref19_size x_0 x_1 x_2 w fun v w' => R (.returned v) w') : Calls Tryz.prog N_ref19_size #[(.agg #[.int .i64 x_0, .int .i64 x_1, .int .i64 x_2])] w R :=
 calls_of (f := 93) follows_ok Tryz.func93 (Eq.mpr (F_ref19_size_eq x_0 x_1 x_2 w _) h)

def h_ref20_Place : H := (.seq .reg (.seq .reg .leaf))
def F_ref20_Place (bits first sn : Int) (w : World) (R : Value → WP) : Prop :=
 (CP N_ref02_Distance #[(Iv bits), (Iv first), (Iv sn)] w fun e_ w1 =>
 ∃ r : Int, e_ = .returned (Iv r) ∧
 R (Iv r) w1)
theorem F_ref20_Place_eq (bits first sn : Int) (w : World) (R : Value → World → Prop) : sxFn Tryz.prog TT h_ref20_Place Tryz.f94 #[(.int .i64 bits), (.int .i64 first), (.int .i64 sn)] w R = F_ref20_Place bits first sn w R := by kernel_rfl
theorem F_ref20_Place_ok {R : Ending → World → Prop} (bits first sn : Int) (w : World) (h : F_ref20_Place bits first sn w fun v w' => R (.returned v) w') : Calls Tryz.prog N_ref20_Place #[(.int .i64 bits), (.int .i64 first), (.int .i64 sn)] w R :=
 calls_of (f := 94) follows_ok Tryz.func94 (Eq.mpr (F_ref20_Place_eq bits first sn w _) h)

def h_ref18_Normal : H := (.seq .reg (.seq (.seq .reg (.block (.loop [(3, .p (.int .i64))] [2, 3, 4, 5, 6, 7, 8, 9, 10, 11, 12, 13, 14, 15, 16, 17, 18, 19, 20, 21, 22, 23, 24, 25, 26, 27, 28, 29, 30, 31, 32, 33, 34, 35, 36, 37, 38, 39, 40, 41, 42, 43, 44, 45, 46] (.seq (.seq .reg (.cond .leaf .leaf)) (.seq (.block (.seq (.draw .no (.one 0 .stable (.one 1 .stable (.one 2 .stable (.one 3 .stable (.one 4 .stable (.one 5 .stable (.one 6 .stable (.one 7 .stable (.one 8 .stable (.one 9 .stable (.one 10 .stable (.one 11 .stable (.one 12 .stable (.one 13 .stable (.one 14 .stable (.one 15 .stable (.one 16 .stable (.one 17 .stable (.one 18 .stable (.one 19 .stable (.one 20 .stable (.one 21 .stable (.one 22 .stable (.one 23 .stable (.one 24 .stable (.one 25 .stable (.one 26 .stable (.one 27 .stable (.one 28 .stable (.one 29 .stable (.one 30 .stable (.one 31 .stable (.one 32 .stable (.one 33 .stable (.one 34 .stable (.one 35 .stable (.one 36 .stable .nil)))))))))))))))))))))))))))))))))))))) (.cond (.seq .reg .leaf) .leaf))) .reg))))) (.seq .reg .leaf)))
def F_ref18_Normal (l_a : OA) (l_l _ : Nat) (w : World) (R : Value → WP) : Prop :=
 (∃ I : Int → Nat × (WP), (I (0 : Int)).2 w ∧
 (∀ (_ : Env) (i : Int) (w1 : World), (I i).2 w1 →
 (bsplit (decide (i < (l_l : Int)))
 ((kDrew w1 fun w2 =>
 (kIx l_a l_l i fun b =>
 (kLd w2 ((b.add (i.toNat * 3)).add 1) .i64 fun x =>
 (bsplit (decide (x < (0 : Int)))
 (R (.bool false) w2)
 ((kIx l_a l_l i fun b1 =>
 (kLd w2 ((b1.add (i.toNat * 3)).add 1) .i64 fun x2 =>
 (kIx l_a l_l i fun b2 =>
 (kLd w2 ((b2.add (i.toNat * 3)).add 2) .i64 fun x3 =>
 (bsplit (decide (x2 ≥ x3))
 (R (.bool false) w2)
 ((bsplit (decide (i > (0 : Int)))
 ((kIx l_a l_l i fun b3 =>
 (kLd w2 ((b3.add (i.toNat * 3)).add 1) .i64 fun x5 =>
 (kW .i64 (i - (1 : Int)) fun x6 =>
 (kIx l_a l_l x6 fun b4 =>
 (kLd w2 ((b4.add (x6.toNat * 3)).add 2) .i64 fun x7 =>
 (bsplit (decide (x5 ≤ x7))
 (R (.bool false) w2)
 ((kW .i64 (i + (1 : Int)) fun x8 =>
 ((I x8).2 w2 ∧ (I x8).1 < (I i).1))))))))))
 ((kW .i64 (i + (1 : Int)) fun x9 =>
 ((I x9).2 w2 ∧ (I x9).1 < (I i).1))))))))))))))))
 (R (.bool true) w1))))
theorem F_ref18_Normal_eq (l_a : Option Addr) (l_l l_c : Nat) (w : World) (R : Value → World → Prop) : sxFn Tryz.prog TT h_ref18_Normal Tryz.f95 #[(.slice l_a l_l l_c)] w R = F_ref18_Normal l_a l_l l_c w R := by kernel_rfl
theorem F_ref18_Normal_ok {R : Ending → World → Prop} (l_a : Option Addr) (l_l l_c : Nat) (w : World) (h : F_ref18_Normal l_a l_l l_c w fun v w' => R (.returned v) w') : Calls Tryz.prog N_ref18_Normal #[(.slice l_a l_l l_c)] w R :=
 calls_of (f := 95) follows_ok Tryz.func95 (Eq.mpr (F_ref18_Normal_eq l_a l_l l_c w _) h)

def h_slices_IndexFunc_Sapi_Partial_api_Partial : H := (.seq .reg (.seq (.seq .reg (.block (.loop [(8, .p (.int .i64))] [4, 5, 8, 9, 10, 11, 12, 13, 14, 15, 16, 17, 18] (.seq .reg (.seq (.cond .leaf .leaf) (.seq (.block (.seq .reg (.seq .reg (.cond (.seq .reg .leaf) .leaf)))) .reg)))))) (.seq .reg .leaf)))
def F_slices_IndexFunc_Sapi_Partial_api_Partial (s_a : OA) (s_l _ f_g : Nat) (f_f : Array Value) (f_c : Array Value) (w : World) (R : Value → WP) : Prop :=
 (∃ I : Int → Nat × (WP), (I (0 : Int)).2 w ∧
 (∀ (_ : Env) (x : Int) (w1 : World), (I x).2 w1 →
 (bsplit (decide (x < (s_l : Int)))
 ((kIx s_a s_l x fun b =>
 (∃ x_0 : Int, ∃ x_1 : Bool, ∃ x_2 : Int, ∃ x_3_a : OA, ∃ x_3_l x_3_c : Nat, ∃ x_4_a : OA, ∃ x_4_l x_4_c : Nat, cellsAt w1 (b.add (x.toNat * 5)) 0 [(Iv x_0), (.bool x_1), (Iv x_2), (.slice x_3_a x_3_l x_3_c), (.slice x_4_a x_4_l x_4_c)] ∧
 (okFn Tryz.prog f_g = true ∧ CP f_g (f_f ++ #[(.agg #[Iv x_0, .bool x_1, Iv x_2, .slice x_3_a x_3_l x_3_c, .slice x_4_a x_4_l x_4_c])] ++ f_c) w1 fun e_ w2 =>
 ∃ r : Bool, e_ = .returned (.bool r) ∧
 (bsplit r
 (R (Iv x) w2)
 ((kW .i64 (x + (1 : Int)) fun x1 =>
 ((I x1).2 w2 ∧ (I x1).1 < (I x).1))))))))
 (R (Iv (-1 : Int)) w1))))
theorem F_slices_IndexFunc_Sapi_Partial_api_Partial_eq (s_a : Option Addr) (s_l s_c f_g : Nat) (f_f : Array Value) (f_c : Array Value) (w : World) (R : Value → World → Prop) : sxFn Tryz.prog TT h_slices_IndexFunc_Sapi_Partial_api_Partial Tryz.f96 #[(.slice s_a s_l s_c), (.func (.func f_g) f_f f_c)] w R = F_slices_IndexFunc_Sapi_Partial_api_Partial s_a s_l s_c f_g f_f f_c w R := by kernel_rfl
theorem F_slices_IndexFunc_Sapi_Partial_api_Partial_ok {R : Ending → World → Prop} (s_a : Option Addr) (s_l s_c f_g : Nat) (f_f : Array Value) (f_c : Array Value) (w : World) (h : F_slices_IndexFunc_Sapi_Partial_api_Partial s_a s_l s_c f_g f_f f_c w fun v w' => R (.returned v) w') : Calls Tryz.prog N_slices_IndexFunc_Sapi_Partial_api_Partial #[(.slice s_a s_l s_c), (.func (.func f_g) f_f f_c)] w R :=
 calls_of (f := 96) follows_ok Tryz.func96 (Eq.mpr (F_slices_IndexFunc_Sapi_Partial_api_Partial_eq s_a s_l s_c f_g f_f f_c w _) h)

def h_receiver_side_missing_1 : H := (.seq .reg (.seq .reg .leaf))
def F_receiver_side_missing_1 (p_0 : Int) (p_1 : Bool) (p_2 : Int) (p_3_a : OA) (p_3_l p_3_c : Nat) (p_4_a : OA) (p_4_l p_4_c cap0_b cap0_o : Nat) (w : World) (R : Value → WP) : Prop :=
 (kAlloc w #[(Iv p_0), (.bool p_1), (Iv p_2), (.slice p_3_a p_3_l p_3_c), (.slice p_4_a p_4_l p_4_c)] Ty_api_Partial fun b w1 =>
 (kLd w1 ⟨b, 0, none⟩ .i64 fun x =>
 (kLd w1 ⟨cap0_b, cap0_o, none⟩ .i64 fun x1 =>
 (kLet (decide (x = x1)) fun x2 =>
 R (.bool x2) w1))))
theorem F_receiver_side_missing_1_eq (p_0 : Int) (p_1 : Bool) (p_2 : Int) (p_3_a : Option Addr) (p_3_l p_3_c : Nat) (p_4_a : Option Addr) (p_4_l p_4_c cap0_b cap0_o : Nat) (w : World) (R : Value → World → Prop) : sxFn Tryz.prog TT h_receiver_side_missing_1 Tryz.f97 #[(.agg #[.int .i64 p_0, .bool p_1, .int .i64 p_2, .slice p_3_a p_3_l p_3_c, .slice p_4_a p_4_l p_4_c]), (.pointer (some ⟨cap0_b, cap0_o, none⟩))] w R = F_receiver_side_missing_1 p_0 p_1 p_2 p_3_a p_3_l p_3_c p_4_a p_4_l p_4_c cap0_b cap0_o w R := by kernel_rfl
theorem F_receiver_side_missing_1_ok {R : Ending → World → Prop} (p_0 : Int) (p_1 : Bool) (p_2 : Int) (p_3_a : Option Addr) (p_3_l p_3_c : Nat) (p_4_a : Option Addr) (p_4_l p_4_c cap0_b cap0_o : Nat) (w : World) (h : F_receiver_side_missing_1 p_0 p_1 p_2 p_3_a p_3_l p_3_c p_4_a p_4_l p_4_c cap0_b cap0_o w fun v w' => R (.returned v) w') : Calls Tryz.prog N_receiver_side_missing_1 #[(.agg #[.int .i64 p_0, .bool p_1, .int .i64 p_2, .slice p_3_a p_3_l p_3_c, .slice p_4_a p_4_l p_4_c]), (.pointer (some ⟨cap0_b, cap0_o, none⟩))] w R :=
 calls_of (f := 97) follows_ok Tryz.func97 (Eq.mpr (F_receiver_side_missing_1_eq p_0 p_1 p_2 p_3_a p_3_l p_3_c p_4_a p_4_l p_4_c cap0_b cap0_o w _) h)

def h_segment_Gaps : H := (.seq .reg (.seq (.seq .reg (.cond (.seq .reg .leaf) .leaf)) (.cut [] [6, 7, 8, 16, 17, 18, 19, 20, 21, 22, 23, 24, 25, 26, 27, 28, 29, 30, 31, 32, 33] (.seq .reg (.seq .reg (.cond (.seq .reg .leaf) .leaf))) (.seq .reg (.seq .reg (.seq (.seq .reg (.block (.loop [(9, .p .slice), (10, .p (.int .i64)), (42, .p (.int .i64))] [9, 10, 12, 42, 43, 44, 45, 46, 47, 48, 49, 50, 51, 52, 53, 54, 55, 56, 57, 58, 59, 60] (.seq .reg (.seq (.cond .leaf .leaf) (.seq (.block (.seq .reg (.seq (.seq .reg (.cond .reg .leaf)) .reg))) .reg)))))) (.seq .reg .leaf)))))))
def F_segment_Gaps (l_a : OA) (l_l l_c : Nat) (sn length : Int) (w : World) (R : Value → WP) : Prop :=
 (CP N_segment_Normal #[(.slice l_a l_l l_c)] w fun e_ w1 =>
 ∃ r : Bool, e_ = .returned (.bool r) ∧
 (bsplit (!r)
 (R (.tuple #[(.slice none 0 0), (Iv (4 : Int))]) w1)
 ((∃ J : WP,
 (∀ (_ : Env)  (w2 : World), J w2 →
 (CP N_slices_Clone_Sapi_Range_api_Range #[(.slice l_a l_l l_c)] w2 fun e_1 w3 =>
 ∃ r_a : OA, ∃ r_l r_c : Nat, e_1 = .returned (.slice r_a r_l r_c) ∧
 (kAlloc w3 #[(Iv (0 : Int)), (Iv length), (Iv length)] Ty_api_Range fun b1 w4 =>
 (AppP Tryz.prog #[Ty_S_api_Range, Ty_S_api_Range] Ty_S_api_Range #[(.slice r_a r_l r_c), (.slice (some ⟨b1, 0, none⟩) 1 1)] w4 fun x_a x_l _ w5 =>
 (∃ I : OA → Nat → Nat → Int → Int → Nat × (WP), (I none 0 0 (0 : Int) (0 : Int)).2 w5 ∧
 (∀ (_ : Env) (out_a : OA) (out_l : Nat) (out_c : Nat) (at1 : Int) (x2 : Int) (w6 : World), (I out_a out_l out_c at1 x2).2 w6 →
 (bsplit (decide (x2 < (x_l : Int)))
 ((kIx x_a x_l x2 fun b2 =>
 (∃ x_0 x_1 x_2 : Int, cellsAt w6 (b2.add (x2.toNat * 3)) 0 [(Iv x_0), (Iv x_1), (Iv x_2)] ∧
 (kAlloc w6 #[Iv (0 : Int), Iv (0 : Int), Iv (0 : Int)] Ty_api_Range fun b3 w7 =>
 (sxStore w7 ⟨b3, 0, none⟩ 0 [(Iv x_0), (Iv x_1), (Iv x_2)] fun w8 =>
 (kLd w8 ⟨b3, 1, none⟩ .i64 fun x3 =>
 (bsplit (decide (x3 > at1))
 ((kLd w8 ⟨b3, 1, none⟩ .i64 fun x4 =>
 (kAlloc w8 #[(Iv sn), (Iv at1), (Iv x4)] Ty_api_Range fun b4 w9 =>
 (AppP Tryz.prog #[Ty_S_api_Range, Ty_S_api_Range] Ty_S_api_Range #[(.slice out_a out_l out_c), (.slice (some ⟨b4, 0, none⟩) 1 1)] w9 fun x_a1 x_l1 x_c1 w10 =>
 (kLd w10 ⟨b3, 2, none⟩ .i64 fun x5 =>
 (kW .i64 (x2 + (1 : Int)) fun x6 =>
 ((I x_a1 x_l1 x_c1 x5 x6).2 w10 ∧ (I x_a1 x_l1 x_c1 x5 x6).1 < (I out_a out_l out_c at1 x2).1)))))))
 ((kLd w8 ⟨b3, 2, none⟩ .i64 fun x7 =>
 (kW .i64 (x2 + (1 : Int)) fun x8 =>
 ((I out_a out_l out_c x7 x8).2 w8 ∧ (I out_a out_l out_c x7 x8).1 < (I out_a out_l out_c at1 x2).1)))))))))))
 (R (.tuple #[(.slice out_a out_l out_c), (Iv (0 : Int))]) w6)))))))) ∧
 (bsplit (decide (length < (0 : Int)))
 (R (.tuple #[(.slice none 0 0), (Iv (3 : Int))]) w1)
 ((bsplit (decide ((l_l : Int) > (0 : Int)))
 ((kW .i64 ((l_l : Int) - (1 : Int)) fun x =>
 (kIx l_a l_l x fun b =>
 (kLd w1 ((b.add (x.toNat * 3)).add 2) .i64 fun x1 =>
 (bsplit (decide (length < x1))
 (R (.tuple #[(.slice none 0 0), (Iv (3 : Int))]) w1)
 (J w1))))))
 (J w1))))))))
theorem F_segment_Gaps_eq (l_a : Option Addr) (l_l l_c : Nat) (sn length : Int) (w : World) (R : Value → World → Prop) : sxFn Tryz.prog TT h_segment_Gaps Tryz.f98 #[(.slice l_a l_l l_c), (.int .i64 sn), (.int .i64 length)] w R = F_segment_Gaps l_a l_l l_c sn length w R := by kernel_rfl
theorem F_segment_Gaps_ok {R : Ending → World → Prop} (l_a : Option Addr) (l_l l_c : Nat) (sn length : Int) (w : World) (h : F_segment_Gaps l_a l_l l_c sn length w fun v w' => R (.returned v) w') : Calls Tryz.prog N_segment_Gaps #[(.slice l_a l_l l_c), (.int .i64 sn), (.int .i64 length)] w R :=
 calls_of (f := 98) follows_ok Tryz.func98 (Eq.mpr (F_segment_Gaps_eq l_a l_l l_c sn length w _) h)

def h_receiver_partial : H := (.seq .reg (.seq (.seq .reg (.cond (.seq .reg .leaf) .leaf)) (.cut [] [2, 25, 26, 27, 28, 29, 30, 31, 32, 33, 34, 35, 36, 37, 38, 39, 40, 41, 42, 43, 44, 45] (.seq .reg (.cond (.seq .reg .leaf) .leaf)) (.seq .reg (.seq (.cut [(81, .p .bool)] [47, 48, 49, 50, 51, 52, 53, 54, 55, 56, 57, 58, 59, 60, 61, 62, 63, 64, 65, 66, 67, 68, 69, 70, 71, 72, 73, 74, 75, 76, 77, 78, 79, 80, 81] (.draw .blk (.one 0 .pre (.one 1 .pre (.one 2 .pre (.one 3 .pre (.one 4 .pre (.one 5 .pre (.one 6 .pre (.one 7 .keep (.one 8 .stable (.one 9 .stable (.one 10 .stable (.one 11 .stable (.one 12 .stable (.one 13 .stable (.one 14 .keep (.one 15 .stable (.one 16 .stable (.one 17 .stable (.one 18 .stable (.one 19 .stable (.one 20 .stable (.one 21 .stable (.one 22 .keep (.one 23 .stable (.one 24 .stable (.one 25 .stable (.one 26 .stable (.one 27 .stable (.one 28 .stable (.one 29 .stable (.one 30 .stable (.one 31 .stable (.one 32 .stable (.one 33 .keep (.one 34 .stable .nil)))))))))))))))))))))))))))))))))))) (.cond (.seq .reg .leaf) .leaf)) (.seq .reg (.seq (.seq .reg (.block (.loop [(95, .p (.int .i64))] [2, 7, 95, 96, 97, 98, 99, 100, 101, 102, 103, 104, 105, 106, 107] (.seq .reg (.seq (.cond .leaf .leaf) (.seq (.block (.seq .reg (.seq .reg (.cond (.seq .reg .leaf) .leaf)))) .reg)))))) (.seq .reg .leaf))))))))
def F_receiver_partial (p_0 : Int) (p_1 : Bool) (p_2 : Int) (p_3_a : OA) (p_3_l p_3_c : Nat) (p_4_a : OA) (p_4_l p_4_c : Nat) (w : World) (R : Value → WP) : Prop :=
 (kAlloc w #[(Iv p_0), (.bool p_1), (Iv p_2), (.slice p_3_a p_3_l p_3_c), (.slice p_4_a p_4_l p_4_c)] Ty_api_Partial fun b w1 =>
 (kLdB w1 ⟨b, 1, none⟩ fun x =>
 (bsplit x
 ((kLd w1 ⟨b, 2, none⟩ .i64 fun x1 =>
 (bsplit (decide (x1 = (0 : Int)))
 ((kLdS w1 ⟨b, 3, none⟩ fun _ x_l _ =>
 (bsplit (decide ((x_l : Int) = (0 : Int)))
 ((kLdS w1 ⟨b, 4, none⟩ fun _ x_l1 _ =>
 (kLet (decide ((x_l1 : Int) = (0 : Int))) fun x2 =>
 R (.bool x2) w1)))
 (R (.bool false) w1))))
 (R (.bool false) w1))))
 ((∃ J : WP,
 (∀ (_ : Env)  (w2 : World), J w2 →
 (∃ J1 : Bool → WP,
 (∀ (_ : Env) (x7 : Bool) (w8 : World), J1 x7 w8 →
 (bsplit x7
 (R (.bool false) w8)
 ((kLdS w8 ⟨b, 4, none⟩ fun x_a9 x_l9 x_c9 =>
 (kLd w8 ⟨b, 0, none⟩ .i64 fun x8 =>
 (kLdS w8 ⟨b, 3, none⟩ fun _ x_l10 _ =>
 (CP N_segment_Gaps #[(.slice x_a9 x_l9 x_c9), (Iv x8), (Iv (x_l10 : Int))] w8 fun e_4 w9 =>
 ∃ r_a : OA, ∃ r_l r_c : Nat, ∃ r4 : Int, e_4 = .returned (.tuple #[(.slice r_a r_l r_c), (Iv r4)]) ∧
 (∃ I : Int → Nat × (WP), (I (0 : Int)).2 w9 ∧
 (∀ (_ : Env) (x9 : Int) (w10 : World), (I x9).2 w10 →
 (bsplit (decide (x9 < (r_l : Int)))
 ((kIx r_a r_l x9 fun b1 =>
 (∃ x_01 x_11 x_21 : Int, cellsAt w10 (b1.add (x9.toNat * 3)) 0 [(Iv x_01), (Iv x_11), (Iv x_21)] ∧
 (kAlloc w10 #[Iv (0 : Int), Iv (0 : Int), Iv (0 : Int)] Ty_api_Range fun b2 w11 =>
 (sxStore w11 ⟨b2, 0, none⟩ 0 [(Iv x_01), (Iv x_11), (Iv x_21)] fun w12 =>
 (kLdS w12 ⟨b, 3, none⟩ fun x_a11 _ x_c11 =>
 (kLd w12 ⟨b2, 1, none⟩ .i64 fun x10 =>
 (kLd w12 ⟨b2, 2, none⟩ .i64 fun x11 =>
 ((0 ≤ x11 ∧ x11 ≤ ((x_c11 : Nat) : Int)) ∧ ((0 ≤ x10 ∧ x10 ≤ ((x11.toNat : Nat) : Int)) ∧ (CP N_slices_ContainsFunc_Sbyte_byte #[(.slice (slAddr x_c11 (x10.toNat) 1 x_a11) (x11.toNat - x10.toNat) (x_c11 - x10.toNat)), (.func (.func N_receiver_partial_2) #[] #[])] w12 fun e_5 w13 =>
 ∃ r5 : Bool, e_5 = .returned (.bool r5) ∧
 (bsplit r5
 (R (.bool false) w13)
 ((kW .i64 (x9 + (1 : Int)) fun x12 =>
 ((I x12).2 w13 ∧ (I x12).1 < (I x9).1)))))))))))))))
 (R (.bool true) w10))))))))))) ∧
 (kDrew w2 fun w3 =>
 (∃ S : Nat → Prop,
 (kLdS w3 ⟨b, 4, none⟩ fun _ x_l3 _ =>
 (bsplit (decide ((x_l3 : Int) = (0 : Int)))
 (J1 true w3)
 ((kLdS w3 ⟨b, 4, none⟩ fun x_a4 x_l4 x_c4 =>
 (CP N_segment_Normal #[(.slice x_a4 x_l4 x_c4)] w3 fun e_ w4 =>
 ∃ r : Bool, e_ = .returned (.bool r) ∧
 (KeepsB S w3 w4 ∧ (bsplit (!r)
 (J1 true w4)
 ((S b ∧
 (kLdS w3 ⟨b, 4, none⟩ fun x_a5 x_l5 x_c5 =>
 (CP N_slices_ContainsFunc_Sapi_Range_api_Range #[(.slice x_a5 x_l5 x_c5), (.func (.func N_receiver_partial_1) #[] #[(.pointer (some ⟨b, 0, none⟩))])] w4 fun e_1 w5 =>
 ∃ r1 : Bool, e_1 = .returned (.bool r1) ∧
 (KeepsB S w3 w5 ∧ (bsplit r1
 (J1 true w5)
 ((S b ∧
 (kLdS w3 ⟨b, 3, none⟩ fun _ x_l6 _ =>
 (S b ∧
 (kLdS w3 ⟨b, 4, none⟩ fun x_a7 x_l7 x_c7 =>
 (CP N_receiver_end #[(.slice x_a7 x_l7 x_c7)] w5 fun e_2 w6 =>
 ∃ r2 : Int, e_2 = .returned (Iv r2) ∧
 (KeepsB S w3 w6 ∧ (bsplit (!decide ((x_l6 : Int) = r2))
 (J1 true w6)
 ((S b ∧
 (kLdS w3 ⟨b, 3, none⟩ fun _ x_l8 _ =>
 (bsplit (decide ((x_l8 : Int) > (2054 : Int)))
 (J1 true w6)
 ((S b ∧
 (∃ x_0 : Int, ∃ x_1 : Bool, ∃ x_2 : Int, ∃ x_3_a : OA, ∃ x_3_l x_3_c : Nat, ∃ x_4_a : OA, ∃ x_4_l x_4_c : Nat, cellsAt w3 ⟨b, 0, none⟩ 0 [(Iv x_0), (.bool x_1), (Iv x_2), (.slice x_3_a x_3_l x_3_c), (.slice x_4_a x_4_l x_4_c)] ∧
 (CP N_receiver_complete #[(.agg #[Iv x_0, .bool x_1, Iv x_2, .slice x_3_a x_3_l x_3_c, .slice x_4_a x_4_l x_4_c])] w6 fun e_3 w7 =>
 ∃ r3 : Bool, e_3 = .returned (.bool r3) ∧
 (KeepsB S w3 w7 ∧ J1 r3 w7)))))))))))))))))))))))))))))))))) ∧
 (kLd w1 ⟨b, 2, none⟩ .i64 fun x3 =>
 (bsplit (!decide (x3 = (-1 : Int)))
 ((kLd w1 ⟨b, 2, none⟩ .i64 fun x4 =>
 (bsplit (decide (x4 < (1 : Int)))
 (R (.bool false) w1)
 ((kLd w1 ⟨b, 2, none⟩ .i64 fun x5 =>
 (bsplit (decide (x5 > (2054 : Int)))
 (R (.bool false) w1)
 ((kLdS w1 ⟨b, 3, none⟩ fun _ x_l2 _ =>
 (kLd w1 ⟨b, 2, none⟩ .i64 fun x6 =>
 (bsplit (decide ((x_l2 : Int) > x6))
 (R (.bool false) w1)
 (J w1)))))))))))
 (J w1))))))))
theorem F_receiver_partial_eq (p_0 : Int) (p_1 : Bool) (p_2 : Int) (p_3_a : Option Addr) (p_3_l p_3_c : Nat) (p_4_a : Option Addr) (p_4_l p_4_c : Nat) (w : World) (R : Value → World → Prop) : sxFn Tryz.prog TT h_receiver_partial Tryz.f99 #[(.agg #[.int .i64 p_0, .bool p_1, .int .i64 p_2, .slice p_3_a p_3_l p_3_c, .slice p_4_a p_4_l p_4_c])] w R = F_receiver_partial p_0 p_1 p_2 p_3_a p_3_l p_3_c p_4_a p_4_l p_4_c w R := by kernel_rfl
theorem F_receiver_partial_ok {R : Ending → World → Prop} (p_0 : Int) (p_1 : Bool) (p_2 : Int) (p_3_a : Option Addr) (p_3_l p_3_c : Nat) (p_4_a : Option Addr) (p_4_l p_4_c : Nat) (w : World) (h : F_receiver_partial p_0 p_1 p_2 p_3_a p_3_l p_3_c p_4_a p_4_l p_4_c w fun v w' => R (.returned v) w') : Calls Tryz.prog N_receiver_partial #[(.agg #[.int .i64 p_0, .bool p_1, .int .i64 p_2, .slice p_3_a p_3_l p_3_c, .slice p_4_a p_4_l p_4_c])] w R :=
 calls_of (f := 99) follows_ok Tryz.func99 (Eq.mpr (F_receiver_partial_eq p_0 p_1 p_2 p_3_a p_3_l p_3_c p_4_a p_4_l p_4_c w _) h)

def h_ref21_contradicts : H := (.seq .reg (.seq .reg (.seq (.seq .reg (.cond (.seq .reg .leaf) .leaf)) (.seq .reg .leaf))))
def F_ref21_contradicts (x_0 : Int) (x_1 : Bool) (x_2 : Int) (x_3_a : OA) (x_3_l x_3_c : Nat) (x_4_a : OA) (x_4_l x_4_c : Nat) (p_0 p_1 p_2 p_3 : Int) (p_4_a : OA) (p_4_l p_4_c : Nat) (w : World) (R : Value → WP) : Prop :=
 (kAlloc w #[(Iv x_0), (.bool x_1), (Iv x_2), (.slice x_3_a x_3_l x_3_c), (.slice x_4_a x_4_l x_4_c)] Ty_api_Partial fun b w1 =>
 (kAlloc w1 #[(Iv p_0), (Iv p_1), (Iv p_2), (Iv p_3), (.slice p_4_a p_4_l p_4_c)] Ty_api_Piece fun b1 w2 =>
 (kLd w2 ⟨b1, 3, none⟩ .i64 fun x =>
 (kLdS w2 ⟨b1, 4, none⟩ fun _ x_l _ =>
 (kW .i64 (x + (x_l : Int)) fun x1 =>
 (∃ x_01 x_11 x_21 x_3 : Int, ∃ x_4_a1 : OA, ∃ x_4_l1 x_4_c1 : Nat, cellsAt w2 ⟨b1, 0, none⟩ 0 [(Iv x_01), (Iv x_11), (Iv x_21), (Iv x_3), (.slice x_4_a1 x_4_l1 x_4_c1)] ∧
 (CP N_ref21_ends #[(.agg #[Iv x_01, Iv x_11, Iv x_21, Iv x_3, .slice x_4_a1 x_4_l1 x_4_c1])] w2 fun e_ w3 =>
 ∃ r : Bool, e_ = .returned (.bool r) ∧
 (bsplit r
 ((kLd w3 ⟨b, 2, none⟩ .i64 fun x2 =>
 (bsplit (!decide (x2 = (-1 : Int)))
 ((kLd w3 ⟨b, 2, none⟩ .i64 fun x3 =>
 (bsplit (!decide (x3 = x1))
 (R (.bool true) w3)
 ((kLdS w3 ⟨b, 3, none⟩ fun _ x_l1 _ =>
 (kLet (decide ((x_l1 : Int) > x1)) fun x4 =>
 R (.bool x4) w3))))))
 ((kLdS w3 ⟨b, 3, none⟩ fun _ x_l2 _ =>
 (kLet (decide ((x_l2 : Int) > x1)) fun x5 =>
 R (.bool x5) w3))))))
 ((kLd w3 ⟨b, 2, none⟩ .i64 fun x6 =>
 (bsplit (!decide (x6 = (-1 : Int)))
 ((kLd w3 ⟨b, 2, none⟩ .i64 fun x7 =>
 (kLet (decide (x1 ≥ x7)) fun x8 =>
 R (.bool x8) w3)))
 (R (.bool false) w3))))))))))))
theorem F_ref21_contradicts_eq (x_0 : Int) (x_1 : Bool) (x_2 : Int) (x_3_a : Option Addr) (x_3_l x_3_c : Nat) (x_4_a : Option Addr) (x_4_l x_4_c : Nat) (p_0 p_1 p_2 p_3 : Int) (p_4_a : Option Addr) (p_4_l p_4_c : Nat) (w : World) (R : Value → World → Prop) : sxFn Tryz.prog TT h_ref21_contradicts Tryz.f100 #[(.agg #[.int .i64 x_0, .bool x_1, .int .i64 x_2, .slice x_3_a x_3_l x_3_c, .slice x_4_a x_4_l x_4_c]), (.agg #[.int .i64 p_0, .int .i64 p_1, .int .i64 p_2, .int .i64 p_3, .slice p_4_a p_4_l p_4_c])] w R = F_ref21_contradicts x_0 x_1 x_2 x_3_a x_3_l x_3_c x_4_a x_4_l x_4_c p_0 p_1 p_2 p_3 p_4_a p_4_l p_4_c w R := by kernel_rfl
theorem F_ref21_contradicts_ok {R : Ending → World → Prop} (x_0 : Int) (x_1 : Bool) (x_2 : Int) (x_3_a : Option Addr) (x_3_l x_3_c : Nat) (x_4_a : Option Addr) (x_4_l x_4_c : Nat) (p_0 p_1 p_2 p_3 : Int) (p_4_a : Option Addr) (p_4_l p_4_c : Nat) (w : World) (h : F_ref21_contradicts x_0 x_1 x_2 x_3_a x_3_l x_3_c x_4_a x_4_l x_4_c p_0 p_1 p_2 p_3 p_4_a p_4_l p_4_c w fun v w' => R (.returned v) w') : Calls Tryz.prog N_ref21_contradicts #[(.agg #[.int .i64 x_0, .bool x_1, .int .i64 x_2, .slice x_3_a x_3_l x_3_c, .slice x_4_a x_4_l x_4_c]), (.agg #[.int .i64 p_0, .int .i64 p_1, .int .i64 p_2, .int .i64 p_3, .slice p_4_a p_4_l p_4_c])] w R :=
 calls_of (f := 100) follows_ok Tryz.func100 (Eq.mpr (F_ref21_contradicts_eq x_0 x_1 x_2 x_3_a x_3_l x_3_c x_4_a x_4_l x_4_c p_0 p_1 p_2 p_3 p_4_a p_4_l p_4_c w _) h)

def h_ref21_has : H := (.seq .reg (.seq (.seq .reg (.block (.loop [(5, .p (.int .i64))] [4, 5, 6, 7, 8, 9, 10, 11, 12, 13, 14, 15, 16, 17, 18, 19, 20, 21, 22, 23, 24, 25, 26, 27, 28, 29, 30, 31, 32, 33, 34, 35, 36, 37, 38, 39, 40, 41, 42, 43, 44] (.seq (.seq .reg (.cond .leaf .leaf)) (.seq (.block (.seq (.draw .no (.one 0 .stable (.one 1 .stable (.one 2 .stable (.one 3 .stable (.one 4 .stable (.one 5 .stable (.one 6 .stable (.one 7 .stable (.one 8 .stable (.one 9 .stable (.one 10 .stable (.one 11 .stable (.one 12 .stable (.one 13 .stable (.one 14 .stable (.one 15 .stable (.one 16 .stable (.one 17 .stable (.one 18 .stable (.one 19 .stable (.one 20 .stable (.one 21 .stable (.one 22 .stable (.one 23 .stable .nil))))))))))))))))))))))))) (.cond (.seq .reg .leaf) .leaf))) .reg))))) (.seq .reg .leaf)))
def F_ref21_has (x_0 : Int) (x_1 : Bool) (x_2 : Int) (x_3_a : OA) (x_3_l x_3_c : Nat) (x_4_a : OA) (x_4_l x_4_c : Nat) (p_0 p_1 p_2 p_3 : Int) (p_4_a : OA) (p_4_l p_4_c : Nat) (w : World) (R : Value → WP) : Prop :=
 (kAlloc w #[(Iv x_0), (.bool x_1), (Iv x_2), (.slice x_3_a x_3_l x_3_c), (.slice x_4_a x_4_l x_4_c)] Ty_api_Partial fun b w1 =>
 (kAlloc w1 #[(Iv p_0), (Iv p_1), (Iv p_2), (Iv p_3), (.slice p_4_a p_4_l p_4_c)] Ty_api_Piece fun b1 w2 =>
 (∃ I : Int → Nat × (WP), (I (0 : Int)).2 w2 ∧
 (∀ (_ : Env) (i : Int) (w3 : World), (I i).2 w3 →
 (kLdS w3 ⟨b, 4, none⟩ fun _ x_l _ =>
 (bsplit (decide (i < (x_l : Int)))
 ((kDrew w3 fun w4 =>
 (kLdS w4 ⟨b, 4, none⟩ fun x_a1 x_l1 _ =>
 (kIx x_a1 x_l1 i fun b2 =>
 (kLd w4 ((b2.add (i.toNat * 3)).add 1) .i64 fun x =>
 (kLd w4 ⟨b1, 3, none⟩ .i64 fun x1 =>
 (bsplit (decide (x ≤ x1))
 ((kLdS w4 ⟨b, 4, none⟩ fun x_a2 x_l2 _ =>
 (kIx x_a2 x_l2 i fun b3 =>
 (kLd w4 ((b3.add (i.toNat * 3)).add 2) .i64 fun x2 =>
 (kLd w4 ⟨b1, 3, none⟩ .i64 fun x3 =>
 (kLdS w4 ⟨b1, 4, none⟩ fun _ x_l3 _ =>
 (kW .i64 (x3 + (x_l3 : Int)) fun x4 =>
 (bsplit (decide (x2 ≥ x4))
 ((kLd w4 ⟨b, 2, none⟩ .i64 fun x5 =>
 (bsplit (!decide (x5 = (-1 : Int)))
 (R (.bool true) w4)
 ((∃ x_01 x_11 x_21 x_3 : Int, ∃ x_4_a1 : OA, ∃ x_4_l1 x_4_c1 : Nat, cellsAt w4 ⟨b1, 0, none⟩ 0 [(Iv x_01), (Iv x_11), (Iv x_21), (Iv x_3), (.slice x_4_a1 x_4_l1 x_4_c1)] ∧
 (CP N_ref21_ends #[(.agg #[Iv x_01, Iv x_11, Iv x_21, Iv x_3, .slice x_4_a1 x_4_l1 x_4_c1])] w4 fun e_ w5 =>
 ∃ r : Bool, e_ = .returned (.bool r) ∧
 R (.bool (!r)) w5))))))
 ((kW .i64 (i + (1 : Int)) fun x6 =>
 ((I x6).2 w4 ∧ (I x6).1 < (I i).1)))))))))))
 ((kW .i64 (i + (1 : Int)) fun x8 =>
 ((I x8).2 w4 ∧ (I x8).1 < (I i).1))))))))))
 (R (.bool false) w3)))))))
theorem F_ref21_has_eq (x_0 : Int) (x_1 : Bool) (x_2 : Int) (x_3_a : Option Addr) (x_3_l x_3_c : Nat) (x_4_a : Option Addr) (x_4_l x_4_c : Nat) (p_0 p_1 p_2 p_3 : Int) (p_4_a : Option Addr) (p_4_l p_4_c : Nat) (w : World) (R : Value → World → Prop) : sxFn Tryz.prog TT h_ref21_has Tryz.f101 #[(.agg #[.int .i64 x_0, .bool x_1, .int .i64 x_2, .slice x_3_a x_3_l x_3_c, .slice x_4_a x_4_l x_4_c]), (.agg #[.int .i64 p_0, .int .i64 p_1, .int .i64 p_2, .int .i64 p_3, .slice p_4_a p_4_l p_4_c])] w R = F_ref21_has x_0 x_1 x_2 x_3_a x_3_l x_3_c x_4_a x_4_l x_4_c p_0 p_1 p_2 p_3 p_4_a p_4_l p_4_c w R := by kernel_rfl
theorem F_ref21_has_ok {R : Ending → World → Prop} (x_0 : Int) (x_1 : Bool) (x_2 : Int) (x_3_a : Option Addr) (x_3_l x_3_c : Nat) (x_4_a : Option Addr) (x_4_l x_4_c : Nat) (p_0 p_1 p_2 p_3 : Int) (p_4_a : Option Addr) (p_4_l p_4_c : Nat) (w : World) (h : F_ref21_has x_0 x_1 x_2 x_3_a x_3_l x_3_c x_4_a x_4_l x_4_c p_0 p_1 p_2 p_3 p_4_a p_4_l p_4_c w fun v w' => R (.returned v) w') : Calls Tryz.prog N_ref21_has #[(.agg #[.int .i64 x_0, .bool x_1, .int .i64 x_2, .slice x_3_a x_3_l x_3_c, .slice x_4_a x_4_l x_4_c]), (.agg #[.int .i64 p_0, .int .i64 p_1, .int .i64 p_2, .int .i64 p_3, .slice p_4_a p_4_l p_4_c])] w R :=
 calls_of (f := 101) follows_ok Tryz.func101 (Eq.mpr (F_ref21_has_eq x_0 x_1 x_2 x_3_a x_3_l x_3_c x_4_a x_4_l x_4_c p_0 p_1 p_2 p_3 p_4_a p_4_l p_4_c w _) h)

def h_ref21_merge : H := (.seq .reg (.seq .reg (.seq (.block (.loopG [] [12, 13, 14, 15, 16, 17, 18, 19, 20, 21] (.seq (.seq .reg (.cond .leaf .leaf)) (.block .reg)))) (.seq (.draw .no (.one 0 .pre (.one 1 .pre (.one 2 .pre (.one 3 .pre (.one 4 .pre (.one 5 .pre (.one 6 .pre (.one 7 .last .nil))))))))) (.seq .reg (.seq (.seq .reg (.cond .reg .leaf)) (.seq .reg .leaf)))))))
def F_ref21_merge (x_0 : Int) (x_1 : Bool) (x_2 : Int) (x_3_a : OA) (x_3_l x_3_c : Nat) (x_4_a : OA) (x_4_l x_4_c : Nat) (p_0 p_1 p_2 p_3 : Int) (p_4_a : OA) (p_4_l p_4_c : Nat) (w : World) (R : Value → WP) : Prop :=
 (kAlloc w #[(Iv x_0), (.bool x_1), (Iv x_2), (.slice x_3_a x_3_l x_3_c), (.slice x_4_a x_4_l x_4_c)] Ty_api_Partial fun b w1 =>
 (kAlloc w1 #[(Iv p_0), (Iv p_1), (Iv p_2), (Iv p_3), (.slice p_4_a p_4_l p_4_c)] Ty_api_Piece fun b1 w2 =>
 (kAlloc w2 #[Iv (0 : Int), .bool false, Iv (0 : Int), .slice none 0 0, .slice none 0 0] Ty_api_Partial fun b2 w3 =>
 (kLd w3 ⟨b1, 3, none⟩ .i64 fun x =>
 (kLdS w3 ⟨b1, 4, none⟩ fun _ x_l _ =>
 (kW .i64 (x + (x_l : Int)) fun x1 =>
 (∃ I : Nat → WP, (∃ m' : Nat, I m' w3) ∧
 (∀ (_ : Env)  (m : Nat) (w4 : World), I m w4 →
 (kLdS w4 ⟨b, 3, none⟩ fun _ x_l1 _ =>
 (bsplit (decide ((x_l1 : Int) < x1))
 ((kLdS w4 ⟨b, 3, none⟩ fun x_a2 x_l2 x_c2 =>
 (kAlloc w4 #[(.int .u8 (0 : Int))] Ty_uint8 fun b3 w5 =>
 (AppP Tryz.prog #[Ty_S_uint8, Ty_S_uint8] Ty_S_uint8 #[(.slice x_a2 x_l2 x_c2), (.slice (some ⟨b3, 0, none⟩) 1 1)] w5 fun x_a3 x_l3 x_c3 w6 =>
 (kSet w6 ⟨b, 3, none⟩ (.slice x_a3 x_l3 x_c3) fun w7 =>
 (∃ m' : Nat, m' < m ∧ I m' w7))))))
 ((kDrew w4 fun w8 =>
 (kLdS w8 ⟨b, 3, none⟩ fun x_a4 x_l4 x_c4 =>
 (kLd w8 ⟨b1, 3, none⟩ .i64 fun x2 =>
 ((0 ≤ x2 ∧ x2 ≤ ((x_l4 : Nat) : Int)) ∧ (kLdS w8 ⟨b1, 4, none⟩ fun x_a5 x_l5 x_c5 =>
 (CopyP Tryz.prog #[Ty_S_uint8, Ty_S_uint8] Ty_int #[(.slice (slAddr x_c4 (x2.toNat) 1 x_a4) (x_l4 - x2.toNat) (x_c4 - x2.toNat)), (.slice x_a5 x_l5 x_c5)] w8 fun _ w9 =>
 (kLdS w9 ⟨b, 4, none⟩ fun x_a6 x_l6 x_c6 =>
 (kLd w9 ⟨b1, 0, none⟩ .i64 fun x3 =>
 (kLd w9 ⟨b1, 3, none⟩ .i64 fun x4 =>
 (CP N_ref18_Union #[(.slice x_a6 x_l6 x_c6), (.agg #[Iv x3, Iv x4, Iv x1])] w9 fun e_ w10 =>
 ∃ r_a : OA, ∃ r_l r_c : Nat, ∃ r : Int, e_ = .returned (.tuple #[(.slice r_a r_l r_c), (Iv r)]) ∧
 (kSet w10 ⟨b, 4, none⟩ (.slice r_a r_l r_c) fun w11 =>
 (∃ x_01 x_11 x_21 x_3 : Int, ∃ x_4_a1 : OA, ∃ x_4_l1 x_4_c1 : Nat, cellsAt w11 ⟨b1, 0, none⟩ 0 [(Iv x_01), (Iv x_11), (Iv x_21), (Iv x_3), (.slice x_4_a1 x_4_l1 x_4_c1)] ∧
 (CP N_ref21_ends #[(.agg #[Iv x_01, Iv x_11, Iv x_21, Iv x_3, .slice x_4_a1 x_4_l1 x_4_c1])] w11 fun e_1 w12 =>
 ∃ r1 : Bool, e_1 = .returned (.bool r1) ∧
 (bsplit r1
 ((kSet w12 ⟨b, 2, none⟩ (Iv x1) fun w13 =>
 (∃ x_02 : Int, ∃ x_12 : Bool, ∃ x_22 : Int, ∃ x_3_a1 : OA, ∃ x_3_l1 x_3_c1 : Nat, ∃ x_4_a2 : OA, ∃ x_4_l2 x_4_c2 : Nat, cellsAt w13 ⟨b, 0, none⟩ 0 [(Iv x_02), (.bool x_12), (Iv x_22), (.slice x_3_a1 x_3_l1 x_3_c1), (.slice x_4_a2 x_4_l2 x_4_c2)] ∧
 (sxStore w13 ⟨b2, 0, none⟩ 0 [(Iv x_02), (.bool x_12), (Iv x_22), (.slice x_3_a1 x_3_l1 x_3_c1), (.slice x_4_a2 x_4_l2 x_4_c2)] fun w14 =>
 (∃ r_0 : Int, ∃ r_1 : Bool, ∃ r_2 : Int, ∃ r_3_a : OA, ∃ r_3_l r_3_c : Nat, ∃ r_4_a : OA, ∃ r_4_l r_4_c : Nat, cellsAt w14 ⟨b2, 0, none⟩ 0 [(Iv r_0), (.bool r_1), (Iv r_2), (.slice r_3_a r_3_l r_3_c), (.slice r_4_a r_4_l r_4_c)] ∧
 R (.agg #[Iv r_0, .bool r_1, Iv r_2, .slice r_3_a r_3_l r_3_c, .slice r_4_a r_4_l r_4_c]) w14)))))
 ((∃ x_03 : Int, ∃ x_13 : Bool, ∃ x_23 : Int, ∃ x_3_a2 : OA, ∃ x_3_l2 x_3_c2 : Nat, ∃ x_4_a3 : OA, ∃ x_4_l3 x_4_c3 : Nat, cellsAt w12 ⟨b, 0, none⟩ 0 [(Iv x_03), (.bool x_13), (Iv x_23), (.slice x_3_a2 x_3_l2 x_3_c2), (.slice x_4_a3 x_4_l3 x_4_c3)] ∧
 (sxStore w12 ⟨b2, 0, none⟩ 0 [(Iv x_03), (.bool x_13), (Iv x_23), (.slice x_3_a2 x_3_l2 x_3_c2), (.slice x_4_a3 x_4_l3 x_4_c3)] fun w15 =>
 (∃ r_01 : Int, ∃ r_11 : Bool, ∃ r_21 : Int, ∃ r_3_a1 : OA, ∃ r_3_l1 r_3_c1 : Nat, ∃ r_4_a1 : OA, ∃ r_4_l1 r_4_c1 : Nat, cellsAt w15 ⟨b2, 0, none⟩ 0 [(Iv r_01), (.bool r_11), (Iv r_21), (.slice r_3_a1 r_3_l1 r_3_c1), (.slice r_4_a1 r_4_l1 r_4_c1)] ∧
 R (.agg #[Iv r_01, .bool r_11, Iv r_21, .slice r_3_a1 r_3_l1 r_3_c1, .slice r_4_a1 r_4_l1 r_4_c1]) w15)))))))))))))))))))))))))))))
theorem F_ref21_merge_eq (x_0 : Int) (x_1 : Bool) (x_2 : Int) (x_3_a : Option Addr) (x_3_l x_3_c : Nat) (x_4_a : Option Addr) (x_4_l x_4_c : Nat) (p_0 p_1 p_2 p_3 : Int) (p_4_a : Option Addr) (p_4_l p_4_c : Nat) (w : World) (R : Value → World → Prop) : sxFn Tryz.prog TT h_ref21_merge Tryz.f102 #[(.agg #[.int .i64 x_0, .bool x_1, .int .i64 x_2, .slice x_3_a x_3_l x_3_c, .slice x_4_a x_4_l x_4_c]), (.agg #[.int .i64 p_0, .int .i64 p_1, .int .i64 p_2, .int .i64 p_3, .slice p_4_a p_4_l p_4_c])] w R = F_ref21_merge x_0 x_1 x_2 x_3_a x_3_l x_3_c x_4_a x_4_l x_4_c p_0 p_1 p_2 p_3 p_4_a p_4_l p_4_c w R := by kernel_rfl
theorem F_ref21_merge_ok {R : Ending → World → Prop} (x_0 : Int) (x_1 : Bool) (x_2 : Int) (x_3_a : Option Addr) (x_3_l x_3_c : Nat) (x_4_a : Option Addr) (x_4_l x_4_c : Nat) (p_0 p_1 p_2 p_3 : Int) (p_4_a : Option Addr) (p_4_l p_4_c : Nat) (w : World) (h : F_ref21_merge x_0 x_1 x_2 x_3_a x_3_l x_3_c x_4_a x_4_l x_4_c p_0 p_1 p_2 p_3 p_4_a p_4_l p_4_c w fun v w' => R (.returned v) w') : Calls Tryz.prog N_ref21_merge #[(.agg #[.int .i64 x_0, .bool x_1, .int .i64 x_2, .slice x_3_a x_3_l x_3_c, .slice x_4_a x_4_l x_4_c]), (.agg #[.int .i64 p_0, .int .i64 p_1, .int .i64 p_2, .int .i64 p_3, .slice p_4_a p_4_l p_4_c])] w R :=
 calls_of (f := 102) follows_ok Tryz.func102 (Eq.mpr (F_ref21_merge_eq x_0 x_1 x_2 x_3_a x_3_l x_3_c x_4_a x_4_l x_4_c p_0 p_1 p_2 p_3 p_4_a p_4_l p_4_c w _) h)

def h_ref21_whole : H := (.seq .reg (.seq (.draw .no (.one 0 .stable (.one 1 .stable (.one 2 .stable (.one 3 .stable (.one 4 .stable (.one 5 .stable (.one 6 .stable (.one 7 .stable (.one 8 .stable (.one 9 .stable (.one 10 .stable (.one 11 .stable (.one 12 .stable (.one 13 .stable (.one 14 .stable (.one 15 .stable (.one 16 .stable (.one 17 .stable (.one 18 .stable (.one 19 .stable (.one 20 .stable (.one 21 .stable (.one 22 .stable (.one 23 .stable (.one 24 .stable (.one 25 .stable (.one 26 .stable (.one 27 .stable .nil))))))))))))))))))))))))))))) .leaf))
def F_ref21_whole (p_0 : Int) (p_1 : Bool) (p_2 : Int) (p_3_a : OA) (p_3_l p_3_c : Nat) (p_4_a : OA) (p_4_l p_4_c : Nat) (w : World) (R : Value → WP) : Prop :=
 (kAlloc w #[(Iv p_0), (.bool p_1), (Iv p_2), (.slice p_3_a p_3_l p_3_c), (.slice p_4_a p_4_l p_4_c)] Ty_api_Partial fun b w1 =>
 (kDrew w1 fun w2 =>
 (kLd w2 ⟨b, 2, none⟩ .i64 fun x =>
 (bsplit (decide (x > (0 : Int)))
 ((kLdS w2 ⟨b, 4, none⟩ fun _ x_l _ =>
 (bsplit (decide ((x_l : Int) = (1 : Int)))
 ((kLdS w2 ⟨b, 4, none⟩ fun x_a1 x_l1 _ =>
 (kIx x_a1 x_l1 (0 : Int) fun b1 =>
 (kLd w2 ((b1.add ((0 : Int).toNat * 3)).add 1) .i64 fun x1 =>
 (bsplit (decide (x1 = (0 : Int)))
 ((kLdS w2 ⟨b, 4, none⟩ fun x_a2 x_l2 _ =>
 (kIx x_a2 x_l2 (0 : Int) fun b2 =>
 (kLd w2 ((b2.add ((0 : Int).toNat * 3)).add 2) .i64 fun x2 =>
 (kLd w2 ⟨b, 2, none⟩ .i64 fun x3 =>
 (kLet (decide (x2 = x3)) fun x4 =>
 R (.bool x4) w2))))))
 (R (.bool false) w2))))))
 (R (.bool false) w2))))
 (R (.bool false) w2)))))
theorem F_ref21_whole_eq (p_0 : Int) (p_1 : Bool) (p_2 : Int) (p_3_a : Option Addr) (p_3_l p_3_c : Nat) (p_4_a : Option Addr) (p_4_l p_4_c : Nat) (w : World) (R : Value → World → Prop) : sxFn Tryz.prog TT h_ref21_whole Tryz.f103 #[(.agg #[.int .i64 p_0, .bool p_1, .int .i64 p_2, .slice p_3_a p_3_l p_3_c, .slice p_4_a p_4_l p_4_c])] w R = F_ref21_whole p_0 p_1 p_2 p_3_a p_3_l p_3_c p_4_a p_4_l p_4_c w R := by kernel_rfl
theorem F_ref21_whole_ok {R : Ending → World → Prop} (p_0 : Int) (p_1 : Bool) (p_2 : Int) (p_3_a : Option Addr) (p_3_l p_3_c : Nat) (p_4_a : Option Addr) (p_4_l p_4_c : Nat) (w : World) (h : F_ref21_whole p_0 p_1 p_2 p_3_a p_3_l p_3_c p_4_a p_4_l p_4_c w fun v w' => R (.returned v) w') : Calls Tryz.prog N_ref21_whole #[(.agg #[.int .i64 p_0, .bool p_1, .int .i64 p_2, .slice p_3_a p_3_l p_3_c, .slice p_4_a p_4_l p_4_c])] w R :=
 calls_of (f := 103) follows_ok Tryz.func103 (Eq.mpr (F_ref21_whole_eq p_0 p_1 p_2 p_3_a p_3_l p_3_c p_4_a p_4_l p_4_c w _) h)

end Go.Proofs.YthceaojjeokclaaGreat
