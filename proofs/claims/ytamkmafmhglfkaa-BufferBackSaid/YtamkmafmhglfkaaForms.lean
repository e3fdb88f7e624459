import Derived.Test.YtamkmafmhglfkaaBase
import Derived.KernelRfl
namespace Go.Proofs.Ytamkmafmhglfkaa
open Go.Sx Go.RowKit
set_option maxRecDepth 100000

def h_law26_BufferLevels : H := (.seq .reg (.seq .reg (.seq .reg (.seq .reg (.seq .reg (.seq .reg .leaf))))))
def F_law26_BufferLevels (n : Int) (more : Int) (w : World) (R : Value → World → Prop) : Prop :=
  (let a := (Int.tmod (IntKind.wrap .i64 n) (1048577 : Int));
  (let b := (if (IntKind.wrap .i64 (a + (Int.tmod (IntKind.wrap .i64 more) (70000 : Int)))) < (1048576 : Int) then (IntKind.wrap .i64 (a + (Int.tmod (IntKind.wrap .i64 more) (70000 : Int)))) else (1048576 : Int));
  (Calls Try.prog N_buffer_Level #[(.int .i64 a)] w fun e_ w1 =>
  ∃ r : Int, e_ = .returned (.int .i64 r) ∧
  (Calls Try.prog N_buffer_Bound #[(.int .i64 r)] w1 fun e_1 w2 =>
  ∃ r1 : Int, e_1 = .returned (.int .i64 r1) ∧
  (bsplit (decide (r1 ≥ a))
    ((bsplit (decide (r > (14 : Int)))
      ((Calls Try.prog N_buffer_Level #[(.int .i64 b)] w2 fun e_2 w3 =>
      ∃ r2 : Int, e_2 = .returned (.int .i64 r2) ∧
      (bsplit (decide (r2 ≥ r))
        ((Calls Try.prog N_buffer_Level #[(.int .i64 r1)] w3 fun e_3 w4 =>
        ∃ r3 : Int, e_3 = .returned (.int .i64 r3) ∧
        (bsplit (r3 == r)
          ((Calls Try.prog N_law26_awake #[] w4 fun e_4 w5 =>
          ∃ r4 : Bool, e_4 = .returned (.bool r4) ∧
          R (.bool r4) w5))
          (R (.bool false) w4))))
        (R (.bool false) w3))))
      ((bsplit (decide (r1 < (IntKind.wrap .i64 ((IntKind.wrap .i64 ((2 : Int) * a)) + (8 : Int)))))
        ((Calls Try.prog N_buffer_Level #[(.int .i64 b)] w2 fun e_5 w6 =>
        ∃ r5 : Int, e_5 = .returned (.int .i64 r5) ∧
        (bsplit (decide (r5 ≥ r))
          ((Calls Try.prog N_buffer_Level #[(.int .i64 r1)] w6 fun e_6 w7 =>
          ∃ r6 : Int, e_6 = .returned (.int .i64 r6) ∧
          (bsplit (r6 == r)
            ((Calls Try.prog N_law26_awake #[] w7 fun e_7 w8 =>
            ∃ r7 : Bool, e_7 = .returned (.bool r7) ∧
            R (.bool r7) w8))
            (R (.bool false) w7))))
          (R (.bool false) w6))))
        (R (.bool false) w2)))))
    (R (.bool false) w2))))))
theorem F_law26_BufferLevels_eq (n : Int) (more : Int) (w : World) (R : Value → World → Prop) : sxFn Try.prog TT h_law26_BufferLevels Try.f3 #[(.int .u32 n), (.int .u32 more)] w R = F_law26_BufferLevels n more w R := by kernel_rfl
theorem F_law26_BufferLevels_ok {R : Ending → World → Prop} (n : Int) (more : Int) (w : World) (h : F_law26_BufferLevels n more w fun v w' => R (.returned v) w') : Calls Try.prog N_law26_BufferLevels #[(.int .u32 n), (.int .u32 more)] w R :=
  calls_of (f := 3) follows_ok Try.func3 (Eq.mpr (F_law26_BufferLevels_eq n more w _) h)

def h_law26_BufferOf : H := (.seq .reg (.seq .reg (.seq .reg (.seq .reg (.seq (.seq .reg (.block (.loop [(6, .p .slice), (7, .p .slice), (9, .p (.int .i64))] [6, 7, 9, 18, 19, 20, 21, 22, 23, 24, 25, 26, 27, 28, 29, 30, 31, 32, 33, 34, 35, 36, 37, 38, 39, 40, 41, 42, 43, 44, 45, 46, 47, 48, 49, 50, 51] (.seq (.seq .reg (.cond .leaf .leaf)) (.seq (.block (.cut [(6, .p .slice), (7, .p .slice)] [6, 7, 23, 24, 25, 26, 27, 28, 29, 30, 31, 32, 33, 34, 35, 36, 37, 38, 39] (.draw true (.one 0 .stable (.one 1 .stable (.one 2 .stable (.one 3 .stable (.one 4 .stable (.one 5 .stable (.one 8 .stable (.one 9 .stable (.one 10 .stable (.one 11 .stable (.one 12 .stable (.one 13 .stable (.one 14 .stable (.alt 6 (.alt 7 (.one 15 .keep (.one 16 .keep (.one 17 .stable (.one 18 .stable .nil)))) (.alt 15 (.one 7 .keep (.one 16 .keep (.one 17 .stable (.one 18 .stable .nil)))) .endAlt)) (.alt 15 (.one 6 .keep (.one 7 .keep (.one 16 .keep (.one 17 .stable (.one 18 .stable .nil))))) .endAlt)))))))))))))))) (.draw false (.one 0 .pre (.one 1 .pre (.one 2 .pre (.one 3 .pre (.one 4 .pre (.one 5 .pre (.one 6 .pre (.one 7 .pre (.one 8 .pre (.one 9 .pre (.one 10 .pre (.one 11 .pre (.one 12 .last .nil)))))))))))))))) .reg))))) (.seq .reg (.seq (.seq .reg (.block (.loop [(12, .p (.int .i64))] [4, 12, 58, 59, 60, 61, 62, 63, 64, 65, 66, 67, 68, 69, 70, 71, 72, 73, 74, 75, 76, 77, 78, 79, 80, 81, 82] (.seq (.seq .reg (.cond .leaf .leaf)) (.seq (.block (.seq (.draw true (.one 0 .stable (.one 1 .stable (.one 2 .stable (.one 3 .pre (.one 5 .stable (.one 6 .stable (.one 7 .stable (.one 4 .keep (.one 8 .stable (.one 9 .stable (.one 10 .stable (.one 11 .stable (.one 12 .stable (.one 13 .stable (.one 14 .stable (.one 15 .stable (.one 16 .stable (.one 17 .stable (.one 18 .stable (.one 19 .stable (.one 20 .stable .nil)))))))))))))))))))))) (.cond (.seq .reg .leaf) .leaf))) .reg))))) (.seq .reg .leaf))))))))
def F_law26_BufferOf (waiting_a : Option Addr) (waiting_l : Nat) (waiting_c : Nat) (groups_a : Option Addr) (groups_l : Nat) (groups_c : Nat) (w : World) (R : Value → World → Prop) : Prop :=
  (let n := (if (8 : Int) < (if (groups_l : Int) < (waiting_l : Int) then (groups_l : Int) else (waiting_l : Int)) then (8 : Int) else (if (groups_l : Int) < (waiting_l : Int) then (groups_l : Int) else (waiting_l : Int)));
  (let w1 := w.alloc (.cells #[.int .i64 (0 : Int), .int .i64 (0 : Int), .int .i64 (0 : Int), .int .i64 (0 : Int)] Ty_4_int);
  (∃ I : Option Addr → Nat → Nat → Option Addr → Nat → Nat → Int → Nat × (World → Prop), (I none 0 0 none 0 0 (0 : Int)).2 w1 ∧
  (∀ (_junk : Env) (w_a : Option Addr) (w_l : Nat) (w_c : Nat) (g_a : Option Addr) (g_l : Nat) (g_c : Nat) (i : Int) (w2 : World), (I w_a w_l w_c g_a g_l g_c i).2 w2 →
    (bsplit (decide (i < n))
      ((∃ J : Option Addr → Nat → Nat → Option Addr → Nat → Nat → World → Prop,
      (∀ (_junk : Env) (w_a1 : Option Addr) (w_l1 : Nat) (w_c1 : Nat) (g_a1 : Option Addr) (g_l1 : Nat) (g_c1 : Nat) (w15 : World), J w_a1 w_l1 w_c1 g_a1 g_l1 g_c1 w15 →
        (let w16 := w15.drew;
        (∃ b2 : Addr, g_a1 = some b2 ∧ (0 ≤ i ∧ i < (g_l1 : Int)) ∧
        (∃ x2 : Int, w16.cell? (b2.add (i.toNat * 1)) = some (.int .i64 x2) ∧
        ((0 ≤ x2 ∧ x2 < (4 : Int)) ∧
        (∃ x3 : Int, w16.cell? ((nb w).add (x2.toNat * 1)) = some (.int .i64 x3) ∧
        (∃ b3 : Addr, w_a1 = some b3 ∧ (0 ≤ i ∧ i < (w_l1 : Int)) ∧
        (∃ x4 : Int, w16.cell? (b3.add (i.toNat * 1)) = some (.int .i64 x4) ∧
        ((0 ≤ x2 ∧ x2 < (4 : Int)) ∧
        ((∃ u, w16.cell? ((nb w).add (x2.toNat * 1)) = some u) ∧ w16.frozen? ((nb w).add (x2.toNat * 1)) = false ∧
        (let w17 := w16.setCell ((nb w).add (x2.toNat * 1)) (.int .i64 (IntKind.wrap .i64 (x3 + x4)));
        (let i1 := (IntKind.wrap .i64 (i + (1 : Int)));
        ((I w_a1 w_l1 w_c1 g_a1 g_l1 g_c1 i1).2 w17 ∧ (I w_a1 w_l1 w_c1 g_a1 g_l1 g_c1 i1).1 < (I w_a w_l w_c g_a g_l g_c i).1))))))))))))) ∧
      (let w3 := w2.drew;
      (∃ S : Nat → Prop,
      (∃ b : Addr, waiting_a = some b ∧ (0 ≤ i ∧ i < (waiting_l : Int)) ∧
      (S (b.add (i.toNat * 1)).block ∧
      (∃ x : Int, w3.cell? (b.add (i.toNat * 1)) = some (.int .u16 x) ∧
      (∃ b1 : Addr, groups_a = some b1 ∧ (0 ≤ i ∧ i < (groups_l : Int)) ∧
      (S (b1.add (i.toNat * 1)).block ∧
      (∃ x1 : Int, w3.cell? (b1.add (i.toNat * 1)) = some (.int .u8 x1) ∧
      ((let w8 := w3.alloc (.cells #[(.int .i64 (IntKind.wrap .i64 x))] Ty_int);
      (KeepsB S w3 w8 ∧ ((AppP Try.prog #[Ty_S_int, Ty_S_int] Ty_S_int #[(.slice w_a w_l w_c), (.slice (some (nb w3)) 1 1)] w8 fun x_a4 x_l4 x_c4 w12 =>
      (KeepsB S w3 w12 ∧ (let w13 := w12.alloc (.cells #[(.int .i64 (IntKind.wrap .i64 (Int.tmod x1 (4 : Int))))] Ty_int);
      (KeepsB S w3 w13 ∧ (AppP Try.prog #[Ty_S_int, Ty_S_int] Ty_S_int #[(.slice g_a g_l g_c), (.slice (some (nb w12)) 1 1)] w13 fun x_a5 x_l5 x_c5 w14 =>
      (KeepsB S w3 w14 ∧ J x_a4 x_l4 x_c4 x_a5 x_l5 x_c5 w14)))))) ∧
      ((let w9 := w8.alloc (.cells #[(.int .i64 (IntKind.wrap .i64 (Int.tmod x1 (4 : Int))))] Ty_int);
      (KeepsB S w3 w9 ∧ (AppP Try.prog #[Ty_S_int, Ty_S_int] Ty_S_int #[(.slice w_a w_l w_c), (.slice (some (nb w3)) 1 1)] w9 fun x_a2 x_l2 x_c2 w10 =>
      (KeepsB S w3 w10 ∧ (AppP Try.prog #[Ty_S_int, Ty_S_int] Ty_S_int #[(.slice g_a g_l g_c), (.slice (some (nb w8)) 1 1)] w10 fun x_a3 x_l3 x_c3 w11 =>
      (KeepsB S w3 w11 ∧ J x_a2 x_l2 x_c2 x_a3 x_l3 x_c3 w11)))))) ∧
      True)))) ∧
      ((let w4 := w3.alloc (.cells #[(.int .i64 (IntKind.wrap .i64 (Int.tmod x1 (4 : Int))))] Ty_int);
      (KeepsB S w3 w4 ∧ (let w5 := w4.alloc (.cells #[(.int .i64 (IntKind.wrap .i64 x))] Ty_int);
      (KeepsB S w3 w5 ∧ (AppP Try.prog #[Ty_S_int, Ty_S_int] Ty_S_int #[(.slice w_a w_l w_c), (.slice (some (nb w4)) 1 1)] w5 fun x_a x_l x_c w6 =>
      (KeepsB S w3 w6 ∧ (AppP Try.prog #[Ty_S_int, Ty_S_int] Ty_S_int #[(.slice g_a g_l g_c), (.slice (some (nb w3)) 1 1)] w6 fun x_a1 x_l1 x_c1 w7 =>
      (KeepsB S w3 w7 ∧ J x_a x_l x_c x_a1 x_l1 x_c1 w7)))))))) ∧
      True))))))))))))
      ((Calls Try.prog N_buffer_Of #[(.slice w_a w_l w_c), (.slice g_a g_l g_c)] w2 fun e_ w18 =>
      ∃ r_0 : Int, ∃ r_1 : Int, ∃ r_2 : Int, ∃ r_3 : Int, ∃ r : Int, e_ = .returned (.tuple #[(.agg #[.int .i64 r_0, .int .i64 r_1, .int .i64 r_2, .int .i64 r_3]), (.int .i64 r)]) ∧
      (let w19 := w18.alloc (.cells #[.int .i64 (0 : Int), .int .i64 (0 : Int), .int .i64 (0 : Int), .int .i64 (0 : Int)] Ty_api_Waiting);
      (sxStore w19 (nb w18) 0 [(.int .i64 r_0), (.int .i64 r_1), (.int .i64 r_2), (.int .i64 r_3)] fun w20 =>
      (∃ I1 : Int → Nat × (World → Prop), (I1 (0 : Int)).2 w20 ∧
      (∀ (_junk : Env) (i2 : Int) (w21 : World), (I1 i2).2 w21 →
        (bsplit (decide (i2 < (4 : Int)))
          ((let w22 := w21.drew;
          (∃ S1 : Nat → Prop,
          ((0 ≤ i2 ∧ i2 < (4 : Int)) ∧
          (∃ x5 : Int, w22.cell? ((nb w18).add (i2.toNat * 1)) = some (.int .i64 x5) ∧
          ((0 ≤ i2 ∧ i2 < (4 : Int)) ∧
          (S1 ((nb w).add (i2.toNat * 1)).block ∧
          (∃ x6 : Int, w22.cell? ((nb w).add (i2.toNat * 1)) = some (.int .i64 x6) ∧
          (Calls Try.prog N_buffer_Bound #[(.int .i64 x5)] w22 fun e_1 w23 =>
          ∃ r1 : Int, e_1 = .returned (.int .i64 r1) ∧
          (KeepsB S1 w22 w23 ∧ (bsplit (decide (r1 < x6))
            (R (.bool false) w23)
            (((0 ≤ i2 ∧ i2 < (4 : Int)) ∧
            (S1 ((nb w18).add (i2.toNat * 1)).block ∧
            (∃ x7 : Int, w22.cell? ((nb w18).add (i2.toNat * 1)) = some (.int .i64 x7) ∧
            ((0 ≤ i2 ∧ i2 < (4 : Int)) ∧
            (S1 ((nb w).add (i2.toNat * 1)).block ∧
            (∃ x8 : Int, w22.cell? ((nb w).add (i2.toNat * 1)) = some (.int .i64 x8) ∧
            (bsplit (!((x7 == (0 : Int)) == (x8 == (0 : Int))))
              (R (.bool false) w23)
              ((let i4 := (IntKind.wrap .i64 (i2 + (1 : Int)));
              ((I1 i4).2 w23 ∧ (I1 i4).1 < (I1 i2).1))))))))))))))))))))))
          ((bsplit (r == (0 : Int))
            ((Calls Try.prog N_ref25_SameInts #[(.slice w_a w_l w_c), (.slice w_a w_l w_c)] w21 fun e_2 w24 =>
            ∃ r2 : Bool, e_2 = .returned (.bool r2) ∧
            (bsplit r2
              ((Calls Try.prog N_law26_awake #[] w24 fun e_3 w25 =>
              ∃ r3 : Bool, e_3 = .returned (.bool r3) ∧
              R (.bool r3) w25))
              (R (.bool false) w24))))
            (R (.bool false) w21)))))))))))))))
theorem F_law26_BufferOf_eq (waiting_a : Option Addr) (waiting_l : Nat) (waiting_c : Nat) (groups_a : Option Addr) (groups_l : Nat) (groups_c : Nat) (w : World) (R : Value → World → Prop) : sxFn Try.prog TT h_law26_BufferOf Try.f4 #[(.slice waiting_a waiting_l waiting_c), (.slice groups_a groups_l groups_c)] w R = F_law26_BufferOf waiting_a waiting_l waiting_c groups_a groups_l groups_c w R := by kernel_rfl
theorem F_law26_BufferOf_ok {R : Ending → World → Prop} (waiting_a : Option Addr) (waiting_l : Nat) (waiting_c : Nat) (groups_a : Option Addr) (groups_l : Nat) (groups_c : Nat) (w : World) (h : F_law26_BufferOf waiting_a waiting_l waiting_c groups_a groups_l groups_c w fun v w' => R (.returned v) w') : Calls Try.prog N_law26_BufferOf #[(.slice waiting_a waiting_l waiting_c), (.slice groups_a groups_l groups_c)] w R :=
  calls_of (f := 4) follows_ok Try.func4 (Eq.mpr (F_law26_BufferOf_eq waiting_a waiting_l waiting_c groups_a groups_l groups_c w _) h)

def h_law26_BufferBack : H := (.seq .reg (.seq .reg (.seq .reg (.seq (.seq .reg (.block (.loop [(4, .p (.int .i64)), (5, .p (.int .i64))] [4, 5, 18, 19, 20, 21, 22, 23, 24, 25, 26, 27, 28, 29, 30, 31, 32, 33, 34, 35, 36, 37, 38, 39] (.seq (.seq .reg (.cond .leaf .leaf)) (.seq (.block (.seq .reg (.seq (.draw false (.one 0 .stable (.one 1 .stable (.one 2 .stable (.one 3 .stable (.one 4 .stable (.one 5 .stable (.one 6 .stable (.one 7 .stable (.one 8 .stable .nil)))))))))) (.cond .reg .leaf)))) .reg))))) (.seq .reg (.seq .reg (.seq .reg (.seq .reg (.seq .reg (.seq .reg (.seq .reg (.seq .reg .leaf))))))))))))
def F_law26_BufferBack (l_0 : Int) (l_1 : Int) (l_2 : Int) (l_3 : Int) (w : World) (R : Value → World → Prop) : Prop :=
  (let w1 := w.alloc (.cells #[(.int .u8 l_0), (.int .u8 l_1), (.int .u8 l_2), (.int .u8 l_3)] Ty_4_uint8);
  (let w2 := w1.alloc (.cells #[.int .i64 (0 : Int), .int .i64 (0 : Int), .int .i64 (0 : Int), .int .i64 (0 : Int)] Ty_api_Waiting);
  (sxStore w2 (nb w1) 0 [(.int .i64 (0 : Int)), (.int .i64 (0 : Int)), (.int .i64 (0 : Int)), (.int .i64 (0 : Int))] fun w3 =>
  (∃ I : Int → Int → Nat × (World → Prop), (I (0 : Int) (0 : Int)).2 w3 ∧
  (∀ (_junk : Env) (most : Int) (i : Int) (w4 : World), (I most i).2 w4 →
    (bsplit (decide (i < (4 : Int)))
      (((0 ≤ i ∧ i < (4 : Int)) ∧
      (∃ x : Int, w4.cell? ((nb w).add (i.toNat * 1)) = some (.int .u8 x) ∧
      ((0 ≤ i ∧ i < (4 : Int)) ∧
      ((∃ u, w4.cell? ((nb w1).add (i.toNat * 1)) = some u) ∧ w4.frozen? ((nb w1).add (i.toNat * 1)) = false ∧
      (let w5 := w4.setCell ((nb w1).add (i.toNat * 1)) (.int .i64 (IntKind.wrap .i64 (Int.tmod x (16 : Int))));
      (let w6 := w5.drew;
      ((0 ≤ i ∧ i < (4 : Int)) ∧
      (∃ x1 : Int, w6.cell? ((nb w1).add (i.toNat * 1)) = some (.int .i64 x1) ∧
      ((0 ≤ most ∧ most < (4 : Int)) ∧
      (∃ x2 : Int, w6.cell? ((nb w1).add (most.toNat * 1)) = some (.int .i64 x2) ∧
      (bsplit (decide (x1 > x2))
        ((let i1 := (IntKind.wrap .i64 (i + (1 : Int)));
        ((I i i1).2 w6 ∧ (I i i1).1 < (I most i).1)))
        ((let i2 := (IntKind.wrap .i64 (i + (1 : Int)));
        ((I most i2).2 w6 ∧ (I most i2).1 < (I most i).1)))))))))))))))
      ((∃ x_0 : Int, ∃ x_1 : Int, ∃ x_2 : Int, ∃ x_3 : Int, cellsAt w4 (nb w1) 0 [(.int .i64 x_0), (.int .i64 x_1), (.int .i64 x_2), (.int .i64 x_3)] ∧
      (Calls Try.prog N_buffer_Encode #[(.agg #[.int .i64 x_0, .int .i64 x_1, .int .i64 x_2, .int .i64 x_3]), (.int .i64 (4 : Int))] w4 fun e_ w7 =>
      ∃ r_0 : Int, ∃ r_1_a : Option Addr, ∃ r_1_l : Nat, ∃ r_1_c : Nat, ∃ r : Int, e_ = .returned (.tuple #[(.agg #[.int .i64 r_0, .slice r_1_a r_1_l r_1_c]), (.int .i64 r)]) ∧
      (let w8 := w7.alloc (.cells #[.int .i64 (0 : Int), .slice none 0 0] Ty_api_Section);
      (sxStore w8 (nb w7) 0 [(.int .i64 r_0), (.slice r_1_a r_1_l r_1_c)] fun w9 =>
      (∃ x_01 : Int, ∃ x_1_a : Option Addr, ∃ x_1_l : Nat, ∃ x_1_c : Nat, cellsAt w9 (nb w7) 0 [(.int .i64 x_01), (.slice x_1_a x_1_l x_1_c)] ∧
      (Calls Try.prog N_buffer_Decode #[(.agg #[.int .i64 x_01, .slice x_1_a x_1_l x_1_c])] w9 fun e_1 w10 =>
      ∃ r_01 : Int, ∃ r_1 : Int, ∃ r_2 : Int, ∃ r_3 : Int, ∃ r1 : Int, e_1 = .returned (.tuple #[(.agg #[.int .i64 r_01, .int .i64 r_1, .int .i64 r_2, .int .i64 r_3]), (.int .i64 r1)]) ∧
      (let w11 := w10.alloc (.cells #[.int .i64 (0 : Int), .int .i64 (0 : Int), .int .i64 (0 : Int), .int .i64 (0 : Int)] Ty_api_Waiting);
      (sxStore w11 (nb w10) 0 [(.int .i64 r_01), (.int .i64 r_1), (.int .i64 r_2), (.int .i64 r_3)] fun w12 =>
      (∃ x_02 : Int, ∃ x_11 : Int, ∃ x_21 : Int, ∃ x_31 : Int, cellsAt w12 (nb w1) 0 [(.int .i64 x_02), (.int .i64 x_11), (.int .i64 x_21), (.int .i64 x_31)] ∧
      (Calls Try.prog N_buffer_Encode #[(.agg #[.int .i64 x_02, .int .i64 x_11, .int .i64 x_21, .int .i64 x_31]), (.int .i64 (3 : Int))] w12 fun e_2 w13 =>
      ∃ r_02 : Int, ∃ r_1_a1 : Option Addr, ∃ r_1_l1 : Nat, ∃ r_1_c1 : Nat, ∃ r2 : Int, e_2 = .returned (.tuple #[(.agg #[.int .i64 r_02, .slice r_1_a1 r_1_l1 r_1_c1]), (.int .i64 r2)]) ∧
      (let w14 := w13.alloc (.cells #[.int .i64 (0 : Int), .slice none 0 0] Ty_api_Section);
      (sxStore w14 (nb w13) 0 [(.int .i64 r_02), (.slice r_1_a1 r_1_l1 r_1_c1)] fun w15 =>
      (∃ x_03 : Int, ∃ x_1_a1 : Option Addr, ∃ x_1_l1 : Nat, ∃ x_1_c1 : Nat, cellsAt w15 (nb w13) 0 [(.int .i64 x_03), (.slice x_1_a1 x_1_l1 x_1_c1)] ∧
      (Calls Try.prog N_buffer_Decode #[(.agg #[.int .i64 x_03, .slice x_1_a1 x_1_l1 x_1_c1])] w15 fun e_3 w16 =>
      ∃ r_03 : Int, ∃ r_11 : Int, ∃ r_21 : Int, ∃ r_31 : Int, ∃ r3 : Int, e_3 = .returned (.tuple #[(.agg #[.int .i64 r_03, .int .i64 r_11, .int .i64 r_21, .int .i64 r_31]), (.int .i64 r3)]) ∧
      (let w17 := w16.alloc (.cells #[.int .i64 (0 : Int), .int .i64 (0 : Int), .int .i64 (0 : Int), .int .i64 (0 : Int)] Ty_api_Waiting);
      (sxStore w17 (nb w16) 0 [(.int .i64 r_03), (.int .i64 r_11), (.int .i64 r_21), (.int .i64 r_31)] fun w18 =>
      (let w19 := w18.alloc (.cells #[.int .i64 (0 : Int), .int .i64 (0 : Int), .int .i64 (0 : Int), .int .i64 (0 : Int)] Ty_api_Waiting);
      (sxStore w19 (nb w18) 0 [(.int .i64 (0 : Int)), (.int .i64 (0 : Int)), (.int .i64 (0 : Int)), (.int .i64 (0 : Int))] fun w20 =>
      ((0 ≤ most ∧ most < (4 : Int)) ∧
      (∃ x3 : Int, w20.cell? ((nb w1).add (most.toNat * 1)) = some (.int .i64 x3) ∧
      ((0 ≤ most ∧ most < (4 : Int)) ∧
      ((∃ u, w20.cell? ((nb w18).add (most.toNat * 1)) = some u) ∧ w20.frozen? ((nb w18).add (most.toNat * 1)) = false ∧
      (let w21 := w20.setCell ((nb w18).add (most.toNat * 1)) (.int .i64 x3);
      (∃ x_04 : Int, ∃ x_12 : Int, ∃ x_22 : Int, ∃ x_32 : Int, cellsAt w21 (nb w1) 0 [(.int .i64 x_04), (.int .i64 x_12), (.int .i64 x_22), (.int .i64 x_32)] ∧
      (Calls Try.prog N_buffer_Encode #[(.agg #[.int .i64 x_04, .int .i64 x_12, .int .i64 x_22, .int .i64 x_32]), (.int .i64 (2 : Int))] w21 fun e_4 w22 =>
      ∃ r_04 : Int, ∃ r_1_a2 : Option Addr, ∃ r_1_l2 : Nat, ∃ r_1_c2 : Nat, ∃ r4 : Int, e_4 = .returned (.tuple #[(.agg #[.int .i64 r_04, .slice r_1_a2 r_1_l2 r_1_c2]), (.int .i64 r4)]) ∧
      (let w23 := w22.alloc (.cells #[.int .i64 (0 : Int), .slice none 0 0] Ty_api_Section);
      (sxStore w23 (nb w22) 0 [(.int .i64 r_04), (.slice r_1_a2 r_1_l2 r_1_c2)] fun w24 =>
      (bsplit (r == (0 : Int))
        ((bsplit (r1 == (0 : Int))
          ((∃ x_05 : Int, ∃ x_13 : Int, ∃ x_23 : Int, ∃ x_33 : Int, cellsAt w24 (nb w10) 0 [(.int .i64 x_05), (.int .i64 x_13), (.int .i64 x_23), (.int .i64 x_33)] ∧
          (∃ x_06 : Int, ∃ x_14 : Int, ∃ x_24 : Int, ∃ x_34 : Int, cellsAt w24 (nb w1) 0 [(.int .i64 x_06), (.int .i64 x_14), (.int .i64 x_24), (.int .i64 x_34)] ∧
          (EqP Try.prog .eql Ty_api_Waiting (.tmp 80) (.tmp 81) (.agg #[.int .i64 x_05, .int .i64 x_13, .int .i64 x_23, .int .i64 x_33]) (.agg #[.int .i64 x_06, .int .i64 x_14, .int .i64 x_24, .int .i64 x_34]) fun r5 =>
          (bsplit r5
            ((bsplit (r2 == (0 : Int))
              ((bsplit (r3 == (0 : Int))
                ((∃ x_07 : Int, ∃ x_15 : Int, ∃ x_25 : Int, ∃ x_35 : Int, cellsAt w24 (nb w16) 0 [(.int .i64 x_07), (.int .i64 x_15), (.int .i64 x_25), (.int .i64 x_35)] ∧
                (∃ x_08 : Int, ∃ x_16 : Int, ∃ x_26 : Int, ∃ x_36 : Int, cellsAt w24 (nb w18) 0 [(.int .i64 x_08), (.int .i64 x_16), (.int .i64 x_26), (.int .i64 x_36)] ∧
                (EqP Try.prog .eql Ty_api_Waiting (.tmp 93) (.tmp 94) (.agg #[.int .i64 x_07, .int .i64 x_15, .int .i64 x_25, .int .i64 x_35]) (.agg #[.int .i64 x_08, .int .i64 x_16, .int .i64 x_26, .int .i64 x_36]) fun r6 =>
                (bsplit r6
                  ((bsplit (r4 == (15 : Int))
                    ((Calls Try.prog N_law26_awake #[] w24 fun e_5 w25 =>
                    ∃ r7 : Bool, e_5 = .returned (.bool r7) ∧
                    R (.bool r7) w25))
                    (R (.bool false) w24)))
                  (R (.bool false) w24))))))
                (R (.bool false) w24)))
              (R (.bool false) w24)))
            (R (.bool false) w24))))))
          (R (.bool false) w24)))
        (R (.bool false) w24))))))))))))))))))))))))))))))))))))
theorem F_law26_BufferBack_eq (l_0 : Int) (l_1 : Int) (l_2 : Int) (l_3 : Int) (w : World) (R : Value → World → Prop) : sxFn Try.prog TT h_law26_BufferBack Try.f5 #[(.agg #[.int .u8 l_0, .int .u8 l_1, .int .u8 l_2, .int .u8 l_3])] w R = F_law26_BufferBack l_0 l_1 l_2 l_3 w R := by kernel_rfl
theorem F_law26_BufferBack_ok {R : Ending → World → Prop} (l_0 : Int) (l_1 : Int) (l_2 : Int) (l_3 : Int) (w : World) (h : F_law26_BufferBack l_0 l_1 l_2 l_3 w fun v w' => R (.returned v) w') : Calls Try.prog N_law26_BufferBack #[(.agg #[.int .u8 l_0, .int .u8 l_1, .int .u8 l_2, .int .u8 l_3])] w R :=
  calls_of (f := 5) follows_ok Try.func5 (Eq.mpr (F_law26_BufferBack_eq l_0 l_1 l_2 l_3 w _) h)

def h_law26_BufferRaw : H := (.seq .reg (.cut [] [12, 25, 26, 27, 28, 29, 30, 31, 32, 33, 34, 35, 36, 37] (.seq .reg (.cond (.seq .reg .leaf) .leaf)) (.seq .reg (.seq .reg (.seq .reg (.seq .reg (.seq .reg (.seq .reg (.seq .reg .leaf)))))))))
def F_law26_BufferRaw (n : Int) (waiting_a : Option Addr) (waiting_l : Nat) (waiting_c : Nat) (groups_a : Option Addr) (groups_l : Nat) (groups_c : Nat) (w_0 : Int) (w_1 : Int) (w_2 : Int) (w_3 : Int) (room : Int) (s_0 : Int) (s_1_a : Option Addr) (s_1_l : Nat) (s_1_c : Nat) (w : World) (R : Value → World → Prop) : Prop :=
  (let w1 := w.alloc (.cells #[(.int .i64 w_0), (.int .i64 w_1), (.int .i64 w_2), (.int .i64 w_3)] Ty_api_Waiting);
  (let w2 := w1.alloc (.cells #[(.int .i64 s_0), (.slice s_1_a s_1_l s_1_c)] Ty_api_Section);
  (∃ J : World → Prop,
  (∀ (_junk : Env)  (w5 : World), J w5 →
    (Calls Try.prog N_buffer_Of #[(.slice waiting_a waiting_l waiting_c), (.slice groups_a groups_l groups_c)] w5 fun e_2 w6 =>
    ∃ r_0 : Int, ∃ r_1 : Int, ∃ r_2 : Int, ∃ r_3 : Int, ∃ r2 : Int, e_2 = .returned (.tuple #[(.agg #[.int .i64 r_0, .int .i64 r_1, .int .i64 r_2, .int .i64 r_3]), (.int .i64 r2)]) ∧
    (let w7 := w6.alloc (.cells #[.int .i64 (0 : Int), .int .i64 (0 : Int), .int .i64 (0 : Int), .int .i64 (0 : Int)] Ty_api_Waiting);
    (sxStore w7 (nb w6) 0 [(.int .i64 r_0), (.int .i64 r_1), (.int .i64 r_2), (.int .i64 r_3)] fun w8 =>
    (Calls Try.prog N_ref26_Of #[(.slice waiting_a waiting_l waiting_c), (.slice groups_a groups_l groups_c)] w8 fun e_3 w9 =>
    ∃ r_01 : Int, ∃ r_11 : Int, ∃ r_21 : Int, ∃ r_31 : Int, ∃ r3 : Int, e_3 = .returned (.tuple #[(.agg #[.int .i64 r_01, .int .i64 r_11, .int .i64 r_21, .int .i64 r_31]), (.int .i64 r3)]) ∧
    (let w10 := w9.alloc (.cells #[.int .i64 (0 : Int), .int .i64 (0 : Int), .int .i64 (0 : Int), .int .i64 (0 : Int)] Ty_api_Waiting);
    (sxStore w10 (nb w9) 0 [(.int .i64 r_01), (.int .i64 r_11), (.int .i64 r_21), (.int .i64 r_31)] fun w11 =>
    (∃ x_0 : Int, ∃ x_1 : Int, ∃ x_2 : Int, ∃ x_3 : Int, cellsAt w11 (nb w) 0 [(.int .i64 x_0), (.int .i64 x_1), (.int .i64 x_2), (.int .i64 x_3)] ∧
    (Calls Try.prog N_buffer_Encode #[(.agg #[.int .i64 x_0, .int .i64 x_1, .int .i64 x_2, .int .i64 x_3]), (.int .i64 room)] w11 fun e_4 w12 =>
    ∃ r_02 : Int, ∃ r_1_a : Option Addr, ∃ r_1_l : Nat, ∃ r_1_c : Nat, ∃ r4 : Int, e_4 = .returned (.tuple #[(.agg #[.int .i64 r_02, .slice r_1_a r_1_l r_1_c]), (.int .i64 r4)]) ∧
    (let w13 := w12.alloc (.cells #[.int .i64 (0 : Int), .slice none 0 0] Ty_api_Section);
    (sxStore w13 (nb w12) 0 [(.int .i64 r_02), (.slice r_1_a r_1_l r_1_c)] fun w14 =>
    (∃ x_01 : Int, ∃ x_11 : Int, ∃ x_21 : Int, ∃ x_31 : Int, cellsAt w14 (nb w) 0 [(.int .i64 x_01), (.int .i64 x_11), (.int .i64 x_21), (.int .i64 x_31)] ∧
    (Calls Try.prog N_ref26_Encode #[(.agg #[.int .i64 x_01, .int .i64 x_11, .int .i64 x_21, .int .i64 x_31]), (.int .i64 room)] w14 fun e_5 w15 =>
    ∃ r_03 : Int, ∃ r_1_a1 : Option Addr, ∃ r_1_l1 : Nat, ∃ r_1_c1 : Nat, ∃ r5 : Int, e_5 = .returned (.tuple #[(.agg #[.int .i64 r_03, .slice r_1_a1 r_1_l1 r_1_c1]), (.int .i64 r5)]) ∧
    (let w16 := w15.alloc (.cells #[.int .i64 (0 : Int), .slice none 0 0] Ty_api_Section);
    (sxStore w16 (nb w15) 0 [(.int .i64 r_03), (.slice r_1_a1 r_1_l1 r_1_c1)] fun w17 =>
    (∃ x_02 : Int, ∃ x_1_a : Option Addr, ∃ x_1_l : Nat, ∃ x_1_c : Nat, cellsAt w17 (nb w1) 0 [(.int .i64 x_02), (.slice x_1_a x_1_l x_1_c)] ∧
    (Calls Try.prog N_buffer_Decode #[(.agg #[.int .i64 x_02, .slice x_1_a x_1_l x_1_c])] w17 fun e_6 w18 =>
    ∃ r_04 : Int, ∃ r_12 : Int, ∃ r_22 : Int, ∃ r_32 : Int, ∃ r6 : Int, e_6 = .returned (.tuple #[(.agg #[.int .i64 r_04, .int .i64 r_12, .int .i64 r_22, .int .i64 r_32]), (.int .i64 r6)]) ∧
    (let w19 := w18.alloc (.cells #[.int .i64 (0 : Int), .int .i64 (0 : Int), .int .i64 (0 : Int), .int .i64 (0 : Int)] Ty_api_Waiting);
    (sxStore w19 (nb w18) 0 [(.int .i64 r_04), (.int .i64 r_12), (.int .i64 r_22), (.int .i64 r_32)] fun w20 =>
    (∃ x_03 : Int, ∃ x_1_a1 : Option Addr, ∃ x_1_l1 : Nat, ∃ x_1_c1 : Nat, cellsAt w20 (nb w1) 0 [(.int .i64 x_03), (.slice x_1_a1 x_1_l1 x_1_c1)] ∧
    (Calls Try.prog N_ref26_Decode #[(.agg #[.int .i64 x_03, .slice x_1_a1 x_1_l1 x_1_c1])] w20 fun e_7 w21 =>
    ∃ r_05 : Int, ∃ r_13 : Int, ∃ r_23 : Int, ∃ r_33 : Int, ∃ r7 : Int, e_7 = .returned (.tuple #[(.agg #[.int .i64 r_05, .int .i64 r_13, .int .i64 r_23, .int .i64 r_33]), (.int .i64 r7)]) ∧
    (let w22 := w21.alloc (.cells #[.int .i64 (0 : Int), .int .i64 (0 : Int), .int .i64 (0 : Int), .int .i64 (0 : Int)] Ty_api_Waiting);
    (sxStore w22 (nb w21) 0 [(.int .i64 r_05), (.int .i64 r_13), (.int .i64 r_23), (.int .i64 r_33)] fun w23 =>
    (∃ x_04 : Int, ∃ x_12 : Int, ∃ x_22 : Int, ∃ x_32 : Int, cellsAt w23 (nb w6) 0 [(.int .i64 x_04), (.int .i64 x_12), (.int .i64 x_22), (.int .i64 x_32)] ∧
    (∃ x_05 : Int, ∃ x_13 : Int, ∃ x_23 : Int, ∃ x_33 : Int, cellsAt w23 (nb w9) 0 [(.int .i64 x_05), (.int .i64 x_13), (.int .i64 x_23), (.int .i64 x_33)] ∧
    (EqP Try.prog .eql Ty_api_Waiting (.tmp 72) (.tmp 73) (.agg #[.int .i64 x_04, .int .i64 x_12, .int .i64 x_22, .int .i64 x_32]) (.agg #[.int .i64 x_05, .int .i64 x_13, .int .i64 x_23, .int .i64 x_33]) fun r8 =>
    (bsplit r8
      ((bsplit (r2 == r3)
        ((∃ x_06 : Int, ∃ x_1_a2 : Option Addr, ∃ x_1_l2 : Nat, ∃ x_1_c2 : Nat, cellsAt w23 (nb w12) 0 [(.int .i64 x_06), (.slice x_1_a2 x_1_l2 x_1_c2)] ∧
        (∃ x_07 : Int, ∃ x_1_a3 : Option Addr, ∃ x_1_l3 : Nat, ∃ x_1_c3 : Nat, cellsAt w23 (nb w15) 0 [(.int .i64 x_07), (.slice x_1_a3 x_1_l3 x_1_c3)] ∧
        (Calls Try.prog N_law26_same #[(.agg #[.int .i64 x_06, .slice x_1_a2 x_1_l2 x_1_c2]), (.agg #[.int .i64 x_07, .slice x_1_a3 x_1_l3 x_1_c3])] w23 fun e_8 w24 =>
        ∃ r9 : Bool, e_8 = .returned (.bool r9) ∧
        (bsplit r9
          ((bsplit (r4 == r5)
            ((∃ x_08 : Int, ∃ x_14 : Int, ∃ x_24 : Int, ∃ x_34 : Int, cellsAt w24 (nb w18) 0 [(.int .i64 x_08), (.int .i64 x_14), (.int .i64 x_24), (.int .i64 x_34)] ∧
            (∃ x_09 : Int, ∃ x_15 : Int, ∃ x_25 : Int, ∃ x_35 : Int, cellsAt w24 (nb w21) 0 [(.int .i64 x_09), (.int .i64 x_15), (.int .i64 x_25), (.int .i64 x_35)] ∧
            (EqP Try.prog .eql Ty_api_Waiting (.tmp 91) (.tmp 92) (.agg #[.int .i64 x_08, .int .i64 x_14, .int .i64 x_24, .int .i64 x_34]) (.agg #[.int .i64 x_09, .int .i64 x_15, .int .i64 x_25, .int .i64 x_35]) fun r10 =>
            (bsplit r10
              ((bsplit (r6 == r7)
                ((Calls Try.prog N_buffer_Level #[(.int .i64 n)] w24 fun e_9 w25 =>
                ∃ r11 : Int, e_9 = .returned (.int .i64 r11) ∧
                (Calls Try.prog N_ref26_Level #[(.int .i64 n)] w25 fun e_10 w26 =>
                ∃ r12 : Int, e_10 = .returned (.int .i64 r12) ∧
                (bsplit (r11 == r12)
                  ((Calls Try.prog N_buffer_Bound #[(.int .i64 n)] w26 fun e_11 w27 =>
                  ∃ r13 : Int, e_11 = .returned (.int .i64 r13) ∧
                  (Calls Try.prog N_ref26_Bound #[(.int .i64 n)] w27 fun e_12 w28 =>
                  ∃ r14 : Int, e_12 = .returned (.int .i64 r14) ∧
                  (bsplit (r13 == r14)
                    ((Calls Try.prog N_law26_awake #[] w28 fun e_13 w29 =>
                    ∃ r15 : Bool, e_13 = .returned (.bool r15) ∧
                    R (.bool r15) w29))
                    (R (.bool false) w28)))))
                  (R (.bool false) w26)))))
                (R (.bool false) w24)))
              (R (.bool false) w24))))))
            (R (.bool false) w24)))
          (R (.bool false) w24))))))
        (R (.bool false) w23)))
      (R (.bool false) w23)))))))))))))))))))))))))))) ∧
  (bsplit (decide ((IntKind.wrap .i64 ((waiting_l : Int) + (groups_l : Int))) > (60 : Int)))
    ((Calls Try.prog N_law26_awake #[] w2 fun e_ w3 =>
      ∃ r : Bool, e_ = .returned (.bool r) ∧
      R (.bool r) w3))
    ((∃ x_a : Option Addr, ∃ x_l : Nat, ∃ x_c : Nat, w2.cell? ((nb w1).add 1) = some (.slice x_a x_l x_c) ∧
    (bsplit (decide ((x_l : Int) > (60 : Int)))
      ((Calls Try.prog N_law26_awake #[] w2 fun e_1 w4 =>
      ∃ r1 : Bool, e_1 = .returned (.bool r1) ∧
      R (.bool r1) w4))
      (J w2))))))))
theorem F_law26_BufferRaw_eq (n : Int) (waiting_a : Option Addr) (waiting_l : Nat) (waiting_c : Nat) (groups_a : Option Addr) (groups_l : Nat) (groups_c : Nat) (w_0 : Int) (w_1 : Int) (w_2 : Int) (w_3 : Int) (room : Int) (s_0 : Int) (s_1_a : Option Addr) (s_1_l : Nat) (s_1_c : Nat) (w : World) (R : Value → World → Prop) : sxFn Try.prog TT h_law26_BufferRaw Try.f6 #[(.int .i64 n), (.slice waiting_a waiting_l waiting_c), (.slice groups_a groups_l groups_c), (.agg #[.int .i64 w_0, .int .i64 w_1, .int .i64 w_2, .int .i64 w_3]), (.int .i64 room), (.agg #[.int .i64 s_0, .slice s_1_a s_1_l s_1_c])] w R = F_law26_BufferRaw n waiting_a waiting_l waiting_c groups_a groups_l groups_c w_0 w_1 w_2 w_3 room s_0 s_1_a s_1_l s_1_c w R := by kernel_rfl
theorem F_law26_BufferRaw_ok {R : Ending → World → Prop} (n : Int) (waiting_a : Option Addr) (waiting_l : Nat) (waiting_c : Nat) (groups_a : Option Addr) (groups_l : Nat) (groups_c : Nat) (w_0 : Int) (w_1 : Int) (w_2 : Int) (w_3 : Int) (room : Int) (s_0 : Int) (s_1_a : Option Addr) (s_1_l : Nat) (s_1_c : Nat) (w : World) (h : F_law26_BufferRaw n waiting_a waiting_l waiting_c groups_a groups_l groups_c w_0 w_1 w_2 w_3 room s_0 s_1_a s_1_l s_1_c w fun v w' => R (.returned v) w') : Calls Try.prog N_law26_BufferRaw #[(.int .i64 n), (.slice waiting_a waiting_l waiting_c), (.slice groups_a groups_l groups_c), (.agg #[.int .i64 w_0, .int .i64 w_1, .int .i64 w_2, .int .i64 w_3]), (.int .i64 room), (.agg #[.int .i64 s_0, .slice s_1_a s_1_l s_1_c])] w R :=
  calls_of (f := 6) follows_ok Try.func6 (Eq.mpr (F_law26_BufferRaw_eq n waiting_a waiting_l waiting_c groups_a groups_l groups_c w_0 w_1 w_2 w_3 room s_0 s_1_a s_1_l s_1_c w _) h)

def h_buffer_Level : H := (.seq .reg (.seq .reg (.seq (.seq .reg (.block (.loop [(6, .p (.int .i64))] [2, 4, 6, 7, 8, 9, 10, 11, 12, 13, 14, 15] (.seq .reg (.seq (.cond .leaf .leaf) (.seq (.block (.seq .reg (.seq .reg (.cond (.seq .reg .leaf) .leaf)))) .reg)))))) (.seq .reg .leaf))))
def F_buffer_Level (n : Int) (w : World) (R : Value → World → Prop) : Prop :=
  (Calls Try.prog N_buffer_bounds #[] w fun e_ w1 =>
  ∃ r : Array Value, e_ = .returned (.agg r) ∧
  (let w2 := w1.alloc (.cells #[.int .i64 (0 : Int), .int .i64 (0 : Int), .int .i64 (0 : Int), .int .i64 (0 : Int), .int .i64 (0 : Int), .int .i64 (0 : Int), .int .i64 (0 : Int), .int .i64 (0 : Int), .int .i64 (0 : Int), .int .i64 (0 : Int), .int .i64 (0 : Int), .int .i64 (0 : Int), .int .i64 (0 : Int), .int .i64 (0 : Int), .int .i64 (0 : Int), .int .i64 (0 : Int)] Ty_16_int);
  (bcond (Nat.beq r.size 16) (sxStore w2 (nb w1) 0 r.toList fun w3 =>
  (∃ I : Int → Nat × (World → Prop), (I (0 : Int)).2 w3 ∧
  (∀ (_junk : Env) (x : Int) (w4 : World), (I x).2 w4 →
    (bsplit (decide (x < (16 : Int)))
      (((0 ≤ x ∧ x < (16 : Int)) ∧
      (∃ x1 : Int, w4.cell? ((nb w1).add (x.toNat * 1)) = some (.int .i64 x1) ∧
      (bsplit (decide (x1 ≥ n))
        (R (.int .i64 x) w4)
        (((I (IntKind.wrap .i64 (x + (1 : Int)))).2 w4 ∧ (I (IntKind.wrap .i64 (x + (1 : Int)))).1 < (I x).1))))))
      (R (.int .i64 (15 : Int)) w4))))))))
theorem F_buffer_Level_eq (n : Int) (w : World) (R : Value → World → Prop) : sxFn Try.prog TT h_buffer_Level Try.f7 #[(.int .i64 n)] w R = F_buffer_Level n w R := by kernel_rfl
theorem F_buffer_Level_ok {R : Ending → World → Prop} (n : Int) (w : World) (h : F_buffer_Level n w fun v w' => R (.returned v) w') : Calls Try.prog N_buffer_Level #[(.int .i64 n)] w R :=
  calls_of (f := 7) follows_ok Try.func7 (Eq.mpr (F_buffer_Level_eq n w _) h)

def h_buffer_Bound : H := (.seq .reg (.seq (.seq .reg (.cond (.seq .reg .leaf) .leaf)) (.seq .reg .leaf)))
def F_buffer_Bound (level : Int) (w : World) (R : Value → World → Prop) : Prop :=
  (bsplit (decide (level < (0 : Int)))
    (R (.int .i64 (-1 : Int)) w)
    ((bsplit (decide (level ≥ (16 : Int)))
      (R (.int .i64 (-1 : Int)) w)
      ((Calls Try.prog N_buffer_bounds #[] w fun e_1 w2 =>
      ∃ r1 : Array Value, e_1 = .returned (.agg r1) ∧
      ((0 ≤ level ∧ level < (16 : Int)) ∧ ∃ x1 : Int, r1[level.toNat * 1]? = some (.int .i64 x1) ∧
      R (.int .i64 x1) w2))))))
theorem F_buffer_Bound_eq (level : Int) (w : World) (R : Value → World → Prop) : sxFn Try.prog TT h_buffer_Bound Try.f8 #[(.int .i64 level)] w R = F_buffer_Bound level w R := by kernel_rfl
theorem F_buffer_Bound_ok {R : Ending → World → Prop} (level : Int) (w : World) (h : F_buffer_Bound level w fun v w' => R (.returned v) w') : Calls Try.prog N_buffer_Bound #[(.int .i64 level)] w R :=
  calls_of (f := 8) follows_ok Try.func8 (Eq.mpr (F_buffer_Bound_eq level w _) h)

def h_law26_awake : H := (.seq .reg (.seq .reg .leaf))
def F_law26_awake  (w : World) (R : Value → World → Prop) : Prop :=
  (Calls Try.prog N_buffer_Level #[(.int .i64 (9 : Int))] w fun e_ w1 =>
  ∃ r : Int, e_ = .returned (.int .i64 r) ∧
  (bsplit (r == (2 : Int))
    ((Calls Try.prog N_buffer_Bound #[(.int .i64 (2 : Int))] w1 fun e_1 w2 =>
    ∃ r1 : Int, e_1 = .returned (.int .i64 r1) ∧
    (bsplit (r1 == (16 : Int))
      ((Calls Try.prog N_buffer_Level #[(.int .i64 (0 : Int))] w2 fun e_2 w3 =>
      ∃ r2 : Int, e_2 = .returned (.int .i64 r2) ∧
      (bsplit (r2 == (0 : Int))
        ((Calls Try.prog N_buffer_Bound #[(.int .i64 (16 : Int))] w3 fun e_3 w4 =>
        ∃ r3 : Int, e_3 = .returned (.int .i64 r3) ∧
        (let x := (r3 == (-1 : Int));
        R (.bool x) w4)))
        (R (.bool false) w3))))
      (R (.bool false) w2))))
    (R (.bool false) w1)))
theorem F_law26_awake_eq  (w : World) (R : Value → World → Prop) : sxFn Try.prog TT h_law26_awake Try.f9 #[] w R = F_law26_awake  w R := by kernel_rfl
theorem F_law26_awake_ok {R : Ending → World → Prop}  (w : World) (h : F_law26_awake  w fun v w' => R (.returned v) w') : Calls Try.prog N_law26_awake #[] w R :=
  calls_of (f := 9) follows_ok Try.func9 (Eq.mpr (F_law26_awake_eq  w _) h)

def h_buffer_Of : H := (.seq .reg (.cut [] [5, 13, 14, 15, 16, 17, 18, 19, 20, 21, 22, 23] (.seq .reg (.cond (.seq .reg .leaf) .leaf)) (.seq .reg (.seq (.seq .reg (.block (.loop [(26, .p (.int .i64))] [5, 7, 8, 9, 26, 27, 28, 29, 30, 31, 32, 33, 34, 35, 36, 37, 38, 39, 40, 41, 42, 43, 44, 45, 46, 47, 48, 49, 50, 51, 52, 53, 54, 55, 56, 57, 58, 59] (.seq .reg (.seq (.cond .leaf .leaf) (.seq (.block (.seq .reg (.seq (.seq .reg (.cut [(48, .p .bool)] [35, 36, 37, 38, 39, 40, 41, 42, 43, 44, 45, 46, 47, 48] .reg (.cond (.seq .reg .leaf) .leaf))) .reg))) .reg)))))) (.seq .reg (.seq (.seq .reg (.block (.loop [(61, .p (.int .i64))] [11, 12, 61, 62, 63, 64, 65, 66, 67, 68, 69, 70] (.seq .reg (.seq (.cond .leaf .leaf) (.seq (.block (.seq .reg .reg)) .reg)))))) (.seq .reg .leaf)))))))
def F_buffer_Of (waiting_a : Option Addr) (waiting_l : Nat) (waiting_c : Nat) (groups_a : Option Addr) (groups_l : Nat) (groups_c : Nat) (w : World) (R : Value → World → Prop) : Prop :=
  (let w1 := w.alloc (.cells #[.int .i64 (0 : Int), .int .i64 (0 : Int), .int .i64 (0 : Int), .int .i64 (0 : Int)] Ty_api_Waiting);
  (∃ J : World → Prop,
  (∀ (_junk : Env)  (w4 : World), J w4 →
    (let w5 := w4.alloc (.cells #[.int .i64 (0 : Int), .int .i64 (0 : Int), .int .i64 (0 : Int), .int .i64 (0 : Int)] Ty_4_int);
    (∃ I : Int → Nat × (World → Prop), (I (0 : Int)).2 w5 ∧
    (∀ (_junk : Env) (x : Int) (w6 : World), (I x).2 w6 →
      (bsplit (decide (x < (waiting_l : Int)))
        ((∃ b : Addr, waiting_a = some b ∧ (0 ≤ x ∧ x < (waiting_l : Int)) ∧
        (∃ x1 : Int, w6.cell? (b.add (x.toNat * 1)) = some (.int .i64 x1) ∧
        (∃ b1 : Addr, groups_a = some b1 ∧ (0 ≤ x ∧ x < (groups_l : Int)) ∧
        (∃ x2 : Int, w6.cell? (b1.add (x.toNat * 1)) = some (.int .i64 x2) ∧
        (∃ J1 : Bool → World → Prop,
        (∀ (_junk : Env) (x3 : Bool) (w7 : World), J1 x3 w7 →
          (bsplit x3
            ((sxStore w7 (nb w) 0 [(.int .i64 (0 : Int)), (.int .i64 (0 : Int)), (.int .i64 (0 : Int)), (.int .i64 (0 : Int))] fun w8 =>
            (∃ r_02 : Int, ∃ r_12 : Int, ∃ r_22 : Int, ∃ r_32 : Int, cellsAt w8 (nb w) 0 [(.int .i64 r_02), (.int .i64 r_12), (.int .i64 r_22), (.int .i64 r_32)] ∧
            R (.tuple #[(.agg #[.int .i64 r_02, .int .i64 r_12, .int .i64 r_22, .int .i64 r_32]), (.int .i64 (3 : Int))]) w8)))
            ((∃ b2 : Addr, groups_a = some b2 ∧ (0 ≤ x ∧ x < (groups_l : Int)) ∧
            (∃ x4 : Int, w7.cell? (b2.add (x.toNat * 1)) = some (.int .i64 x4) ∧
            ((0 ≤ x4 ∧ x4 < (4 : Int)) ∧
            (∃ x5 : Int, w7.cell? ((nb w4).add (x4.toNat * 1)) = some (.int .i64 x5) ∧
            ((0 ≤ x4 ∧ x4 < (4 : Int)) ∧
            ((∃ u, w7.cell? ((nb w4).add (x4.toNat * 1)) = some u) ∧ w7.frozen? ((nb w4).add (x4.toNat * 1)) = false ∧
            (let w9 := w7.setCell ((nb w4).add (x4.toNat * 1)) (.int .i64 (IntKind.wrap .i64 (x5 + x1)));
            ((I (IntKind.wrap .i64 (x + (1 : Int)))).2 w9 ∧ (I (IntKind.wrap .i64 (x + (1 : Int)))).1 < (I x).1))))))))))) ∧
        (bsplit (decide (x2 < (0 : Int)))
          (J1 true w6)
          ((bsplit (decide (x2 ≥ (4 : Int)))
            (J1 true w6)
            ((bsplit (decide (x1 < (0 : Int)))
              (J1 true w6)
              (J1 (decide (x1 > (1048576 : Int))) w6))))))))))))
        ((let w10 := w6.alloc (.cells #[.int .i64 (0 : Int), .int .i64 (0 : Int), .int .i64 (0 : Int), .int .i64 (0 : Int)] Ty_api_Waiting);
        (∃ x_0 : Int, ∃ x_1 : Int, ∃ x_2 : Int, ∃ x_3 : Int, cellsAt w10 (nb w4) 0 [(.int .i64 x_0), (.int .i64 x_1), (.int .i64 x_2), (.int .i64 x_3)] ∧
        (∃ I1 : Int → Nat × (World → Prop), (I1 (0 : Int)).2 w10 ∧
        (∀ (_junk : Env) (x6 : Int) (w11 : World), (I1 x6).2 w11 →
          (bsplit (decide (x6 < (4 : Int)))
            (((0 ≤ x6 ∧ x6 < (4 : Int)) ∧ ∃ x7 : Int, (#[(.int .i64 x_0), (.int .i64 x_1), (.int .i64 x_2), (.int .i64 x_3)] : Array Value)[x6.toNat * 1]? = some (.int .i64 x7) ∧
            (Calls Try.prog N_buffer_Level #[(.int .i64 x7)] w11 fun e_ w12 =>
            ∃ r : Int, e_ = .returned (.int .i64 r) ∧
            ((0 ≤ x6 ∧ x6 < (4 : Int)) ∧
            ((∃ u, w12.cell? ((nb w6).add (x6.toNat * 1)) = some u) ∧ w12.frozen? ((nb w6).add (x6.toNat * 1)) = false ∧
            (let w13 := w12.setCell ((nb w6).add (x6.toNat * 1)) (.int .i64 r);
            ((I1 (IntKind.wrap .i64 (x6 + (1 : Int)))).2 w13 ∧ (I1 (IntKind.wrap .i64 (x6 + (1 : Int)))).1 < (I1 x6).1)))))))
            ((∃ x_01 : Int, ∃ x_11 : Int, ∃ x_21 : Int, ∃ x_31 : Int, cellsAt w11 (nb w6) 0 [(.int .i64 x_01), (.int .i64 x_11), (.int .i64 x_21), (.int .i64 x_31)] ∧
            (sxStore w11 (nb w) 0 [(.int .i64 x_01), (.int .i64 x_11), (.int .i64 x_21), (.int .i64 x_31)] fun w14 =>
            (∃ r_03 : Int, ∃ r_13 : Int, ∃ r_23 : Int, ∃ r_33 : Int, cellsAt w14 (nb w) 0 [(.int .i64 r_03), (.int .i64 r_13), (.int .i64 r_23), (.int .i64 r_33)] ∧
            R (.tuple #[(.agg #[.int .i64 r_03, .int .i64 r_13, .int .i64 r_23, .int .i64 r_33]), (.int .i64 (0 : Int))]) w14))))))))))))))) ∧
  (bsplit (decide ((waiting_l : Int) > (8 : Int)))
    ((sxStore w1 (nb w) 0 [(.int .i64 (0 : Int)), (.int .i64 (0 : Int)), (.int .i64 (0 : Int)), (.int .i64 (0 : Int))] fun w2 =>
      (∃ r_0 : Int, ∃ r_1 : Int, ∃ r_2 : Int, ∃ r_3 : Int, cellsAt w2 (nb w) 0 [(.int .i64 r_0), (.int .i64 r_1), (.int .i64 r_2), (.int .i64 r_3)] ∧
      R (.tuple #[(.agg #[.int .i64 r_0, .int .i64 r_1, .int .i64 r_2, .int .i64 r_3]), (.int .i64 (2 : Int))]) w2)))
    ((bsplit ((waiting_l : Int) != (groups_l : Int))
      ((sxStore w1 (nb w) 0 [(.int .i64 (0 : Int)), (.int .i64 (0 : Int)), (.int .i64 (0 : Int)), (.int .i64 (0 : Int))] fun w3 =>
      (∃ r_01 : Int, ∃ r_11 : Int, ∃ r_21 : Int, ∃ r_31 : Int, cellsAt w3 (nb w) 0 [(.int .i64 r_01), (.int .i64 r_11), (.int .i64 r_21), (.int .i64 r_31)] ∧
      R (.tuple #[(.agg #[.int .i64 r_01, .int .i64 r_11, .int .i64 r_21, .int .i64 r_31]), (.int .i64 (2 : Int))]) w3)))
      (J w1))))))
theorem F_buffer_Of_eq (waiting_a : Option Addr) (waiting_l : Nat) (waiting_c : Nat) (groups_a : Option Addr) (groups_l : Nat) (groups_c : Nat) (w : World) (R : Value → World → Prop) : sxFn Try.prog TT h_buffer_Of Try.f10 #[(.slice waiting_a waiting_l waiting_c), (.slice groups_a groups_l groups_c)] w R = F_buffer_Of waiting_a waiting_l waiting_c groups_a groups_l groups_c w R := by kernel_rfl
theorem F_buffer_Of_ok {R : Ending → World → Prop} (waiting_a : Option Addr) (waiting_l : Nat) (waiting_c : Nat) (groups_a : Option Addr) (groups_l : Nat) (groups_c : Nat) (w : World) (h : F_buffer_Of waiting_a waiting_l waiting_c groups_a groups_l groups_c w fun v w' => R (.returned v) w') : Calls Try.prog N_buffer_Of #[(.slice waiting_a waiting_l waiting_c), (.slice groups_a groups_l groups_c)] w R :=
  calls_of (f := 10) follows_ok Try.func10 (Eq.mpr (F_buffer_Of_eq waiting_a waiting_l waiting_c groups_a groups_l groups_c w _) h)

def h_ref25_SameInts : H := (.seq .reg (.seq (.seq .reg (.cond (.seq .reg .leaf) .leaf)) (.seq (.seq .reg (.block (.loop [(5, .p (.int .i64))] [4, 5, 11, 12, 13, 14, 15, 16, 17, 18, 19, 20, 21, 22, 23, 24, 25] (.seq (.seq .reg (.cond .leaf .leaf)) (.seq (.block (.seq (.draw false (.one 0 .stable (.one 1 .stable (.one 2 .stable (.one 3 .stable (.one 4 .stable (.one 5 .stable (.one 6 .stable (.one 7 .stable (.one 8 .stable .nil)))))))))) (.cond (.seq .reg .leaf) .leaf))) .reg))))) (.seq .reg .leaf))))
def F_ref25_SameInts (a_a : Option Addr) (a_l : Nat) (a_c : Nat) (b_a : Option Addr) (b_l : Nat) (b_c : Nat) (w : World) (R : Value → World → Prop) : Prop :=
  (bsplit ((a_l : Int) != (b_l : Int))
    (R (.bool false) w)
    ((∃ I : Int → Nat × (World → Prop), (I (0 : Int)).2 w ∧
    (∀ (_junk : Env) (i : Int) (w1 : World), (I i).2 w1 →
      (bsplit (decide (i < (a_l : Int)))
        ((let w2 := w1.drew;
        (∃ b : Addr, a_a = some b ∧ (0 ≤ i ∧ i < (a_l : Int)) ∧
        (∃ x : Int, w2.cell? (b.add (i.toNat * 1)) = some (.int .i64 x) ∧
        (∃ b1 : Addr, b_a = some b1 ∧ (0 ≤ i ∧ i < (b_l : Int)) ∧
        (∃ x1 : Int, w2.cell? (b1.add (i.toNat * 1)) = some (.int .i64 x1) ∧
        (bsplit (x != x1)
          (R (.bool false) w2)
          ((let i1 := (IntKind.wrap .i64 (i + (1 : Int)));
          ((I i1).2 w2 ∧ (I i1).1 < (I i).1))))))))))
        (R (.bool true) w1))))))
theorem F_ref25_SameInts_eq (a_a : Option Addr) (a_l : Nat) (a_c : Nat) (b_a : Option Addr) (b_l : Nat) (b_c : Nat) (w : World) (R : Value → World → Prop) : sxFn Try.prog TT h_ref25_SameInts Try.f11 #[(.slice a_a a_l a_c), (.slice b_a b_l b_c)] w R = F_ref25_SameInts a_a a_l a_c b_a b_l b_c w R := by kernel_rfl
theorem F_ref25_SameInts_ok {R : Ending → World → Prop} (a_a : Option Addr) (a_l : Nat) (a_c : Nat) (b_a : Option Addr) (b_l : Nat) (b_c : Nat) (w : World) (h : F_ref25_SameInts a_a a_l a_c b_a b_l b_c w fun v w' => R (.returned v) w') : Calls Try.prog N_ref25_SameInts #[(.slice a_a a_l a_c), (.slice b_a b_l b_c)] w R :=
  calls_of (f := 11) follows_ok Try.func11 (Eq.mpr (F_ref25_SameInts_eq a_a a_l a_c b_a b_l b_c w _) h)

def h_buffer_Encode : H := (.seq .reg (.seq .reg (.cut [] [5, 11, 12, 13, 14, 15, 16, 17, 18, 19] (.seq .reg (.cond (.seq .reg .leaf) .leaf)) (.seq (.block (.seq .reg (.cond (.seq .reg .leaf) (.seq .reg (.cond (.seq .reg (.seq (.seq .reg (.block (.loop [(7, .p (.int .i64)), (27, .p (.int .i64))] [7, 8, 27, 28, 29, 30, 31, 32, 33, 34, 35, 36, 37, 38] (.seq .reg (.seq (.cond .leaf .leaf) (.seq (.block (.seq .reg (.seq (.draw false (.one 0 .stable (.one 1 .stable (.one 2 .stable (.one 3 .stable (.one 4 .stable (.one 5 .stable (.one 6 .stable .nil)))))))) (.cond .reg .leaf)))) .reg)))))) (.seq .reg .leaf))) .leaf))))) (.seq .reg .leaf)))))
def F_buffer_Encode (w_0 : Int) (w_1 : Int) (w_2 : Int) (w_3 : Int) (room : Int) (w : World) (R : Value → World → Prop) : Prop :=
  (let w1 := w.alloc (.cells #[(.int .i64 w_0), (.int .i64 w_1), (.int .i64 w_2), (.int .i64 w_3)] Ty_api_Waiting);
  (let w2 := w1.alloc (.cells #[.int .i64 (0 : Int), .slice none 0 0] Ty_api_Section);
  (∃ x_0 : Int, ∃ x_1 : Int, ∃ x_2 : Int, ∃ x_3 : Int, cellsAt w2 (nb w) 0 [(.int .i64 x_0), (.int .i64 x_1), (.int .i64 x_2), (.int .i64 x_3)] ∧
  (let w3 := w2.alloc (.cells #[.int .i64 (0 : Int), .int .i64 (0 : Int), .int .i64 (0 : Int), .int .i64 (0 : Int)] Ty_4_int);
  (sxStore w3 (nb w2) 0 [(.int .i64 x_0), (.int .i64 x_1), (.int .i64 x_2), (.int .i64 x_3)] fun w4 =>
  (∃ J : World → Prop,
  (∀ (_junk : Env)  (w9 : World), J w9 →
    (let x := (decide (room < (3 : Int)));
    (bsplit x
      ((sxStore w9 (nb w1) 0 [(.int .i64 (0 : Int)), (.slice none 0 0)] fun w10 =>
      (∃ r_02 : Int, ∃ r_1_a2 : Option Addr, ∃ r_1_l2 : Nat, ∃ r_1_c2 : Nat, cellsAt w10 (nb w1) 0 [(.int .i64 r_02), (.slice r_1_a2 r_1_l2 r_1_c2)] ∧
      R (.tuple #[(.agg #[.int .i64 r_02, .slice r_1_a2 r_1_l2 r_1_c2]), (.int .i64 (15 : Int))]) w10)))
      ((let x1 := (room == (3 : Int));
      (bsplit x1
        ((∃ I : Int → Int → Nat × (World → Prop), (I (0 : Int) (0 : Int)).2 w9 ∧
        (∀ (_junk : Env) (best : Int) (x2 : Int) (w11 : World), (I best x2).2 w11 →
          (bsplit (decide (x2 < (4 : Int)))
            ((let w12 := w11.drew;
            ((0 ≤ x2 ∧ x2 < (4 : Int)) ∧
            (∃ x3 : Int, w12.cell? ((nb w2).add (x2.toNat * 1)) = some (.int .i64 x3) ∧
            ((0 ≤ best ∧ best < (4 : Int)) ∧
            (∃ x4 : Int, w12.cell? ((nb w2).add (best.toNat * 1)) = some (.int .i64 x4) ∧
            (bsplit (decide (x3 > x4))
              (((I x2 (IntKind.wrap .i64 (x2 + (1 : Int)))).2 w12 ∧ (I x2 (IntKind.wrap .i64 (x2 + (1 : Int)))).1 < (I best x2).1))
              (((I best (IntKind.wrap .i64 (x2 + (1 : Int)))).2 w12 ∧ (I best (IntKind.wrap .i64 (x2 + (1 : Int)))).1 < (I best x2).1)))))))))
            (((0 ≤ best ∧ best < (4 : Int)) ∧
            (∃ x5 : Int, w11.cell? ((nb w2).add (best.toNat * 1)) = some (.int .i64 x5) ∧
            (let w13 := w11.alloc (.cells #[(.int .u8 (IntKind.wrap .u8 (bOr .i64 (IntKind.wrap .i64 (best * 2 ^ 6)) x5)))] Ty_uint8);
            (sxStore w13 (nb w1) 0 [(.int .i64 (8 : Int)), (.slice (some (nb w11)) 1 1)] fun w14 =>
            (∃ r_03 : Int, ∃ r_1_a3 : Option Addr, ∃ r_1_l3 : Nat, ∃ r_1_c3 : Nat, cellsAt w14 (nb w1) 0 [(.int .i64 r_03), (.slice r_1_a3 r_1_l3 r_1_c3)] ∧
            R (.tuple #[(.agg #[.int .i64 r_03, .slice r_1_a3 r_1_l3 r_1_c3]), (.int .i64 (0 : Int))]) w14))))))))))
        ((∃ x6 : Int, w9.cell? (nb w2) = some (.int .i64 x6) ∧
        (∃ x7 : Int, w9.cell? ((nb w2).add 1) = some (.int .i64 x7) ∧
        (∃ x8 : Int, w9.cell? ((nb w2).add 2) = some (.int .i64 x8) ∧
        (∃ x9 : Int, w9.cell? ((nb w2).add 3) = some (.int .i64 x9) ∧
        (let w15 := w9.alloc (.cells #[(.int .u8 (IntKind.wrap .u8 (bOr .i64 (IntKind.wrap .i64 (x6 * 2 ^ 4)) x7))), (.int .u8 (IntKind.wrap .u8 (bOr .i64 (IntKind.wrap .i64 (x8 * 2 ^ 4)) x9)))] Ty_uint8);
        (sxStore w15 (nb w1) 0 [(.int .i64 (9 : Int)), (.slice (some (nb w9)) 2 2)] fun w16 =>
        (∃ r_04 : Int, ∃ r_1_a4 : Option Addr, ∃ r_1_l4 : Nat, ∃ r_1_c4 : Nat, cellsAt w16 (nb w1) 0 [(.int .i64 r_04), (.slice r_1_a4 r_1_l4 r_1_c4)] ∧
        R (.tuple #[(.agg #[.int .i64 r_04, .slice r_1_a4 r_1_l4 r_1_c4]), (.int .i64 (0 : Int))]) w16)))))))))))))) ∧
  (Calls Try.prog N_slices_Min_Sint_int #[(.slice (slAddr 4 0 1 (some (nb w2))) (4 - 0) (4 - 0))] w4 fun e_ w5 =>
  ∃ r : Int, e_ = .returned (.int .i64 r) ∧
  (bsplit (decide (r < (0 : Int)))
    ((sxStore w5 (nb w1) 0 [(.int .i64 (0 : Int)), (.slice none 0 0)] fun w6 =>
      (∃ r_0 : Int, ∃ r_1_a : Option Addr, ∃ r_1_l : Nat, ∃ r_1_c : Nat, cellsAt w6 (nb w1) 0 [(.int .i64 r_0), (.slice r_1_a r_1_l r_1_c)] ∧
      R (.tuple #[(.agg #[.int .i64 r_0, .slice r_1_a r_1_l r_1_c]), (.int .i64 (1 : Int))]) w6)))
    ((Calls Try.prog N_slices_Max_Sint_int #[(.slice (slAddr 4 0 1 (some (nb w2))) (4 - 0) (4 - 0))] w5 fun e_1 w7 =>
    ∃ r1 : Int, e_1 = .returned (.int .i64 r1) ∧
    (bsplit (decide (r1 ≥ (16 : Int)))
      ((sxStore w7 (nb w1) 0 [(.int .i64 (0 : Int)), (.slice none 0 0)] fun w8 =>
      (∃ r_01 : Int, ∃ r_1_a1 : Option Addr, ∃ r_1_l1 : Nat, ∃ r_1_c1 : Nat, cellsAt w8 (nb w1) 0 [(.int .i64 r_01), (.slice r_1_a1 r_1_l1 r_1_c1)] ∧
      R (.tuple #[(.agg #[.int .i64 r_01, .slice r_1_a1 r_1_l1 r_1_c1]), (.int .i64 (1 : Int))]) w8)))
      (J w7))))))))))))
theorem F_buffer_Encode_eq (w_0 : Int) (w_1 : Int) (w_2 : Int) (w_3 : Int) (room : Int) (w : World) (R : Value → World → Prop) : sxFn Try.prog TT h_buffer_Encode Try.f12 #[(.agg #[.int .i64 w_0, .int .i64 w_1, .int .i64 w_2, .int .i64 w_3]), (.int .i64 room)] w R = F_buffer_Encode w_0 w_1 w_2 w_3 room w R := by kernel_rfl
theorem F_buffer_Encode_ok {R : Ending → World → Prop} (w_0 : Int) (w_1 : Int) (w_2 : Int) (w_3 : Int) (room : Int) (w : World) (h : F_buffer_Encode w_0 w_1 w_2 w_3 room w fun v w' => R (.returned v) w') : Calls Try.prog N_buffer_Encode #[(.agg #[.int .i64 w_0, .int .i64 w_1, .int .i64 w_2, .int .i64 w_3]), (.int .i64 room)] w R :=
  calls_of (f := 12) follows_ok Try.func12 (Eq.mpr (F_buffer_Encode_eq w_0 w_1 w_2 w_3 room w _) h)

def h_buffer_Decode : H := (.seq .reg (.seq .reg (.seq (.seq .reg (.block (.seq .reg (.cond (.seq (.seq .reg (.cond (.seq .reg .leaf) .leaf)) (.seq .reg (.block (.loop [(20, .p (.int .i64))] [5, 6, 20, 21, 22, 23, 24, 25, 26, 27, 28, 29, 30, 31, 32, 33, 34, 35, 36, 37, 38, 39, 40] (.seq .reg (.seq (.cond .leaf .leaf) (.seq (.block (.seq .reg .reg)) .reg))))))) (.seq .reg (.cond (.seq (.seq .reg (.cond (.seq .reg .leaf) .leaf)) (.seq (.seq .reg (.cond (.seq .reg .leaf) .leaf)) (.draw true (.one 0 .pre (.one 1 .pre (.one 2 .pre (.one 3 .pre (.one 4 .pre (.one 5 .pre (.one 6 .pre (.one 7 .pre (.one 8 .pre (.one 9 .pre (.one 10 .pre (.one 11 .stable (.one 12 .pre (.one 13 .keep .nil))))))))))))))))) (.seq .reg .leaf))))))) (.seq .reg .leaf))))
def F_buffer_Decode (s_0 : Int) (s_1_a : Option Addr) (s_1_l : Nat) (s_1_c : Nat) (w : World) (R : Value → World → Prop) : Prop :=
  (let w1 := w.alloc (.cells #[(.int .i64 s_0), (.slice s_1_a s_1_l s_1_c)] Ty_api_Section);
  (let w2 := w1.alloc (.cells #[.int .i64 (0 : Int), .int .i64 (0 : Int), .int .i64 (0 : Int), .int .i64 (0 : Int)] Ty_api_Waiting);
  (let w3 := w2.alloc (.cells #[.int .i64 (0 : Int), .int .i64 (0 : Int), .int .i64 (0 : Int), .int .i64 (0 : Int)] Ty_api_Waiting);
  (∃ x : Int, w3.cell? (nb w) = some (.int .i64 x) ∧
  (let x1 := (x == (9 : Int));
  (bsplit x1
    ((∃ x_a : Option Addr, ∃ x_l : Nat, ∃ x_c : Nat, w3.cell? ((nb w).add 1) = some (.slice x_a x_l x_c) ∧
    (bsplit ((x_l : Int) != (2 : Int))
      ((∃ x_0 : Int, ∃ x_1 : Int, ∃ x_2 : Int, ∃ x_3 : Int, cellsAt w3 (nb w2) 0 [(.int .i64 x_0), (.int .i64 x_1), (.int .i64 x_2), (.int .i64 x_3)] ∧
      (sxStore w3 (nb w1) 0 [(.int .i64 x_0), (.int .i64 x_1), (.int .i64 x_2), (.int .i64 x_3)] fun w4 =>
      (∃ r_0 : Int, ∃ r_1 : Int, ∃ r_2 : Int, ∃ r_3 : Int, cellsAt w4 (nb w1) 0 [(.int .i64 r_0), (.int .i64 r_1), (.int .i64 r_2), (.int .i64 r_3)] ∧
      R (.tuple #[(.agg #[.int .i64 r_0, .int .i64 r_1, .int .i64 r_2, .int .i64 r_3]), (.int .i64 (2 : Int))]) w4))))
      ((∃ x_a1 : Option Addr, ∃ x_l1 : Nat, ∃ x_c1 : Nat, w3.cell? ((nb w).add 1) = some (.slice x_a1 x_l1 x_c1) ∧
      (∃ I : Int → Nat × (World → Prop), (I (0 : Int)).2 w3 ∧
      (∀ (_junk : Env) (x2 : Int) (w5 : World), (I x2).2 w5 →
        (bsplit (decide (x2 < (x_l1 : Int)))
          ((∃ b : Addr, x_a1 = some b ∧ (0 ≤ x2 ∧ x2 < (x_l1 : Int)) ∧
          (∃ x3 : Int, w5.cell? (b.add (x2.toNat * 1)) = some (.int .u8 x3) ∧
          ((0 ≤ (IntKind.wrap .i64 ((2 : Int) * x2)) ∧ (IntKind.wrap .i64 ((2 : Int) * x2)) < (4 : Int)) ∧
          ((∃ u, w5.cell? ((nb w2).add ((IntKind.wrap .i64 ((2 : Int) * x2)).toNat * 1)) = some u) ∧ w5.frozen? ((nb w2).add ((IntKind.wrap .i64 ((2 : Int) * x2)).toNat * 1)) = false ∧
          (let w6 := w5.setCell ((nb w2).add ((IntKind.wrap .i64 ((2 : Int) * x2)).toNat * 1)) (.int .i64 (IntKind.wrap .i64 (Int.fdiv x3 (2 ^ 4))));
          ((0 ≤ (IntKind.wrap .i64 ((IntKind.wrap .i64 ((2 : Int) * x2)) + (1 : Int))) ∧ (IntKind.wrap .i64 ((IntKind.wrap .i64 ((2 : Int) * x2)) + (1 : Int))) < (4 : Int)) ∧
          ((∃ u, w6.cell? ((nb w2).add ((IntKind.wrap .i64 ((IntKind.wrap .i64 ((2 : Int) * x2)) + (1 : Int))).toNat * 1)) = some u) ∧ w6.frozen? ((nb w2).add ((IntKind.wrap .i64 ((IntKind.wrap .i64 ((2 : Int) * x2)) + (1 : Int))).toNat * 1)) = false ∧
          (let w7 := w6.setCell ((nb w2).add ((IntKind.wrap .i64 ((IntKind.wrap .i64 ((2 : Int) * x2)) + (1 : Int))).toNat * 1)) (.int .i64 (IntKind.wrap .i64 (bAnd .u8 x3 (15 : Int))));
          ((I (IntKind.wrap .i64 (x2 + (1 : Int)))).2 w7 ∧ (I (IntKind.wrap .i64 (x2 + (1 : Int)))).1 < (I x2).1))))))))))
          ((∃ x_01 : Int, ∃ x_11 : Int, ∃ x_21 : Int, ∃ x_31 : Int, cellsAt w5 (nb w2) 0 [(.int .i64 x_01), (.int .i64 x_11), (.int .i64 x_21), (.int .i64 x_31)] ∧
          (sxStore w5 (nb w1) 0 [(.int .i64 x_01), (.int .i64 x_11), (.int .i64 x_21), (.int .i64 x_31)] fun w8 =>
          (∃ r_01 : Int, ∃ r_11 : Int, ∃ r_21 : Int, ∃ r_31 : Int, cellsAt w8 (nb w1) 0 [(.int .i64 r_01), (.int .i64 r_11), (.int .i64 r_21), (.int .i64 r_31)] ∧
          R (.tuple #[(.agg #[.int .i64 r_01, .int .i64 r_11, .int .i64 r_21, .int .i64 r_31]), (.int .i64 (0 : Int))]) w8))))))))))))
    ((let x4 := (x == (8 : Int));
    (bsplit x4
      ((∃ x_a2 : Option Addr, ∃ x_l2 : Nat, ∃ x_c2 : Nat, w3.cell? ((nb w).add 1) = some (.slice x_a2 x_l2 x_c2) ∧
      (bsplit ((x_l2 : Int) != (1 : Int))
        ((∃ x_02 : Int, ∃ x_12 : Int, ∃ x_22 : Int, ∃ x_32 : Int, cellsAt w3 (nb w2) 0 [(.int .i64 x_02), (.int .i64 x_12), (.int .i64 x_22), (.int .i64 x_32)] ∧
        (sxStore w3 (nb w1) 0 [(.int .i64 x_02), (.int .i64 x_12), (.int .i64 x_22), (.int .i64 x_32)] fun w9 =>
        (∃ r_02 : Int, ∃ r_12 : Int, ∃ r_22 : Int, ∃ r_32 : Int, cellsAt w9 (nb w1) 0 [(.int .i64 r_02), (.int .i64 r_12), (.int .i64 r_22), (.int .i64 r_32)] ∧
        R (.tuple #[(.agg #[.int .i64 r_02, .int .i64 r_12, .int .i64 r_22, .int .i64 r_32]), (.int .i64 (2 : Int))]) w9))))
        ((∃ x_a3 : Option Addr, ∃ x_l3 : Nat, ∃ x_c3 : Nat, w3.cell? ((nb w).add 1) = some (.slice x_a3 x_l3 x_c3) ∧
        (∃ b1 : Addr, x_a3 = some b1 ∧ (0 ≤ (0 : Int) ∧ (0 : Int) < (x_l3 : Int)) ∧
        (∃ x5 : Int, w3.cell? (b1.add ((0 : Int).toNat * 1)) = some (.int .u8 x5) ∧
        (bsplit ((bAnd .u8 x5 (48 : Int)) != (0 : Int))
          ((∃ x_03 : Int, ∃ x_13 : Int, ∃ x_23 : Int, ∃ x_33 : Int, cellsAt w3 (nb w2) 0 [(.int .i64 x_03), (.int .i64 x_13), (.int .i64 x_23), (.int .i64 x_33)] ∧
          (sxStore w3 (nb w1) 0 [(.int .i64 x_03), (.int .i64 x_13), (.int .i64 x_23), (.int .i64 x_33)] fun w10 =>
          (∃ r_03 : Int, ∃ r_13 : Int, ∃ r_23 : Int, ∃ r_33 : Int, cellsAt w10 (nb w1) 0 [(.int .i64 r_03), (.int .i64 r_13), (.int .i64 r_23), (.int .i64 r_33)] ∧
          R (.tuple #[(.agg #[.int .i64 r_03, .int .i64 r_13, .int .i64 r_23, .int .i64 r_33]), (.int .i64 (4 : Int))]) w10))))
          ((let w11 := w3.drew;
          (∃ S : Nat → Prop,
          (∃ x_a4 : Option Addr, ∃ x_l4 : Nat, ∃ x_c4 : Nat, w11.cell? ((nb w).add 1) = some (.slice x_a4 x_l4 x_c4) ∧
          (∃ b2 : Addr, x_a4 = some b2 ∧ (0 ≤ (0 : Int) ∧ (0 : Int) < (x_l4 : Int)) ∧
          (∃ x6 : Int, w11.cell? (b2.add ((0 : Int).toNat * 1)) = some (.int .u8 x6) ∧
          (∃ x_a5 : Option Addr, ∃ x_l5 : Nat, ∃ x_c5 : Nat, w11.cell? ((nb w).add 1) = some (.slice x_a5 x_l5 x_c5) ∧
          (∃ b3 : Addr, x_a5 = some b3 ∧ (0 ≤ (0 : Int) ∧ (0 : Int) < (x_l5 : Int)) ∧
          (∃ x7 : Int, w11.cell? (b3.add ((0 : Int).toNat * 1)) = some (.int .u8 x7) ∧
          ((0 ≤ (Int.fdiv x6 (2 ^ 6)) ∧ (Int.fdiv x6 (2 ^ 6)) < (4 : Int)) ∧
          ((∃ u, w11.cell? ((nb w2).add ((Int.fdiv x6 (2 ^ 6)).toNat * 1)) = some u) ∧ w11.frozen? ((nb w2).add ((Int.fdiv x6 (2 ^ 6)).toNat * 1)) = false ∧
          (let w12 := w11.setCell ((nb w2).add ((Int.fdiv x6 (2 ^ 6)).toNat * 1)) (.int .i64 (IntKind.wrap .i64 (bAnd .u8 x7 (15 : Int))));
          (KeepsB S w11 w12 ∧ (∃ x_04 : Int, ∃ x_14 : Int, ∃ x_24 : Int, ∃ x_34 : Int, cellsAt w12 (nb w2) 0 [(.int .i64 x_04), (.int .i64 x_14), (.int .i64 x_24), (.int .i64 x_34)] ∧
          (sxStore w12 (nb w1) 0 [(.int .i64 x_04), (.int .i64 x_14), (.int .i64 x_24), (.int .i64 x_34)] fun w13 =>
          (∃ r_04 : Int, ∃ r_14 : Int, ∃ r_24 : Int, ∃ r_34 : Int, cellsAt w13 (nb w1) 0 [(.int .i64 r_04), (.int .i64 r_14), (.int .i64 r_24), (.int .i64 r_34)] ∧
          R (.tuple #[(.agg #[.int .i64 r_04, .int .i64 r_14, .int .i64 r_24, .int .i64 r_34]), (.int .i64 (0 : Int))]) w13))))))))))))))))))))))))
      ((∃ x_05 : Int, ∃ x_15 : Int, ∃ x_25 : Int, ∃ x_35 : Int, cellsAt w3 (nb w2) 0 [(.int .i64 x_05), (.int .i64 x_15), (.int .i64 x_25), (.int .i64 x_35)] ∧
      (sxStore w3 (nb w1) 0 [(.int .i64 x_05), (.int .i64 x_15), (.int .i64 x_25), (.int .i64 x_35)] fun w14 =>
      (∃ r_05 : Int, ∃ r_15 : Int, ∃ r_25 : Int, ∃ r_35 : Int, cellsAt w14 (nb w1) 0 [(.int .i64 r_05), (.int .i64 r_15), (.int .i64 r_25), (.int .i64 r_35)] ∧
      R (.tuple #[(.agg #[.int .i64 r_05, .int .i64 r_15, .int .i64 r_25, .int .i64 r_35]), (.int .i64 (7 : Int))]) w14)))))))))))))
theorem F_buffer_Decode_eq (s_0 : Int) (s_1_a : Option Addr) (s_1_l : Nat) (s_1_c : Nat) (w : World) (R : Value → World → Prop) : sxFn Try.prog TT h_buffer_Decode Try.f13 #[(.agg #[.int .i64 s_0, .slice s_1_a s_1_l s_1_c])] w R = F_buffer_Decode s_0 s_1_a s_1_l s_1_c w R := by kernel_rfl
theorem F_buffer_Decode_ok {R : Ending → World → Prop} (s_0 : Int) (s_1_a : Option Addr) (s_1_l : Nat) (s_1_c : Nat) (w : World) (h : F_buffer_Decode s_0 s_1_a s_1_l s_1_c w fun v w' => R (.returned v) w') : Calls Try.prog N_buffer_Decode #[(.agg #[.int .i64 s_0, .slice s_1_a s_1_l s_1_c])] w R :=
  calls_of (f := 13) follows_ok Try.func13 (Eq.mpr (F_buffer_Decode_eq s_0 s_1_a s_1_l s_1_c w _) h)

def h_ref26_Of : H := (.seq .reg (.cut [] [5, 10, 11, 12, 13, 14, 15, 16, 17, 18, 19, 20] (.seq .reg (.cond (.seq .reg .leaf) .leaf)) (.seq .reg (.seq (.seq .reg (.block (.loop [(7, .p (.int .i64))] [5, 7, 21, 22, 23, 24, 25, 26, 27, 28, 29, 30, 31, 32, 33, 34, 35, 36, 37, 38, 39, 40, 41, 42, 43, 44, 45, 46, 47, 48, 49, 50, 51, 52, 53, 54, 55, 56, 57, 58, 59, 60, 61, 62, 63, 64, 65] (.seq (.seq .reg (.cond .leaf .leaf)) (.seq (.block (.seq (.cut [(52, .p .bool)] [27, 28, 29, 30, 31, 32, 33, 34, 35, 36, 37, 38, 39, 40, 41, 42, 43, 44, 45, 46, 47, 48, 49, 50, 51, 52] .reg (.cond (.seq .reg .leaf) .leaf)) (.draw false (.one 0 .pre (.one 1 .pre (.one 2 .pre (.one 3 .pre (.one 4 .pre (.one 5 .pre (.one 6 .pre (.one 7 .pre (.one 8 .pre (.one 9 .pre (.one 10 .pre (.one 11 .pre (.one 12 .last .nil)))))))))))))))) .reg))))) (.seq .reg (.seq (.seq .reg (.block (.loop [(9, .p (.int .i64))] [9, 67, 68, 69, 70, 71, 72, 73, 74, 75, 76, 77] (.seq (.seq .reg (.cond .leaf .leaf)) (.seq (.block .reg) .reg))))) (.seq .reg .leaf)))))))
def F_ref26_Of (waiting_a : Option Addr) (waiting_l : Nat) (waiting_c : Nat) (groups_a : Option Addr) (groups_l : Nat) (groups_c : Nat) (w : World) (R : Value → World → Prop) : Prop :=
  (let w1 := w.alloc (.cells #[.int .i64 (0 : Int), .int .i64 (0 : Int), .int .i64 (0 : Int), .int .i64 (0 : Int)] Ty_api_Waiting);
  (∃ J : World → Prop,
  (∀ (_junk : Env)  (w4 : World), J w4 →
    (let w5 := w4.alloc (.cells #[.int .i64 (0 : Int), .int .i64 (0 : Int), .int .i64 (0 : Int), .int .i64 (0 : Int)] Ty_4_int);
    (∃ I : Int → Nat × (World → Prop), (I (0 : Int)).2 w5 ∧
    (∀ (_junk : Env) (i : Int) (w6 : World), (I i).2 w6 →
      (bsplit (decide (i < (waiting_l : Int)))
        ((∃ J1 : Bool → World → Prop,
        (∀ (_junk : Env) (x4 : Bool) (w7 : World), J1 x4 w7 →
          (bsplit x4
            ((sxStore w7 (nb w) 0 [(.int .i64 (0 : Int)), (.int .i64 (0 : Int)), (.int .i64 (0 : Int)), (.int .i64 (0 : Int))] fun w8 =>
            (∃ r_02 : Int, ∃ r_12 : Int, ∃ r_22 : Int, ∃ r_32 : Int, cellsAt w8 (nb w) 0 [(.int .i64 r_02), (.int .i64 r_12), (.int .i64 r_22), (.int .i64 r_32)] ∧
            R (.tuple #[(.agg #[.int .i64 r_02, .int .i64 r_12, .int .i64 r_22, .int .i64 r_32]), (.int .i64 (3 : Int))]) w8)))
            ((let w9 := w7.drew;
            (∃ b4 : Addr, groups_a = some b4 ∧ (0 ≤ i ∧ i < (groups_l : Int)) ∧
            (∃ x5 : Int, w9.cell? (b4.add (i.toNat * 1)) = some (.int .i64 x5) ∧
            ((0 ≤ x5 ∧ x5 < (4 : Int)) ∧
            (∃ x6 : Int, w9.cell? ((nb w4).add (x5.toNat * 1)) = some (.int .i64 x6) ∧
            (∃ b5 : Addr, waiting_a = some b5 ∧ (0 ≤ i ∧ i < (waiting_l : Int)) ∧
            (∃ x7 : Int, w9.cell? (b5.add (i.toNat * 1)) = some (.int .i64 x7) ∧
            ((0 ≤ x5 ∧ x5 < (4 : Int)) ∧
            ((∃ u, w9.cell? ((nb w4).add (x5.toNat * 1)) = some u) ∧ w9.frozen? ((nb w4).add (x5.toNat * 1)) = false ∧
            (let w10 := w9.setCell ((nb w4).add (x5.toNat * 1)) (.int .i64 (IntKind.wrap .i64 (x6 + x7)));
            (let i1 := (IntKind.wrap .i64 (i + (1 : Int)));
            ((I i1).2 w10 ∧ (I i1).1 < (I i).1))))))))))))))) ∧
        (∃ b : Addr, groups_a = some b ∧ (0 ≤ i ∧ i < (groups_l : Int)) ∧
        (∃ x : Int, w6.cell? (b.add (i.toNat * 1)) = some (.int .i64 x) ∧
        (bsplit (decide (x < (0 : Int)))
          (J1 true w6)
          ((∃ b1 : Addr, groups_a = some b1 ∧ (0 ≤ i ∧ i < (groups_l : Int)) ∧
          (∃ x1 : Int, w6.cell? (b1.add (i.toNat * 1)) = some (.int .i64 x1) ∧
          (bsplit (decide (x1 > (3 : Int)))
            (J1 true w6)
            ((∃ b2 : Addr, waiting_a = some b2 ∧ (0 ≤ i ∧ i < (waiting_l : Int)) ∧
            (∃ x2 : Int, w6.cell? (b2.add (i.toNat * 1)) = some (.int .i64 x2) ∧
            (bsplit (decide (x2 < (0 : Int)))
              (J1 true w6)
              ((∃ b3 : Addr, waiting_a = some b3 ∧ (0 ≤ i ∧ i < (waiting_l : Int)) ∧
              (∃ x3 : Int, w6.cell? (b3.add (i.toNat * 1)) = some (.int .i64 x3) ∧
              J1 (decide (x3 > (1048576 : Int))) w6))))))))))))))))
        ((let w11 := w6.alloc (.cells #[.int .i64 (0 : Int), .int .i64 (0 : Int), .int .i64 (0 : Int), .int .i64 (0 : Int)] Ty_api_Waiting);
        (sxStore w11 (nb w6) 0 [(.int .i64 (0 : Int)), (.int .i64 (0 : Int)), (.int .i64 (0 : Int)), (.int .i64 (0 : Int))] fun w12 =>
        (∃ I1 : Int → Nat × (World → Prop), (I1 (0 : Int)).2 w12 ∧
        (∀ (_junk : Env) (i2 : Int) (w13 : World), (I1 i2).2 w13 →
          (bsplit (decide (i2 < (4 : Int)))
            (((0 ≤ i2 ∧ i2 < (4 : Int)) ∧
            (∃ x8 : Int, w13.cell? ((nb w4).add (i2.toNat * 1)) = some (.int .i64 x8) ∧
            (Calls Try.prog N_ref26_Level #[(.int .i64 x8)] w13 fun e_ w14 =>
            ∃ r : Int, e_ = .returned (.int .i64 r) ∧
            ((0 ≤ i2 ∧ i2 < (4 : Int)) ∧
            ((∃ u, w14.cell? ((nb w6).add (i2.toNat * 1)) = some u) ∧ w14.frozen? ((nb w6).add (i2.toNat * 1)) = false ∧
            (let w15 := w14.setCell ((nb w6).add (i2.toNat * 1)) (.int .i64 r);
            (let i3 := (IntKind.wrap .i64 (i2 + (1 : Int)));
            ((I1 i3).2 w15 ∧ (I1 i3).1 < (I1 i2).1)))))))))
            ((∃ x_0 : Int, ∃ x_1 : Int, ∃ x_2 : Int, ∃ x_3 : Int, cellsAt w13 (nb w6) 0 [(.int .i64 x_0), (.int .i64 x_1), (.int .i64 x_2), (.int .i64 x_3)] ∧
            (sxStore w13 (nb w) 0 [(.int .i64 x_0), (.int .i64 x_1), (.int .i64 x_2), (.int .i64 x_3)] fun w16 =>
            (∃ r_03 : Int, ∃ r_13 : Int, ∃ r_23 : Int, ∃ r_33 : Int, cellsAt w16 (nb w) 0 [(.int .i64 r_03), (.int .i64 r_13), (.int .i64 r_23), (.int .i64 r_33)] ∧
            R (.tuple #[(.agg #[.int .i64 r_03, .int .i64 r_13, .int .i64 r_23, .int .i64 r_33]), (.int .i64 (0 : Int))]) w16))))))))))))))) ∧
  (bsplit (decide ((waiting_l : Int) > (8 : Int)))
    ((sxStore w1 (nb w) 0 [(.int .i64 (0 : Int)), (.int .i64 (0 : Int)), (.int .i64 (0 : Int)), (.int .i64 (0 : Int))] fun w2 =>
      (∃ r_0 : Int, ∃ r_1 : Int, ∃ r_2 : Int, ∃ r_3 : Int, cellsAt w2 (nb w) 0 [(.int .i64 r_0), (.int .i64 r_1), (.int .i64 r_2), (.int .i64 r_3)] ∧
      R (.tuple #[(.agg #[.int .i64 r_0, .int .i64 r_1, .int .i64 r_2, .int .i64 r_3]), (.int .i64 (2 : Int))]) w2)))
    ((bsplit ((waiting_l : Int) != (groups_l : Int))
      ((sxStore w1 (nb w) 0 [(.int .i64 (0 : Int)), (.int .i64 (0 : Int)), (.int .i64 (0 : Int)), (.int .i64 (0 : Int))] fun w3 =>
      (∃ r_01 : Int, ∃ r_11 : Int, ∃ r_21 : Int, ∃ r_31 : Int, cellsAt w3 (nb w) 0 [(.int .i64 r_01), (.int .i64 r_11), (.int .i64 r_21), (.int .i64 r_31)] ∧
      R (.tuple #[(.agg #[.int .i64 r_01, .int .i64 r_11, .int .i64 r_21, .int .i64 r_31]), (.int .i64 (2 : Int))]) w3)))
      (J w1))))))
theorem F_ref26_Of_eq (waiting_a : Option Addr) (waiting_l : Nat) (waiting_c : Nat) (groups_a : Option Addr) (groups_l : Nat) (groups_c : Nat) (w : World) (R : Value → World → Prop) : sxFn Try.prog TT h_ref26_Of Try.f14 #[(.slice waiting_a waiting_l waiting_c), (.slice groups_a groups_l groups_c)] w R = F_ref26_Of waiting_a waiting_l waiting_c groups_a groups_l groups_c w R := by kernel_rfl
theorem F_ref26_Of_ok {R : Ending → World → Prop} (waiting_a : Option Addr) (waiting_l : Nat) (waiting_c : Nat) (groups_a : Option Addr) (groups_l : Nat) (groups_c : Nat) (w : World) (h : F_ref26_Of waiting_a waiting_l waiting_c groups_a groups_l groups_c w fun v w' => R (.returned v) w') : Calls Try.prog N_ref26_Of #[(.slice waiting_a waiting_l waiting_c), (.slice groups_a groups_l groups_c)] w R :=
  calls_of (f := 14) follows_ok Try.func14 (Eq.mpr (F_ref26_Of_eq waiting_a waiting_l waiting_c groups_a groups_l groups_c w _) h)

def h_ref26_Encode : H := (.seq .reg (.seq .reg (.seq (.seq .reg (.block (.loop [(6, .p (.int .i64)), (7, .p (.int .i64))] [5, 6, 7, 9, 10, 11, 12, 13, 14, 15, 16, 17, 18, 19, 20, 21, 22, 23, 24, 25, 26, 27, 28, 29, 30, 31, 32, 33, 34, 35] (.seq (.seq .reg (.cond .leaf .leaf)) (.seq (.block (.cut [] [5, 13, 14, 15, 16, 17, 18, 19, 20, 21, 22, 23, 24, 25] (.seq .reg (.cond (.seq .reg .leaf) .leaf)) (.seq (.draw false (.one 0 .stable (.one 1 .stable (.one 2 .stable (.one 3 .stable (.one 4 .stable (.one 5 .stable (.one 6 .stable (.one 7 .stable (.one 8 .stable .nil)))))))))) (.cond .reg .leaf)))) .reg))))) (.seq .reg (.seq (.block (.seq .reg (.cond (.seq .reg .leaf) (.seq .reg (.cond (.seq .reg .leaf) .leaf))))) (.seq .reg .leaf))))))
def F_ref26_Encode (w_0 : Int) (w_1 : Int) (w_2 : Int) (w_3 : Int) (room : Int) (w : World) (R : Value → World → Prop) : Prop :=
  (let w1 := w.alloc (.cells #[(.int .i64 w_0), (.int .i64 w_1), (.int .i64 w_2), (.int .i64 w_3)] Ty_api_Waiting);
  (let w2 := w1.alloc (.cells #[.int .i64 (0 : Int), .slice none 0 0] Ty_api_Section);
  (∃ I : Int → Int → Nat × (World → Prop), (I (0 : Int) (0 : Int)).2 w2 ∧
  (∀ (_junk : Env) (g : Int) (i : Int) (w3 : World), (I g i).2 w3 →
    (bsplit (decide (i < (4 : Int)))
      ((∃ J : World → Prop,
      (∀ (_junk : Env)  (w6 : World), J w6 →
        (let w7 := w6.drew;
        ((0 ≤ i ∧ i < (4 : Int)) ∧
        (∃ x2 : Int, w7.cell? ((nb w).add (i.toNat * 1)) = some (.int .i64 x2) ∧
        ((0 ≤ g ∧ g < (4 : Int)) ∧
        (∃ x3 : Int, w7.cell? ((nb w).add (g.toNat * 1)) = some (.int .i64 x3) ∧
        (bsplit (decide (x2 > x3))
          ((let i1 := (IntKind.wrap .i64 (i + (1 : Int)));
          ((I i i1).2 w7 ∧ (I i i1).1 < (I g i).1)))
          ((let i2 := (IntKind.wrap .i64 (i + (1 : Int)));
          ((I g i2).2 w7 ∧ (I g i2).1 < (I g i).1)))))))))) ∧
      ((0 ≤ i ∧ i < (4 : Int)) ∧
      (∃ x : Int, w3.cell? ((nb w).add (i.toNat * 1)) = some (.int .i64 x) ∧
      (bsplit (decide (x < (0 : Int)))
        ((sxStore w3 (nb w1) 0 [(.int .i64 (0 : Int)), (.slice none 0 0)] fun w4 =>
          (∃ r_0 : Int, ∃ r_1_a : Option Addr, ∃ r_1_l : Nat, ∃ r_1_c : Nat, cellsAt w4 (nb w1) 0 [(.int .i64 r_0), (.slice r_1_a r_1_l r_1_c)] ∧
          R (.tuple #[(.agg #[.int .i64 r_0, .slice r_1_a r_1_l r_1_c]), (.int .i64 (1 : Int))]) w4)))
        (((0 ≤ i ∧ i < (4 : Int)) ∧
        (∃ x1 : Int, w3.cell? ((nb w).add (i.toNat * 1)) = some (.int .i64 x1) ∧
        (bsplit (decide (x1 > (15 : Int)))
          ((sxStore w3 (nb w1) 0 [(.int .i64 (0 : Int)), (.slice none 0 0)] fun w5 =>
          (∃ r_01 : Int, ∃ r_1_a1 : Option Addr, ∃ r_1_l1 : Nat, ∃ r_1_c1 : Nat, cellsAt w5 (nb w1) 0 [(.int .i64 r_01), (.slice r_1_a1 r_1_l1 r_1_c1)] ∧
          R (.tuple #[(.agg #[.int .i64 r_01, .slice r_1_a1 r_1_l1 r_1_c1]), (.int .i64 (1 : Int))]) w5)))
          (J w3))))))))))
      ((∃ x_0 : Int, ∃ x_1 : Int, ∃ x_2 : Int, ∃ x_3 : Int, cellsAt w3 (nb w) 0 [(.int .i64 x_0), (.int .i64 x_1), (.int .i64 x_2), (.int .i64 x_3)] ∧
      (let w8 := w3.alloc (.cells #[.int .i64 (0 : Int), .int .i64 (0 : Int), .int .i64 (0 : Int), .int .i64 (0 : Int)] Ty_4_int);
      (sxStore w8 (nb w3) 0 [(.int .i64 x_0), (.int .i64 x_1), (.int .i64 x_2), (.int .i64 x_3)] fun w9 =>
      (let x4 := (decide (room ≥ (4 : Int)));
      (bsplit x4
        ((∃ x5 : Int, w9.cell? (nb w3) = some (.int .i64 x5) ∧
        (∃ x6 : Int, w9.cell? ((nb w3).add 1) = some (.int .i64 x6) ∧
        (∃ x7 : Int, w9.cell? ((nb w3).add 2) = some (.int .i64 x7) ∧
        (∃ x8 : Int, w9.cell? ((nb w3).add 3) = some (.int .i64 x8) ∧
        (let w10 := w9.alloc (.cells #[(.int .u8 (IntKind.wrap .u8 (IntKind.wrap .i64 ((IntKind.wrap .i64 ((16 : Int) * x5)) + x6)))), (.int .u8 (IntKind.wrap .u8 (IntKind.wrap .i64 ((IntKind.wrap .i64 ((16 : Int) * x7)) + x8))))] Ty_uint8);
        (sxStore w10 (nb w1) 0 [(.int .i64 (9 : Int)), (.slice (some (nb w9)) 2 2)] fun w11 =>
        (∃ r_02 : Int, ∃ r_1_a2 : Option Addr, ∃ r_1_l2 : Nat, ∃ r_1_c2 : Nat, cellsAt w11 (nb w1) 0 [(.int .i64 r_02), (.slice r_1_a2 r_1_l2 r_1_c2)] ∧
        R (.tuple #[(.agg #[.int .i64 r_02, .slice r_1_a2 r_1_l2 r_1_c2]), (.int .i64 (0 : Int))]) w11))))))))
        ((let x9 := (room == (3 : Int));
        (bsplit x9
          (((0 ≤ g ∧ g < (4 : Int)) ∧
          (∃ x10 : Int, w9.cell? ((nb w3).add (g.toNat * 1)) = some (.int .i64 x10) ∧
          (let w12 := w9.alloc (.cells #[(.int .u8 (IntKind.wrap .u8 (IntKind.wrap .i64 ((IntKind.wrap .i64 ((64 : Int) * g)) + x10))))] Ty_uint8);
          (sxStore w12 (nb w1) 0 [(.int .i64 (8 : Int)), (.slice (some (nb w9)) 1 1)] fun w13 =>
          (∃ r_03 : Int, ∃ r_1_a3 : Option Addr, ∃ r_1_l3 : Nat, ∃ r_1_c3 : Nat, cellsAt w13 (nb w1) 0 [(.int .i64 r_03), (.slice r_1_a3 r_1_l3 r_1_c3)] ∧
          R (.tuple #[(.agg #[.int .i64 r_03, .slice r_1_a3 r_1_l3 r_1_c3]), (.int .i64 (0 : Int))]) w13))))))
          ((sxStore w9 (nb w1) 0 [(.int .i64 (0 : Int)), (.slice none 0 0)] fun w14 =>
          (∃ r_04 : Int, ∃ r_1_a4 : Option Addr, ∃ r_1_l4 : Nat, ∃ r_1_c4 : Nat, cellsAt w14 (nb w1) 0 [(.int .i64 r_04), (.slice r_1_a4 r_1_l4 r_1_c4)] ∧
          R (.tuple #[(.agg #[.int .i64 r_04, .slice r_1_a4 r_1_l4 r_1_c4]), (.int .i64 (15 : Int))]) w14)))))))))))))))))
theorem F_ref26_Encode_eq (w_0 : Int) (w_1 : Int) (w_2 : Int) (w_3 : Int) (room : Int) (w : World) (R : Value → World → Prop) : sxFn Try.prog TT h_ref26_Encode Try.f15 #[(.agg #[.int .i64 w_0, .int .i64 w_1, .int .i64 w_2, .int .i64 w_3]), (.int .i64 room)] w R = F_ref26_Encode w_0 w_1 w_2 w_3 room w R := by kernel_rfl
theorem F_ref26_Encode_ok {R : Ending → World → Prop} (w_0 : Int) (w_1 : Int) (w_2 : Int) (w_3 : Int) (room : Int) (w : World) (h : F_ref26_Encode w_0 w_1 w_2 w_3 room w fun v w' => R (.returned v) w') : Calls Try.prog N_ref26_Encode #[(.agg #[.int .i64 w_0, .int .i64 w_1, .int .i64 w_2, .int .i64 w_3]), (.int .i64 room)] w R :=
  calls_of (f := 15) follows_ok Try.func15 (Eq.mpr (F_ref26_Encode_eq w_0 w_1 w_2 w_3 room w _) h)

def h_ref26_Decode : H := (.seq .reg (.seq .reg (.seq (.block (.cut [(32, .p .bool)] [32, 33, 34, 35, 36, 37, 38, 39, 40] .reg (.cond (.seq .reg .leaf) (.cut [(42, .p .bool)] [42, 43, 44, 45, 46, 47, 48, 49, 50, 51, 52, 53, 54, 55, 56, 57, 58, 59, 60] (.seq .reg (.cond .leaf .reg)) (.cond (.seq .reg .leaf) (.cut [(62, .p .bool)] [62, 63, 64, 65, 66, 67, 68, 69, 70, 71, 72, 73] .reg (.cond (.seq .reg .leaf) (.seq .reg (.cond (.draw true (.one 0 .pre (.one 1 .pre (.one 2 .pre (.one 3 .pre (.one 4 .pre (.one 5 .pre (.one 6 .pre (.one 7 .pre (.one 8 .pre (.one 9 .pre (.one 10 .pre (.one 11 .stable (.one 12 .pre (.one 13 .keep .nil))))))))))))))) (.draw true (.one 0 .stable (.one 1 .stable (.one 2 .stable (.one 3 .stable (.one 4 .stable (.one 5 .pre (.one 6 .stable (.one 7 .stable (.one 8 .stable (.one 9 .stable (.one 10 .stable (.one 11 .pre (.one 12 .stable (.one 13 .stable (.one 14 .stable (.one 15 .stable (.one 16 .stable (.one 17 .pre (.one 18 .stable (.one 19 .stable (.one 20 .stable (.one 21 .stable (.one 22 .stable (.one 23 .pre (.one 24 .keep (.one 25 .stable (.one 26 .last .nil))))))))))))))))))))))))))))))))))))) (.seq .reg .leaf))))
def F_ref26_Decode (s_0 : Int) (s_1_a : Option Addr) (s_1_l : Nat) (s_1_c : Nat) (w : World) (R : Value → World → Prop) : Prop :=
  (let w1 := w.alloc (.cells #[(.int .i64 s_0), (.slice s_1_a s_1_l s_1_c)] Ty_api_Section);
  (let w2 := w1.alloc (.cells #[.int .i64 (0 : Int), .int .i64 (0 : Int), .int .i64 (0 : Int), .int .i64 (0 : Int)] Ty_api_Waiting);
  (let w3 := w2.alloc (.cells #[.int .i64 (0 : Int), .int .i64 (0 : Int), .int .i64 (0 : Int), .int .i64 (0 : Int)] Ty_api_Waiting);
  (sxStore w3 (nb w2) 0 [(.int .i64 (0 : Int)), (.int .i64 (0 : Int)), (.int .i64 (0 : Int)), (.int .i64 (0 : Int))] fun w4 =>
  (∃ J : Bool → World → Prop,
  (∀ (_junk : Env) (x3 : Bool) (w5 : World), J x3 w5 →
    (bsplit x3
      ((∃ x_0 : Int, ∃ x_1 : Int, ∃ x_2 : Int, ∃ x_3 : Int, cellsAt w5 (nb w2) 0 [(.int .i64 x_0), (.int .i64 x_1), (.int .i64 x_2), (.int .i64 x_3)] ∧
      (sxStore w5 (nb w1) 0 [(.int .i64 x_0), (.int .i64 x_1), (.int .i64 x_2), (.int .i64 x_3)] fun w6 =>
      (∃ r_0 : Int, ∃ r_1 : Int, ∃ r_2 : Int, ∃ r_3 : Int, cellsAt w6 (nb w1) 0 [(.int .i64 r_0), (.int .i64 r_1), (.int .i64 r_2), (.int .i64 r_3)] ∧
      R (.tuple #[(.agg #[.int .i64 r_0, .int .i64 r_1, .int .i64 r_2, .int .i64 r_3]), (.int .i64 (7 : Int))]) w6))))
      ((∃ J1 : Bool → World → Prop,
      (∀ (_junk : Env) (x10 : Bool) (w7 : World), J1 x10 w7 →
        (bsplit x10
          ((∃ x_01 : Int, ∃ x_11 : Int, ∃ x_21 : Int, ∃ x_31 : Int, cellsAt w7 (nb w2) 0 [(.int .i64 x_01), (.int .i64 x_11), (.int .i64 x_21), (.int .i64 x_31)] ∧
          (sxStore w7 (nb w1) 0 [(.int .i64 x_01), (.int .i64 x_11), (.int .i64 x_21), (.int .i64 x_31)] fun w8 =>
          (∃ r_01 : Int, ∃ r_11 : Int, ∃ r_21 : Int, ∃ r_31 : Int, cellsAt w8 (nb w1) 0 [(.int .i64 r_01), (.int .i64 r_11), (.int .i64 r_21), (.int .i64 r_31)] ∧
          R (.tuple #[(.agg #[.int .i64 r_01, .int .i64 r_11, .int .i64 r_21, .int .i64 r_31]), (.int .i64 (2 : Int))]) w8))))
          ((∃ J2 : Bool → World → Prop,
          (∀ (_junk : Env) (x14 : Bool) (w9 : World), J2 x14 w9 →
            (bsplit x14
              ((∃ x_02 : Int, ∃ x_12 : Int, ∃ x_22 : Int, ∃ x_32 : Int, cellsAt w9 (nb w2) 0 [(.int .i64 x_02), (.int .i64 x_12), (.int .i64 x_22), (.int .i64 x_32)] ∧
              (sxStore w9 (nb w1) 0 [(.int .i64 x_02), (.int .i64 x_12), (.int .i64 x_22), (.int .i64 x_32)] fun w10 =>
              (∃ r_02 : Int, ∃ r_12 : Int, ∃ r_22 : Int, ∃ r_32 : Int, cellsAt w10 (nb w1) 0 [(.int .i64 r_02), (.int .i64 r_12), (.int .i64 r_22), (.int .i64 r_32)] ∧
              R (.tuple #[(.agg #[.int .i64 r_02, .int .i64 r_12, .int .i64 r_22, .int .i64 r_32]), (.int .i64 (4 : Int))]) w10))))
              ((∃ x15 : Int, w9.cell? (nb w) = some (.int .i64 x15) ∧
              (let x16 := (x15 == (8 : Int));
              (bsplit x16
                ((let w11 := w9.drew;
                (∃ S : Nat → Prop,
                (∃ x_a4 : Option Addr, ∃ x_l4 : Nat, ∃ x_c4 : Nat, w11.cell? ((nb w).add 1) = some (.slice x_a4 x_l4 x_c4) ∧
                (∃ b1 : Addr, x_a4 = some b1 ∧ (0 ≤ (0 : Int) ∧ (0 : Int) < (x_l4 : Int)) ∧
                (∃ x17 : Int, w11.cell? (b1.add ((0 : Int).toNat * 1)) = some (.int .u8 x17) ∧
                (∃ x_a5 : Option Addr, ∃ x_l5 : Nat, ∃ x_c5 : Nat, w11.cell? ((nb w).add 1) = some (.slice x_a5 x_l5 x_c5) ∧
                (∃ b2 : Addr, x_a5 = some b2 ∧ (0 ≤ (0 : Int) ∧ (0 : Int) < (x_l5 : Int)) ∧
                (∃ x18 : Int, w11.cell? (b2.add ((0 : Int).toNat * 1)) = some (.int .u8 x18) ∧
                ((0 ≤ (Int.fdiv x17 (2 ^ 6)) ∧ (Int.fdiv x17 (2 ^ 6)) < (4 : Int)) ∧
                ((∃ u, w11.cell? ((nb w2).add ((Int.fdiv x17 (2 ^ 6)).toNat * 1)) = some u) ∧ w11.frozen? ((nb w2).add ((Int.fdiv x17 (2 ^ 6)).toNat * 1)) = false ∧
                (let w12 := w11.setCell ((nb w2).add ((Int.fdiv x17 (2 ^ 6)).toNat * 1)) (.int .i64 (IntKind.wrap .i64 (bAnd .u8 x18 (15 : Int))));
                (KeepsB S w11 w12 ∧ (∃ x_03 : Int, ∃ x_13 : Int, ∃ x_23 : Int, ∃ x_33 : Int, cellsAt w12 (nb w2) 0 [(.int .i64 x_03), (.int .i64 x_13), (.int .i64 x_23), (.int .i64 x_33)] ∧
                (sxStore w12 (nb w1) 0 [(.int .i64 x_03), (.int .i64 x_13), (.int .i64 x_23), (.int .i64 x_33)] fun w13 =>
                (∃ r_03 : Int, ∃ r_13 : Int, ∃ r_23 : Int, ∃ r_33 : Int, cellsAt w13 (nb w1) 0 [(.int .i64 r_03), (.int .i64 r_13), (.int .i64 r_23), (.int .i64 r_33)] ∧
                R (.tuple #[(.agg #[.int .i64 r_03, .int .i64 r_13, .int .i64 r_23, .int .i64 r_33]), (.int .i64 (0 : Int))]) w13))))))))))))))))
                ((let w14 := w9.drew;
                (∃ S1 : Nat → Prop,
                (S1 ((nb w).add 1).block ∧
                (∃ x_a6 : Option Addr, ∃ x_l6 : Nat, ∃ x_c6 : Nat, w14.cell? ((nb w).add 1) = some (.slice x_a6 x_l6 x_c6) ∧
                (∃ b3 : Addr, x_a6 = some b3 ∧ (0 ≤ (0 : Int) ∧ (0 : Int) < (x_l6 : Int)) ∧
                (S1 (b3.add ((0 : Int).toNat * 1)).block ∧
                (∃ x19 : Int, w14.cell? (b3.add ((0 : Int).toNat * 1)) = some (.int .u8 x19) ∧
                (S1 ((nb w).add 1).block ∧
                (∃ x_a7 : Option Addr, ∃ x_l7 : Nat, ∃ x_c7 : Nat, w14.cell? ((nb w).add 1) = some (.slice x_a7 x_l7 x_c7) ∧
                (∃ b4 : Addr, x_a7 = some b4 ∧ (0 ≤ (0 : Int) ∧ (0 : Int) < (x_l7 : Int)) ∧
                (S1 (b4.add ((0 : Int).toNat * 1)).block ∧
                (∃ x20 : Int, w14.cell? (b4.add ((0 : Int).toNat * 1)) = some (.int .u8 x20) ∧
                (S1 ((nb w).add 1).block ∧
                (∃ x_a8 : Option Addr, ∃ x_l8 : Nat, ∃ x_c8 : Nat, w14.cell? ((nb w).add 1) = some (.slice x_a8 x_l8 x_c8) ∧
                (∃ b5 : Addr, x_a8 = some b5 ∧ (0 ≤ (1 : Int) ∧ (1 : Int) < (x_l8 : Int)) ∧
                (S1 (b5.add ((1 : Int).toNat * 1)).block ∧
                (∃ x21 : Int, w14.cell? (b5.add ((1 : Int).toNat * 1)) = some (.int .u8 x21) ∧
                (S1 ((nb w).add 1).block ∧
                (∃ x_a9 : Option Addr, ∃ x_l9 : Nat, ∃ x_c9 : Nat, w14.cell? ((nb w).add 1) = some (.slice x_a9 x_l9 x_c9) ∧
                (∃ b6 : Addr, x_a9 = some b6 ∧ (0 ≤ (1 : Int) ∧ (1 : Int) < (x_l9 : Int)) ∧
                (S1 (b6.add ((1 : Int).toNat * 1)).block ∧
                (∃ x22 : Int, w14.cell? (b6.add ((1 : Int).toNat * 1)) = some (.int .u8 x22) ∧
                (KeepsB S1 w14 w14 ∧ (sxStore w14 (nb w2) 0 [(.int .i64 (IntKind.wrap .i64 (Int.fdiv x19 (2 ^ 4)))), (.int .i64 (IntKind.wrap .i64 (bAnd .u8 x20 (15 : Int)))), (.int .i64 (IntKind.wrap .i64 (Int.fdiv x21 (2 ^ 4)))), (.int .i64 (IntKind.wrap .i64 (bAnd .u8 x22 (15 : Int))))] fun w15 =>
                (∃ x_04 : Int, ∃ x_14 : Int, ∃ x_24 : Int, ∃ x_34 : Int, cellsAt w15 (nb w2) 0 [(.int .i64 x_04), (.int .i64 x_14), (.int .i64 x_24), (.int .i64 x_34)] ∧
                (sxStore w15 (nb w1) 0 [(.int .i64 x_04), (.int .i64 x_14), (.int .i64 x_24), (.int .i64 x_34)] fun w16 =>
                (∃ r_04 : Int, ∃ r_14 : Int, ∃ r_24 : Int, ∃ r_34 : Int, cellsAt w16 (nb w1) 0 [(.int .i64 r_04), (.int .i64 r_14), (.int .i64 r_24), (.int .i64 r_34)] ∧
                R (.tuple #[(.agg #[.int .i64 r_04, .int .i64 r_14, .int .i64 r_24, .int .i64 r_34]), (.int .i64 (0 : Int))]) w16)))))))))))))))))))))))))))))))))) ∧
          (∃ x11 : Int, w7.cell? (nb w) = some (.int .i64 x11) ∧
          (bsplit (x11 == (8 : Int))
            ((∃ x_a3 : Option Addr, ∃ x_l3 : Nat, ∃ x_c3 : Nat, w7.cell? ((nb w).add 1) = some (.slice x_a3 x_l3 x_c3) ∧
            (∃ b : Addr, x_a3 = some b ∧ (0 ≤ (0 : Int) ∧ (0 : Int) < (x_l3 : Int)) ∧
            (∃ x12 : Int, w7.cell? (b.add ((0 : Int).toNat * 1)) = some (.int .u8 x12) ∧
            (let x13 := ((bAnd .u8 x12 (48 : Int)) != (0 : Int));
            J2 x13 w7)))))
            (J2 false w7))))))) ∧
      (∃ x4 : Int, w5.cell? (nb w) = some (.int .i64 x4) ∧
      (bsplit (x4 == (9 : Int))
        ((∃ x_a : Option Addr, ∃ x_l : Nat, ∃ x_c : Nat, w5.cell? ((nb w).add 1) = some (.slice x_a x_l x_c) ∧
        (let x5 := ((x_l : Int) != (2 : Int));
        (bsplit x5
          (J1 x5 w5)
          ((∃ x6 : Int, w5.cell? (nb w) = some (.int .i64 x6) ∧
          (bsplit (x6 == (8 : Int))
            ((∃ x_a1 : Option Addr, ∃ x_l1 : Nat, ∃ x_c1 : Nat, w5.cell? ((nb w).add 1) = some (.slice x_a1 x_l1 x_c1) ∧
            (let x7 := ((x_l1 : Int) != (1 : Int));
            J1 x7 w5)))
            (J1 false w5))))))))
        ((∃ x8 : Int, w5.cell? (nb w) = some (.int .i64 x8) ∧
          (bsplit (x8 == (8 : Int))
            ((∃ x_a2 : Option Addr, ∃ x_l2 : Nat, ∃ x_c2 : Nat, w5.cell? ((nb w).add 1) = some (.slice x_a2 x_l2 x_c2) ∧
            (let x9 := ((x_l2 : Int) != (1 : Int));
            J1 x9 w5)))
            (J1 false w5)))))))))) ∧
  (∃ x : Int, w4.cell? (nb w) = some (.int .i64 x) ∧
  (bsplit (x != (9 : Int))
    ((∃ x1 : Int, w4.cell? (nb w) = some (.int .i64 x1) ∧
    (let x2 := (x1 != (8 : Int));
    J x2 w4)))
    (J false w4))))))))
theorem F_ref26_Decode_eq (s_0 : Int) (s_1_a : Option Addr) (s_1_l : Nat) (s_1_c : Nat) (w : World) (R : Value → World → Prop) : sxFn Try.prog TT h_ref26_Decode Try.f16 #[(.agg #[.int .i64 s_0, .slice s_1_a s_1_l s_1_c])] w R = F_ref26_Decode s_0 s_1_a s_1_l s_1_c w R := by kernel_rfl
theorem F_ref26_Decode_ok {R : Ending → World → Prop} (s_0 : Int) (s_1_a : Option Addr) (s_1_l : Nat) (s_1_c : Nat) (w : World) (h : F_ref26_Decode s_0 s_1_a s_1_l s_1_c w fun v w' => R (.returned v) w') : Calls Try.prog N_ref26_Decode #[(.agg #[.int .i64 s_0, .slice s_1_a s_1_l s_1_c])] w R :=
  calls_of (f := 16) follows_ok Try.func16 (Eq.mpr (F_ref26_Decode_eq s_0 s_1_a s_1_l s_1_c w _) h)

def h_law26_same : H := (.seq .reg (.seq .reg .leaf))
def F_law26_same (a_0 : Int) (a_1_a : Option Addr) (a_1_l : Nat) (a_1_c : Nat) (b_0 : Int) (b_1_a : Option Addr) (b_1_l : Nat) (b_1_c : Nat) (w : World) (R : Value → World → Prop) : Prop :=
  (let w1 := w.alloc (.cells #[(.int .i64 a_0), (.slice a_1_a a_1_l a_1_c)] Ty_api_Section);
  (let w2 := w1.alloc (.cells #[(.int .i64 b_0), (.slice b_1_a b_1_l b_1_c)] Ty_api_Section);
  (∃ x : Int, w2.cell? (nb w) = some (.int .i64 x) ∧
  (∃ x1 : Int, w2.cell? (nb w1) = some (.int .i64 x1) ∧
  (bsplit (x == x1)
    ((∃ x_a : Option Addr, ∃ x_l : Nat, ∃ x_c : Nat, w2.cell? ((nb w).add 1) = some (.slice x_a x_l x_c) ∧
    (∃ x_a1 : Option Addr, ∃ x_l1 : Nat, ∃ x_c1 : Nat, w2.cell? ((nb w1).add 1) = some (.slice x_a1 x_l1 x_c1) ∧
    (Calls Try.prog N_ref24_SameBytes #[(.slice x_a x_l x_c), (.slice x_a1 x_l1 x_c1)] w2 fun e_ w3 =>
    ∃ r : Bool, e_ = .returned (.bool r) ∧
    R (.bool r) w3))))
    (R (.bool false) w2))))))
theorem F_law26_same_eq (a_0 : Int) (a_1_a : Option Addr) (a_1_l : Nat) (a_1_c : Nat) (b_0 : Int) (b_1_a : Option Addr) (b_1_l : Nat) (b_1_c : Nat) (w : World) (R : Value → World → Prop) : sxFn Try.prog TT h_law26_same Try.f17 #[(.agg #[.int .i64 a_0, .slice a_1_a a_1_l a_1_c]), (.agg #[.int .i64 b_0, .slice b_1_a b_1_l b_1_c])] w R = F_law26_same a_0 a_1_a a_1_l a_1_c b_0 b_1_a b_1_l b_1_c w R := by kernel_rfl
theorem F_law26_same_ok {R : Ending → World → Prop} (a_0 : Int) (a_1_a : Option Addr) (a_1_l : Nat) (a_1_c : Nat) (b_0 : Int) (b_1_a : Option Addr) (b_1_l : Nat) (b_1_c : Nat) (w : World) (h : F_law26_same a_0 a_1_a a_1_l a_1_c b_0 b_1_a b_1_l b_1_c w fun v w' => R (.returned v) w') : Calls Try.prog N_law26_same #[(.agg #[.int .i64 a_0, .slice a_1_a a_1_l a_1_c]), (.agg #[.int .i64 b_0, .slice b_1_a b_1_l b_1_c])] w R :=
  calls_of (f := 17) follows_ok Try.func17 (Eq.mpr (F_law26_same_eq a_0 a_1_a a_1_l a_1_c b_0 b_1_a b_1_l b_1_c w _) h)

def h_ref26_Level : H := (.seq .reg (.seq (.seq .reg (.block (.loop [(3, .p (.int .i64))] [2, 3, 4, 5, 6, 7, 8, 9, 10, 11, 12] (.seq (.seq .reg (.cond .leaf .leaf)) (.seq (.block (.seq .reg (.cond (.seq .reg .leaf) .leaf))) .reg))))) (.seq .reg .leaf)))
def F_ref26_Level (n : Int) (w : World) (R : Value → World → Prop) : Prop :=
  (∃ I : Int → Nat × (World → Prop), (I (0 : Int)).2 w ∧
  (∀ (_junk : Env) (i : Int) (w1 : World), (I i).2 w1 →
    (bsplit (decide (i < (15 : Int)))
      ((Calls Try.prog N_ref26_Bound #[(.int .i64 i)] w1 fun e_ w2 =>
      ∃ r : Int, e_ = .returned (.int .i64 r) ∧
      (bsplit (decide (r ≥ n))
        (R (.int .i64 i) w2)
        ((let i1 := (IntKind.wrap .i64 (i + (1 : Int)));
        ((I i1).2 w2 ∧ (I i1).1 < (I i).1))))))
      (R (.int .i64 (15 : Int)) w1))))
theorem F_ref26_Level_eq (n : Int) (w : World) (R : Value → World → Prop) : sxFn Try.prog TT h_ref26_Level Try.f18 #[(.int .i64 n)] w R = F_ref26_Level n w R := by kernel_rfl
theorem F_ref26_Level_ok {R : Ending → World → Prop} (n : Int) (w : World) (h : F_ref26_Level n w fun v w' => R (.returned v) w') : Calls Try.prog N_ref26_Level #[(.int .i64 n)] w R :=
  calls_of (f := 18) follows_ok Try.func18 (Eq.mpr (F_ref26_Level_eq n w _) h)

def h_ref26_Bound : H := (.seq .reg (.seq (.block (.cut [(5, .p .bool)] [5, 6, 7, 8, 9, 10, 11] .reg (.cond (.seq .reg .leaf) (.seq .reg (.cond (.seq .reg .leaf) (.seq .reg (.cond (.seq .reg .leaf) .leaf))))))) (.seq .reg (.seq (.seq .reg (.block (.loop [(3, .p (.int .i64)), (4, .p (.int .i64))] [3, 4, 18, 19, 20, 21, 22, 23, 24] (.seq (.seq .reg (.cond .leaf .leaf)) (.seq (.block .reg) .reg))))) (.seq .reg .leaf)))))
def F_ref26_Bound (level : Int) (w : World) (R : Value → World → Prop) : Prop :=
  (∃ J : Bool → World → Prop,
  (∀ (_junk : Env) (x1 : Bool) (w1 : World), J x1 w1 →
    (bsplit x1
      (R (.int .i64 (-1 : Int)) w1)
      ((let x2 := (level == (0 : Int));
      (bsplit x2
        (R (.int .i64 (0 : Int)) w1)
        ((let x3 := (level == (15 : Int));
        (bsplit x3
          (R (.int .i64 (1048576 : Int)) w1)
          ((∃ I : Int → Int → Nat × (World → Prop), (I (8 : Int) (1 : Int)).2 w1 ∧
          (∀ (_junk : Env) (n : Int) (i : Int) (w2 : World), (I n i).2 w2 →
            (bsplit (decide (i < level))
              ((let n1 := (IntKind.wrap .i64 ((2 : Int) * n));
              (let i1 := (IntKind.wrap .i64 (i + (1 : Int)));
              ((I n1 i1).2 w2 ∧ (I n1 i1).1 < (I n i).1))))
              (R (.int .i64 n) w2))))))))))))) ∧
  (bsplit (decide (level < (0 : Int)))
    (J true w)
    ((let x := (decide (level > (15 : Int)));
    J x w))))
theorem F_ref26_Bound_eq (level : Int) (w : World) (R : Value → World → Prop) : sxFn Try.prog TT h_ref26_Bound Try.f19 #[(.int .i64 level)] w R = F_ref26_Bound level w R := by kernel_rfl
theorem F_ref26_Bound_ok {R : Ending → World → Prop} (level : Int) (w : World) (h : F_ref26_Bound level w fun v w' => R (.returned v) w') : Calls Try.prog N_ref26_Bound #[(.int .i64 level)] w R :=
  calls_of (f := 19) follows_ok Try.func19 (Eq.mpr (F_ref26_Bound_eq level w _) h)

def h_buffer_bounds : H := (.seq .reg (.seq .reg (.seq (.seq .reg (.block (.loop [(2, .p (.int .i64))] [2, 3, 4, 5, 6, 7, 8, 9, 10, 11] (.seq (.seq .reg (.cond .leaf .leaf)) (.seq (.block .reg) .reg))))) (.seq .reg (.seq .reg .leaf)))))
def F_buffer_bounds  (w : World) (R : Value → World → Prop) : Prop :=
  (let w1 := w.alloc (.cells #[.int .i64 (0 : Int), .int .i64 (0 : Int), .int .i64 (0 : Int), .int .i64 (0 : Int), .int .i64 (0 : Int), .int .i64 (0 : Int), .int .i64 (0 : Int), .int .i64 (0 : Int), .int .i64 (0 : Int), .int .i64 (0 : Int), .int .i64 (0 : Int), .int .i64 (0 : Int), .int .i64 (0 : Int), .int .i64 (0 : Int), .int .i64 (0 : Int), .int .i64 (0 : Int)] Ty_16_int);
  (let w2 := w1.alloc (.cells #[.int .i64 (0 : Int), .int .i64 (0 : Int), .int .i64 (0 : Int), .int .i64 (0 : Int), .int .i64 (0 : Int), .int .i64 (0 : Int), .int .i64 (0 : Int), .int .i64 (0 : Int), .int .i64 (0 : Int), .int .i64 (0 : Int), .int .i64 (0 : Int), .int .i64 (0 : Int), .int .i64 (0 : Int), .int .i64 (0 : Int), .int .i64 (0 : Int), .int .i64 (0 : Int)] Ty_16_int);
  (∃ I : Int → Nat × (World → Prop), (I (1 : Int)).2 w2 ∧
  (∀ (_junk : Env) (level : Int) (w3 : World), (I level).2 w3 →
    (bsplit (decide (level < (15 : Int)))
      ((0 ≤ (IntKind.wrap .i64 (level - (1 : Int))) ∧ ((0 ≤ level ∧ level < (16 : Int)) ∧
      ((∃ u, w3.cell? ((nb w1).add (level.toNat * 1)) = some u) ∧ w3.frozen? ((nb w1).add (level.toNat * 1)) = false ∧
      (let w4 := w3.setCell ((nb w1).add (level.toNat * 1)) (.int .i64 (IntKind.wrap .i64 ((8 : Int) * 2 ^ (min (IntKind.wrap .i64 (level - (1 : Int))).toNat (IntKind.bits .i64)))));
      (let level1 := (IntKind.wrap .i64 (level + (1 : Int)));
      ((I level1).2 w4 ∧ (I level1).1 < (I level).1)))))))
      (((∃ u, w3.cell? ((nb w1).add 15) = some u) ∧ w3.frozen? ((nb w1).add 15) = false ∧
      (let w5 := w3.setCell ((nb w1).add 15) (.int .i64 (1048576 : Int));
      (∃ x : Array Value, x.size = 16 ∧ cellsAt w5 (nb w1) 0 x.toList ∧
      (bcond (Nat.beq x.size 16) (sxStore w5 (nb w) 0 x.toList fun w6 =>
      (∃ r : Array Value, r.size = 16 ∧ cellsAt w6 (nb w) 0 r.toList ∧
      R (.agg r) w6))))))))))))
theorem F_buffer_bounds_eq  (w : World) (R : Value → World → Prop) : sxFn Try.prog TT h_buffer_bounds Try.f20 #[] w R = F_buffer_bounds  w R := by kernel_rfl
theorem F_buffer_bounds_ok {R : Ending → World → Prop}  (w : World) (h : F_buffer_bounds  w fun v w' => R (.returned v) w') : Calls Try.prog N_buffer_bounds #[] w R :=
  calls_of (f := 20) follows_ok Try.func20 (Eq.mpr (F_buffer_bounds_eq  w _) h)

def h_slices_Min_Sint_int : H := (.seq .reg (.cut [] [5, 6, 7, 8] (.seq .reg (.cond .reg .leaf)) (.seq .reg (.seq (.seq .reg (.block (.loop [(3, .p (.int .i64)), (4, .p (.int .i64))] [3, 4, 12, 13, 14, 15, 16, 17, 18, 19, 20, 21, 22, 23] (.seq (.seq .reg (.cond .leaf .leaf)) (.seq (.block .reg) .reg))))) (.seq .reg .leaf)))))
def F_slices_Min_Sint_int (x_a : Option Addr) (x_l : Nat) (x_c : Nat) (w : World) (R : Value → World → Prop) : Prop :=
  (∃ J : World → Prop,
  (∀ (_junk : Env)  (w1 : World), J w1 →
    (∃ b : Addr, x_a = some b ∧ (0 ≤ (0 : Int) ∧ (0 : Int) < (x_l : Int)) ∧
    (∃ x : Int, w1.cell? (b.add ((0 : Int).toNat * 1)) = some (.int .i64 x) ∧
    (∃ I : Int → Int → Nat × (World → Prop), (I x (1 : Int)).2 w1 ∧
    (∀ (_junk : Env) (m : Int) (i : Int) (w2 : World), (I m i).2 w2 →
      (bsplit (decide (i < (x_l : Int)))
        ((∃ b1 : Addr, x_a = some b1 ∧ (0 ≤ i ∧ i < (x_l : Int)) ∧
        (∃ x1 : Int, w2.cell? (b1.add (i.toNat * 1)) = some (.int .i64 x1) ∧
        (let m1 := (if x1 < m then x1 else m);
        (let i1 := (IntKind.wrap .i64 (i + (1 : Int)));
        ((I m1 i1).2 w2 ∧ (I m1 i1).1 < (I m i).1))))))
        (R (.int .i64 m) w2))))))) ∧
  (bsplit (decide ((x_l : Int) < (1 : Int)))
    (False)
    (J w)))
theorem F_slices_Min_Sint_int_eq (x_a : Option Addr) (x_l : Nat) (x_c : Nat) (w : World) (R : Value → World → Prop) : sxFn Try.prog TT h_slices_Min_Sint_int Try.f21 #[(.slice x_a x_l x_c)] w R = F_slices_Min_Sint_int x_a x_l x_c w R := by kernel_rfl
theorem F_slices_Min_Sint_int_ok {R : Ending → World → Prop} (x_a : Option Addr) (x_l : Nat) (x_c : Nat) (w : World) (h : F_slices_Min_Sint_int x_a x_l x_c w fun v w' => R (.returned v) w') : Calls Try.prog N_slices_Min_Sint_int #[(.slice x_a x_l x_c)] w R :=
  calls_of (f := 21) follows_ok Try.func21 (Eq.mpr (F_slices_Min_Sint_int_eq x_a x_l x_c w _) h)

def h_slices_Max_Sint_int : H := (.seq .reg (.cut [] [5, 6, 7, 8] (.seq .reg (.cond .reg .leaf)) (.seq .reg (.seq (.seq .reg (.block (.loop [(3, .p (.int .i64)), (4, .p (.int .i64))] [3, 4, 12, 13, 14, 15, 16, 17, 18, 19, 20, 21, 22, 23] (.seq (.seq .reg (.cond .leaf .leaf)) (.seq (.block .reg) .reg))))) (.seq .reg .leaf)))))
def F_slices_Max_Sint_int (x_a : Option Addr) (x_l : Nat) (x_c : Nat) (w : World) (R : Value → World → Prop) : Prop :=
  (∃ J : World → Prop,
  (∀ (_junk : Env)  (w1 : World), J w1 →
    (∃ b : Addr, x_a = some b ∧ (0 ≤ (0 : Int) ∧ (0 : Int) < (x_l : Int)) ∧
    (∃ x : Int, w1.cell? (b.add ((0 : Int).toNat * 1)) = some (.int .i64 x) ∧
    (∃ I : Int → Int → Nat × (World → Prop), (I x (1 : Int)).2 w1 ∧
    (∀ (_junk : Env) (m : Int) (i : Int) (w2 : World), (I m i).2 w2 →
      (bsplit (decide (i < (x_l : Int)))
        ((∃ b1 : Addr, x_a = some b1 ∧ (0 ≤ i ∧ i < (x_l : Int)) ∧
        (∃ x1 : Int, w2.cell? (b1.add (i.toNat * 1)) = some (.int .i64 x1) ∧
        (let m1 := (if x1 > m then x1 else m);
        (let i1 := (IntKind.wrap .i64 (i + (1 : Int)));
        ((I m1 i1).2 w2 ∧ (I m1 i1).1 < (I m i).1))))))
        (R (.int .i64 m) w2))))))) ∧
  (bsplit (decide ((x_l : Int) < (1 : Int)))
    (False)
    (J w)))
theorem F_slices_Max_Sint_int_eq (x_a : Option Addr) (x_l : Nat) (x_c : Nat) (w : World) (R : Value → World → Prop) : sxFn Try.prog TT h_slices_Max_Sint_int Try.f22 #[(.slice x_a x_l x_c)] w R = F_slices_Max_Sint_int x_a x_l x_c w R := by kernel_rfl
theorem F_slices_Max_Sint_int_ok {R : Ending → World → Prop} (x_a : Option Addr) (x_l : Nat) (x_c : Nat) (w : World) (h : F_slices_Max_Sint_int x_a x_l x_c w fun v w' => R (.returned v) w') : Calls Try.prog N_slices_Max_Sint_int #[(.slice x_a x_l x_c)] w R :=
  calls_of (f := 22) follows_ok Try.func22 (Eq.mpr (F_slices_Max_Sint_int_eq x_a x_l x_c w _) h)

def h_ref24_SameBytes : H := (.seq .reg (.seq (.seq .reg (.cond (.seq .reg .leaf) .leaf)) (.seq (.seq .reg (.block (.loop [(5, .p (.int .i64))] [4, 5, 11, 12, 13, 14, 15, 16, 17, 18, 19, 20, 21, 22, 23, 24, 25] (.seq (.seq .reg (.cond .leaf .leaf)) (.seq (.block (.seq (.draw false (.one 0 .stable (.one 1 .stable (.one 2 .stable (.one 3 .stable (.one 4 .stable (.one 5 .stable (.one 6 .stable (.one 7 .stable (.one 8 .stable .nil)))))))))) (.cond (.seq .reg .leaf) .leaf))) .reg))))) (.seq .reg .leaf))))
def F_ref24_SameBytes (a_a : Option Addr) (a_l : Nat) (a_c : Nat) (b_a : Option Addr) (b_l : Nat) (b_c : Nat) (w : World) (R : Value → World → Prop) : Prop :=
  (bsplit ((a_l : Int) != (b_l : Int))
    (R (.bool false) w)
    ((∃ I : Int → Nat × (World → Prop), (I (0 : Int)).2 w ∧
    (∀ (_junk : Env) (i : Int) (w1 : World), (I i).2 w1 →
      (bsplit (decide (i < (a_l : Int)))
        ((let w2 := w1.drew;
        (∃ b : Addr, a_a = some b ∧ (0 ≤ i ∧ i < (a_l : Int)) ∧
        (∃ x : Int, w2.cell? (b.add (i.toNat * 1)) = some (.int .u8 x) ∧
        (∃ b1 : Addr, b_a = some b1 ∧ (0 ≤ i ∧ i < (b_l : Int)) ∧
        (∃ x1 : Int, w2.cell? (b1.add (i.toNat * 1)) = some (.int .u8 x1) ∧
        (bsplit (x != x1)
          (R (.bool false) w2)
          ((let i1 := (IntKind.wrap .i64 (i + (1 : Int)));
          ((I i1).2 w2 ∧ (I i1).1 < (I i).1))))))))))
        (R (.bool true) w1))))))
theorem F_ref24_SameBytes_eq (a_a : Option Addr) (a_l : Nat) (a_c : Nat) (b_a : Option Addr) (b_l : Nat) (b_c : Nat) (w : World) (R : Value → World → Prop) : sxFn Try.prog TT h_ref24_SameBytes Try.f23 #[(.slice a_a a_l a_c), (.slice b_a b_l b_c)] w R = F_ref24_SameBytes a_a a_l a_c b_a b_l b_c w R := by kernel_rfl
theorem F_ref24_SameBytes_ok {R : Ending → World → Prop} (a_a : Option Addr) (a_l : Nat) (a_c : Nat) (b_a : Option Addr) (b_l : Nat) (b_c : Nat) (w : World) (h : F_ref24_SameBytes a_a a_l a_c b_a b_l b_c w fun v w' => R (.returned v) w') : Calls Try.prog N_ref24_SameBytes #[(.slice a_a a_l a_c), (.slice b_a b_l b_c)] w R :=
  calls_of (f := 23) follows_ok Try.func23 (Eq.mpr (F_ref24_SameBytes_eq a_a a_l a_c b_a b_l b_c w _) h)

end Go.Proofs.Ytamkmafmhglfkaa
