import Derived.Test.YtamkmafmhglfkaaBase
import Derived.KernelRfl
namespace Go.Proofs.Ytamkmafmhglfkaa
open Go.Sx Go.RowKit
set_option maxRecDepth 100000

def h_buffer_Level : H := (.seq .reg (.seq .reg (.seq (.seq .reg (.block (.loop [(6, .p (.int .i64))] [2, 4, 6, 7, 8, 9, 10, 11, 12, 13, 14, 15] (.seq .reg (.seq (.cond .leaf .leaf) (.seq (.block (.seq .reg (.seq .reg (.cond (.seq .reg .leaf) .leaf)))) .reg)))))) (.seq .reg .leaf))))
def F_buffer_Level (n : Int) (w : World) (R : Value → World → Prop) : Prop :=
  (Calls Try.prog N_buffer_bounds #[] w fun e_ w1 =>
  ∃ r : Array Value, e_ = .returned (.agg r) ∧
  (let w2 := w1.alloc (.cells #[.int .i64 (0 : Int), .int .i64 (0 : Int), .int .i64 (0 : Int), .int .i64 (0 : Int), .int .i64 (0 : Int), .int .i64 (0 : Int), .int .i64 (0 : Int), .int .i64 (0 : Int), .int .i64 (0 : Int), .int .i64 (0 : Int), .int .i64 (0 : Int), .int .i64 (0 : Int), .int .i64 (0 : Int), .int .i64 (0 : Int), .int .i64 (0 : Int), .int .i64 (0 : Int)] Ty_16_int);
  (bcond (Nat.beq r.size 16) (sxStore w2 (nb w1) 0 r.toList fun w3 =>
  (∃ I : Int → Nat × (World → Prop), (I (0 : Int)).2 w3 ∧
  (∀ (_junk : Env) (x : Int) (w4 : World), (I x).2 w4 →
    (bsplit (decide (x < (16 : Int)))
      (((0 ≤ x ∧ x < (16 : Int)) ∧
      (∃ x1 : Int, w4.cell? ((nb w1).add (x.toNat * 1)) = some (.int .i64 x1) ∧
      (bsplit (decide (x1 ≥ n))
        (R (.int .i64 x) w4)
        (((I (IntKind.wrap .i64 (x + (1 : Int)))).2 w4 ∧ (I (IntKind.wrap .i64 (x + (1 : Int)))).1 < (I x).1))))))
      (R (.int .i64 (15 : Int)) w4))))))))
theorem F_buffer_Level_eq (n : Int) (w : World) (R : Value → World → Prop) : sxFn Try.prog TT h_buffer_Level Try.f7 #[(.int .i64 n)] w R = F_buffer_Level n w R := by kernel_rfl
theorem F_buffer_Level_ok {R : Ending → World → Prop} (n : Int) (w : World) (h : F_buffer_Level n w fun v w' => R (.returned v) w') : Calls Try.prog N_buffer_Level #[(.int .i64 n)] w R :=
  calls_of (f := 7) follows_ok Try.func7 (Eq.mpr (F_buffer_Level_eq n w _) h)

def h_buffer_Bound : H := (.seq .reg (.seq (.seq .reg (.cond (.seq .reg .leaf) .leaf)) (.seq .reg .leaf)))
def F_buffer_Bound (level : Int) (w : World) (R : Value → World → Prop) : Prop :=
  (bsplit (decide (level < (0 : Int)))
    (R (.int .i64 (-1 : Int)) w)
    ((bsplit (decide (level ≥ (16 : Int)))
      (R (.int .i64 (-1 : Int)) w)
      ((Calls Try.prog N_buffer_bounds #[] w fun e_1 w2 =>
      ∃ r1 : Array Value, e_1 = .returned (.agg r1) ∧
      ((0 ≤ level ∧ level < (16 : Int)) ∧ ∃ x1 : Int, r1[level.toNat * 1]? = some (.int .i64 x1) ∧
      R (.int .i64 x1) w2))))))
theorem F_buffer_Bound_eq (level : Int) (w : World) (R : Value → World → Prop) : sxFn Try.prog TT h_buffer_Bound Try.f8 #[(.int .i64 level)] w R = F_buffer_Bound level w R := by kernel_rfl
theorem F_buffer_Bound_ok {R : Ending → World → Prop} (level : Int) (w : World) (h : F_buffer_Bound level w fun v w' => R (.returned v) w') : Calls Try.prog N_buffer_Bound #[(.int .i64 level)] w R :=
  calls_of (f := 8) follows_ok Try.func8 (Eq.mpr (F_buffer_Bound_eq level w _) h)

def h_law26_awake : H := (.seq .reg (.seq .reg .leaf))
def F_law26_awake  (w : World) (R : Value → World → Prop) : Prop :=
  (Calls Try.prog N_buffer_Level #[(.int .i64 (9 : Int))] w fun e_ w1 =>
  ∃ r : Int, e_ = .returned (.int .i64 r) ∧
  (bsplit (r == (2 : Int))
    ((Calls Try.prog N_buffer_Bound #[(.int .i64 (2 : Int))] w1 fun e_1 w2 =>
    ∃ r1 : Int, e_1 = .returned (.int .i64 r1) ∧
    (bsplit (r1 == (16 : Int))
      ((Calls Try.prog N_buffer_Level #[(.int .i64 (0 : Int))] w2 fun e_2 w3 =>
      ∃ r2 : Int, e_2 = .returned (.int .i64 r2) ∧
      (bsplit (r2 == (0 : Int))
        ((Calls Try.prog N_buffer_Bound #[(.int .i64 (16 : Int))] w3 fun e_3 w4 =>
        ∃ r3 : Int, e_3 = .returned (.int .i64 r3) ∧
        (let x := (r3 == (-1 : Int));
        R (.bool x) w4)))
        (R (.bool false) w3))))
      (R (.bool false) w2))))
    (R (.bool false) w1)))
theorem F_law26_awake_eq  (w : World) (R : Value → World → Prop) : sxFn Try.prog TT h_law26_awake Try.f9 #[] w R = F_law26_awake  w R := by kernel_rfl
theorem F_law26_awake_ok {R : Ending → World → Prop}  (w : World) (h : F_law26_awake  w fun v w' => R (.returned v) w') : Calls Try.prog N_law26_awake #[] w R :=
  calls_of (f := 9) follows_ok Try.func9 (Eq.mpr (F_law26_awake_eq  w _) h)

def h_buffer_Of : H := (.seq .reg (.cut [] [5, 13, 14, 15, 16, 17, 18, 19, 20, 21, 22, 23] (.seq .reg (.cond (.seq .reg .leaf) .leaf)) (.seq .reg (.seq (.seq .reg (.block (.loop [(26, .p (.int .i64))] [5, 7, 8, 9, 26, 27, 28, 29, 30, 31, 32, 33, 34, 35, 36, 37, 38, 39, 40, 41, 42, 43, 44, 45, 46, 47, 48, 49, 50, 51, 52, 53, 54, 55, 56, 57, 58, 59] (.seq .reg (.seq (.cond .leaf .leaf) (.seq (.block (.seq .reg (.seq (.seq .reg (.cut [(48, .p .bool)] [35, 36, 37, 38, 39, 40, 41, 42, 43, 44, 45, 46, 47, 48] .reg (.cond (.seq .reg .leaf) .leaf))) .reg))) .reg)))))) (.seq .reg (.seq (.seq .reg (.block (.loop [(61, .p (.int .i64))] [11, 12, 61, 62, 63, 64, 65, 66, 67, 68, 69, 70] (.seq .reg (.seq (.cond .leaf .leaf) (.seq (.block (.seq .reg .reg)) .reg)))))) (.seq .reg .leaf)))))))
def F_buffer_Of (waiting_a : Option Addr) (waiting_l : Nat) (waiting_c : Nat) (groups_a : Option Addr) (groups_l : Nat) (groups_c : Nat) (w : World) (R : Value → World → Prop) : Prop :=
  (let w1 := w.alloc (.cells #[.int .i64 (0 : Int), .int .i64 (0 : Int), .int .i64 (0 : Int), .int .i64 (0 : Int)] Ty_api_Waiting);
  (∃ J : World → Prop,
  (∀ (_junk : Env)  (w4 : World), J w4 →
    (let w5 := w4.alloc (.cells #[.int .i64 (0 : Int), .int .i64 (0 : Int), .int .i64 (0 : Int), .int .i64 (0 : Int)] Ty_4_int);
    (∃ I : Int → Nat × (World → Prop), (I (0 : Int)).2 w5 ∧
    (∀ (_junk : Env) (x : Int) (w6 : World), (I x).2 w6 →
      (bsplit (decide (x < (waiting_l : Int)))
        ((∃ b : Addr, waiting_a = some b ∧ (0 ≤ x ∧ x < (waiting_l : Int)) ∧
        (∃ x1 : Int, w6.cell? (b.add (x.toNat * 1)) = some (.int .i64 x1) ∧
        (∃ b1 : Addr, groups_a = some b1 ∧ (0 ≤ x ∧ x < (groups_l : Int)) ∧
        (∃ x2 : Int, w6.cell? (b1.add (x.toNat * 1)) = some (.int .i64 x2) ∧
        (∃ J1 : Bool → World → Prop,
        (∀ (_junk : Env) (x3 : Bool) (w7 : World), J1 x3 w7 →
          (bsplit x3
            ((sxStore w7 (nb w) 0 [(.int .i64 (0 : Int)), (.int .i64 (0 : Int)), (.int .i64 (0 : Int)), (.int .i64 (0 : Int))] fun w8 =>
            (∃ r_02 : Int, ∃ r_12 : Int, ∃ r_22 : Int, ∃ r_32 : Int, cellsAt w8 (nb w) 0 [(.int .i64 r_02), (.int .i64 r_12), (.int .i64 r_22), (.int .i64 r_32)] ∧
            R (.tuple #[(.agg #[.int .i64 r_02, .int .i64 r_12, .int .i64 r_22, .int .i64 r_32]), (.int .i64 (3 : Int))]) w8)))
            ((∃ b2 : Addr, groups_a = some b2 ∧ (0 ≤ x ∧ x < (groups_l : Int)) ∧
            (∃ x4 : Int, w7.cell? (b2.add (x.toNat * 1)) = some (.int .i64 x4) ∧
            ((0 ≤ x4 ∧ x4 < (4 : Int)) ∧
            (∃ x5 : Int, w7.cell? ((nb w4).add (x4.toNat * 1)) = some (.int .i64 x5) ∧
            ((0 ≤ x4 ∧ x4 < (4 : Int)) ∧
            ((∃ u, w7.cell? ((nb w4).add (x4.toNat * 1)) = some u) ∧ w7.frozen? ((nb w4).add (x4.toNat * 1)) = false ∧
            (let w9 := w7.setCell ((nb w4).add (x4.toNat * 1)) (.int .i64 (IntKind.wrap .i64 (x5 + x1)));
            ((I (IntKind.wrap .i64 (x + (1 : Int)))).2 w9 ∧ (I (IntKind.wrap .i64 (x + (1 : Int)))).1 < (I x).1))))))))))) ∧
        (bsplit (decide (x2 < (0 : Int)))
          (J1 true w6)
          ((bsplit (decide (x2 ≥ (4 : Int)))
            (J1 true w6)
            ((bsplit (decide (x1 < (0 : Int)))
              (J1 true w6)
              (J1 (decide (x1 > (1048576 : Int))) w6))))))))))))
        ((let w10 := w6.alloc (.cells #[.int .i64 (0 : Int), .int .i64 (0 : Int), .int .i64 (0 : Int), .int .i64 (0 : Int)] Ty_api_Waiting);
        (∃ x_0 : Int, ∃ x_1 : Int, ∃ x_2 : Int, ∃ x_3 : Int, cellsAt w10 (nb w4) 0 [(.int .i64 x_0), (.int .i64 x_1), (.int .i64 x_2), (.int .i64 x_3)] ∧
        (∃ I1 : Int → Nat × (World → Prop), (I1 (0 : Int)).2 w10 ∧
        (∀ (_junk : Env) (x6 : Int) (w11 : World), (I1 x6).2 w11 →
          (bsplit (decide (x6 < (4 : Int)))
            (((0 ≤ x6 ∧ x6 < (4 : Int)) ∧ ∃ x7 : Int, (#[(.int .i64 x_0), (.int .i64 x_1), (.int .i64 x_2), (.int .i64 x_3)] : Array Value)[x6.toNat * 1]? = some (.int .i64 x7) ∧
            (Calls Try.prog N_buffer_Level #[(.int .i64 x7)] w11 fun e_ w12 =>
            ∃ r : Int, e_ = .returned (.int .i64 r) ∧
            ((0 ≤ x6 ∧ x6 < (4 : Int)) ∧
            ((∃ u, w12.cell? ((nb w6).add (x6.toNat * 1)) = some u) ∧ w12.frozen? ((nb w6).add (x6.toNat * 1)) = false ∧
            (let w13 := w12.setCell ((nb w6).add (x6.toNat * 1)) (.int .i64 r);
            ((I1 (IntKind.wrap .i64 (x6 + (1 : Int)))).2 w13 ∧ (I1 (IntKind.wrap .i64 (x6 + (1 : Int)))).1 < (I1 x6).1)))))))
            ((∃ x_01 : Int, ∃ x_11 : Int, ∃ x_21 : Int, ∃ x_31 : Int, cellsAt w11 (nb w6) 0 [(.int .i64 x_01), (.int .i64 x_11), (.int .i64 x_21), (.int .i64 x_31)] ∧
            (sxStore w11 (nb w) 0 [(.int .i64 x_01), (.int .i64 x_11), (.int .i64 x_21), (.int .i64 x_31)] fun w14 =>
            (∃ r_03 : Int, ∃ r_13 : Int, ∃ r_23 : Int, ∃ r_33 : Int, cellsAt w14 (nb w) 0 [(.int .i64 r_03), (.int .i64 r_13), (.int .i64 r_23), (.int .i64 r_33)] ∧
            R (.tuple #[(.agg #[.int .i64 r_03, .int .i64 r_13, .int .i64 r_23, .int .i64 r_33]), (.int .i64 (0 : Int))]) w14))))))))))))))) ∧
  (bsplit (decide ((waiting_l : Int) > (8 : Int)))
    ((sxStore w1 (nb w) 0 [(.int .i64 (0 : Int)), (.int .i64 (0 : Int)), (.int .i64 (0 : Int)), (.int .i64 (0 : Int))] fun w2 =>
      (∃ r_0 : Int, ∃ r_1 : Int, ∃ r_2 : Int, ∃ r_3 : Int, cellsAt w2 (nb w) 0 [(.int .i64 r_0), (.int .i64 r_1), (.int .i64 r_2), (.int .i64 r_3)] ∧
      R (.tuple #[(.agg #[.int .i64 r_0, .int .i64 r_1, .int .i64 r_2, .int .i64 r_3]), (.int .i64 (2 : Int))]) w2)))
    ((bsplit ((waiting_l : Int) != (groups_l : Int))
      ((sxStore w1 (nb w) 0 [(.int .i64 (0 : Int)), (.int .i64 (0 : Int)), (.int .i64 (0 : Int)), (.int .i64 (0 : Int))] fun w3 =>
      (∃ r_01 : Int, ∃ r_11 : Int, ∃ r_21 : Int, ∃ r_31 : Int, cellsAt w3 (nb w) 0 [(.int .i64 r_01), (.int .i64 r_11), (.int .i64 r_21), (.int .i64 r_31)] ∧
      R (.tuple #[(.agg #[.int .i64 r_01, .int .i64 r_11, .int .i64 r_21, .int .i64 r_31]), (.int .i64 (2 : Int))]) w3)))
      (J w1))))))
theorem F_buffer_Of_eq (waiting_a : Option Addr) (waiting_l : Nat) (waiting_c : Nat) (groups_a : Option Addr) (groups_l : Nat) (groups_c : Nat) (w : World) (R : Value → World → Prop) : sxFn Try.prog TT h_buffer_Of Try.f10 #[(.slice waiting_a waiting_l waiting_c), (.slice groups_a groups_l groups_c)] w R = F_buffer_Of waiting_a waiting_l waiting_c groups_a groups_l groups_c w R := by kernel_rfl
theorem F_buffer_Of_ok {R : Ending → World → Prop} (waiting_a : Option Addr) (waiting_l : Nat) (waiting_c : Nat) (groups_a : Option Addr) (groups_l : Nat) (groups_c : Nat) (w : World) (h : F_buffer_Of waiting_a waiting_l waiting_c groups_a groups_l groups_c w fun v w' => R (.returned v) w') : Calls Try.prog N_buffer_Of #[(.slice waiting_a waiting_l waiting_c), (.slice groups_a groups_l groups_c)] w R :=
  calls_of (f := 10) follows_ok Try.func10 (Eq.mpr (F_buffer_Of_eq waiting_a waiting_l waiting_c groups_a groups_l groups_c w _) h)

def h_buffer_Encode : H := (.seq .reg (.seq .reg (.cut [] [5, 11, 12, 13, 14, 15, 16, 17, 18, 19] (.seq .reg (.cond (.seq .reg .leaf) .leaf)) (.seq (.block (.seq .reg (.cond (.seq .reg .leaf) (.seq .reg (.cond (.seq .reg (.seq (.seq .reg (.block (.loop [(7, .p (.int .i64)), (27, .p (.int .i64))] [7, 8, 27, 28, 29, 30, 31, 32, 33, 34, 35, 36, 37, 38] (.seq .reg (.seq (.cond .leaf .leaf) (.seq (.block (.seq .reg (.seq (.draw .no (.one 0 .stable (.one 1 .stable (.one 2 .stable (.one 3 .stable (.one 4 .stable (.one 5 .stable (.one 6 .stable .nil)))))))) (.cond .reg .leaf)))) .reg)))))) (.seq .reg .leaf))) .leaf))))) (.seq .reg .leaf)))))
def F_buffer_Encode (w_0 : Int) (w_1 : Int) (w_2 : Int) (w_3 : Int) (room : Int) (w : World) (R : Value → World → Prop) : Prop :=
  (let w1 := w.alloc (.cells #[(.int .i64 w_0), (.int .i64 w_1), (.int .i64 w_2), (.int .i64 w_3)] Ty_api_Waiting);
  (let w2 := w1.alloc (.cells #[.int .i64 (0 : Int), .slice none 0 0] Ty_api_Section);
  (∃ x_0 : Int, ∃ x_1 : Int, ∃ x_2 : Int, ∃ x_3 : Int, cellsAt w2 (nb w) 0 [(.int .i64 x_0), (.int .i64 x_1), (.int .i64 x_2), (.int .i64 x_3)] ∧
  (let w3 := w2.alloc (.cells #[.int .i64 (0 : Int), .int .i64 (0 : Int), .int .i64 (0 : Int), .int .i64 (0 : Int)] Ty_4_int);
  (sxStore w3 (nb w2) 0 [(.int .i64 x_0), (.int .i64 x_1), (.int .i64 x_2), (.int .i64 x_3)] fun w4 =>
  (∃ J : World → Prop,
  (∀ (_junk : Env)  (w9 : World), J w9 →
    (let x := (decide (room < (3 : Int)));
    (bsplit x
      ((sxStore w9 (nb w1) 0 [(.int .i64 (0 : Int)), (.slice none 0 0)] fun w10 =>
      (∃ r_02 : Int, ∃ r_1_a2 : Option Addr, ∃ r_1_l2 : Nat, ∃ r_1_c2 : Nat, cellsAt w10 (nb w1) 0 [(.int .i64 r_02), (.slice r_1_a2 r_1_l2 r_1_c2)] ∧
      R (.tuple #[(.agg #[.int .i64 r_02, .slice r_1_a2 r_1_l2 r_1_c2]), (.int .i64 (15 : Int))]) w10)))
      ((let x1 := (room == (3 : Int));
      (bsplit x1
        ((∃ I : Int → Int → Nat × (World → Prop), (I (0 : Int) (0 : Int)).2 w9 ∧
        (∀ (_junk : Env) (best : Int) (x2 : Int) (w11 : World), (I best x2).2 w11 →
          (bsplit (decide (x2 < (4 : Int)))
            ((let w12 := w11.drew;
            ((0 ≤ x2 ∧ x2 < (4 : Int)) ∧
            (∃ x3 : Int, w12.cell? ((nb w2).add (x2.toNat * 1)) = some (.int .i64 x3) ∧
            ((0 ≤ best ∧ best < (4 : Int)) ∧
            (∃ x4 : Int, w12.cell? ((nb w2).add (best.toNat * 1)) = some (.int .i64 x4) ∧
            (bsplit (decide (x3 > x4))
              (((I x2 (IntKind.wrap .i64 (x2 + (1 : Int)))).2 w12 ∧ (I x2 (IntKind.wrap .i64 (x2 + (1 : Int)))).1 < (I best x2).1))
              (((I best (IntKind.wrap .i64 (x2 + (1 : Int)))).2 w12 ∧ (I best (IntKind.wrap .i64 (x2 + (1 : Int)))).1 < (I best x2).1)))))))))
            (((0 ≤ best ∧ best < (4 : Int)) ∧
            (∃ x5 : Int, w11.cell? ((nb w2).add (best.toNat * 1)) = some (.int .i64 x5) ∧
            (let w13 := w11.alloc (.cells #[(.int .u8 (IntKind.wrap .u8 (bOr .i64 (IntKind.wrap .i64 (best * 2 ^ 6)) x5)))] Ty_uint8);
            (sxStore w13 (nb w1) 0 [(.int .i64 (8 : Int)), (.slice (some (nb w11)) 1 1)] fun w14 =>
            (∃ r_03 : Int, ∃ r_1_a3 : Option Addr, ∃ r_1_l3 : Nat, ∃ r_1_c3 : Nat, cellsAt w14 (nb w1) 0 [(.int .i64 r_03), (.slice r_1_a3 r_1_l3 r_1_c3)] ∧
            R (.tuple #[(.agg #[.int .i64 r_03, .slice r_1_a3 r_1_l3 r_1_c3]), (.int .i64 (0 : Int))]) w14))))))))))
        ((∃ x6 : Int, w9.cell? (nb w2) = some (.int .i64 x6) ∧
        (∃ x7 : Int, w9.cell? ((nb w2).add 1) = some (.int .i64 x7) ∧
        (∃ x8 : Int, w9.cell? ((nb w2).add 2) = some (.int .i64 x8) ∧
        (∃ x9 : Int, w9.cell? ((nb w2).add 3) = some (.int .i64 x9) ∧
        (let w15 := w9.alloc (.cells #[(.int .u8 (IntKind.wrap .u8 (bOr .i64 (IntKind.wrap .i64 (x6 * 2 ^ 4)) x7))), (.int .u8 (IntKind.wrap .u8 (bOr .i64 (IntKind.wrap .i64 (x8 * 2 ^ 4)) x9)))] Ty_uint8);
        (sxStore w15 (nb w1) 0 [(.int .i64 (9 : Int)), (.slice (some (nb w9)) 2 2)] fun w16 =>
        (∃ r_04 : Int, ∃ r_1_a4 : Option Addr, ∃ r_1_l4 : Nat, ∃ r_1_c4 : Nat, cellsAt w16 (nb w1) 0 [(.int .i64 r_04), (.slice r_1_a4 r_1_l4 r_1_c4)] ∧
        R (.tuple #[(.agg #[.int .i64 r_04, .slice r_1_a4 r_1_l4 r_1_c4]), (.int .i64 (0 : Int))]) w16)))))))))))))) ∧
  (Calls Try.prog N_slices_Min_Sint_int #[(.slice (slAddr 4 0 1 (some (nb w2))) (4 - 0) (4 - 0))] w4 fun e_ w5 =>
  ∃ r : Int, e_ = .returned (.int .i64 r) ∧
  (bsplit (decide (r < (0 : Int)))
    ((sxStore w5 (nb w1) 0 [(.int .i64 (0 : Int)), (.slice none 0 0)] fun w6 =>
      (∃ r_0 : Int, ∃ r_1_a : Option Addr, ∃ r_1_l : Nat, ∃ r_1_c : Nat, cellsAt w6 (nb w1) 0 [(.int .i64 r_0), (.slice r_1_a r_1_l r_1_c)] ∧
      R (.tuple #[(.agg #[.int .i64 r_0, .slice r_1_a r_1_l r_1_c]), (.int .i64 (1 : Int))]) w6)))
    ((Calls Try.prog N_slices_Max_Sint_int #[(.slice (slAddr 4 0 1 (some (nb w2))) (4 - 0) (4 - 0))] w5 fun e_1 w7 =>
    ∃ r1 : Int, e_1 = .returned (.int .i64 r1) ∧
    (bsplit (decide (r1 ≥ (16 : Int)))
      ((sxStore w7 (nb w1) 0 [(.int .i64 (0 : Int)), (.slice none 0 0)] fun w8 =>
      (∃ r_01 : Int, ∃ r_1_a1 : Option Addr, ∃ r_1_l1 : Nat, ∃ r_1_c1 : Nat, cellsAt w8 (nb w1) 0 [(.int .i64 r_01), (.slice r_1_a1 r_1_l1 r_1_c1)] ∧
      R (.tuple #[(.agg #[.int .i64 r_01, .slice r_1_a1 r_1_l1 r_1_c1]), (.int .i64 (1 : Int))]) w8)))
      (J w7))))))))))))
theorem F_buffer_Encode_eq (w_0 : Int) (w_1 : Int) (w_2 : Int) (w_3 : Int) (room : Int) (w : World) (R : Value → World → Prop) : sxFn Try.prog TT h_buffer_Encode Try.f12 #[(.agg #[.int .i64 w_0, .int .i64 w_1, .int .i64 w_2, .int .i64 w_3]), (.int .i64 room)] w R = F_buffer_Encode w_0 w_1 w_2 w_3 room w R := by kernel_rfl
theorem F_buffer_Encode_ok {R : Ending → World → Prop} (w_0 : Int) (w_1 : Int) (w_2 : Int) (w_3 : Int) (room : Int) (w : World) (h : F_buffer_Encode w_0 w_1 w_2 w_3 room w fun v w' => R (.returned v) w') : Calls Try.prog N_buffer_Encode #[(.agg #[.int .i64 w_0, .int .i64 w_1, .int .i64 w_2, .int .i64 w_3]), (.int .i64 room)] w R :=
  calls_of (f := 12) follows_ok Try.func12 (Eq.mpr (F_buffer_Encode_eq w_0 w_1 w_2 w_3 room w _) h)

def h_buffer_Decode : H := (.seq .reg (.seq .reg (.seq (.seq .reg (.block (.seq .reg (.cond (.seq (.seq .reg (.cond (.seq .reg .leaf) .leaf)) (.seq .reg (.block (.loop [(20, .p (.int .i64))] [5, 6, 20, 21, 22, 23, 24, 25, 26, 27, 28, 29, 30, 31, 32, 33, 34, 35, 36, 37, 38, 39, 40] (.seq .reg (.seq (.cond .leaf .leaf) (.seq (.block (.seq .reg .reg)) .reg))))))) (.seq .reg (.cond (.seq (.seq .reg (.cond (.seq .reg .leaf) .leaf)) (.seq (.seq .reg (.cond (.seq .reg .leaf) .leaf)) (.draw .blk (.one 0 .pre (.one 1 .pre (.one 2 .pre (.one 3 .pre (.one 4 .pre (.one 5 .pre (.one 6 .pre (.one 7 .pre (.one 8 .pre (.one 9 .pre (.one 10 .pre (.one 11 .stable (.one 12 .pre (.one 13 .keep .nil))))))))))))))))) (.seq .reg .leaf))))))) (.seq .reg .leaf))))
def F_buffer_Decode (s_0 : Int) (s_1_a : Option Addr) (s_1_l : Nat) (s_1_c : Nat) (w : World) (R : Value → World → Prop) : Prop :=
  (let w1 := w.alloc (.cells #[(.int .i64 s_0), (.slice s_1_a s_1_l s_1_c)] Ty_api_Section);
  (let w2 := w1.alloc (.cells #[.int .i64 (0 : Int), .int .i64 (0 : Int), .int .i64 (0 : Int), .int .i64 (0 : Int)] Ty_api_Waiting);
  (let w3 := w2.alloc (.cells #[.int .i64 (0 : Int), .int .i64 (0 : Int), .int .i64 (0 : Int), .int .i64 (0 : Int)] Ty_api_Waiting);
  (∃ x : Int, w3.cell? (nb w) = some (.int .i64 x) ∧
  (let x1 := (x == (9 : Int));
  (bsplit x1
    ((∃ x_a : Option Addr, ∃ x_l : Nat, ∃ x_c : Nat, w3.cell? ((nb w).add 1) = some (.slice x_a x_l x_c) ∧
    (bsplit ((x_l : Int) != (2 : Int))
      ((∃ x_0 : Int, ∃ x_1 : Int, ∃ x_2 : Int, ∃ x_3 : Int, cellsAt w3 (nb w2) 0 [(.int .i64 x_0), (.int .i64 x_1), (.int .i64 x_2), (.int .i64 x_3)] ∧
      (sxStore w3 (nb w1) 0 [(.int .i64 x_0), (.int .i64 x_1), (.int .i64 x_2), (.int .i64 x_3)] fun w4 =>
      (∃ r_0 : Int, ∃ r_1 : Int, ∃ r_2 : Int, ∃ r_3 : Int, cellsAt w4 (nb w1) 0 [(.int .i64 r_0), (.int .i64 r_1), (.int .i64 r_2), (.int .i64 r_3)] ∧
      R (.tuple #[(.agg #[.int .i64 r_0, .int .i64 r_1, .int .i64 r_2, .int .i64 r_3]), (.int .i64 (2 : Int))]) w4))))
      ((∃ x_a1 : Option Addr, ∃ x_l1 : Nat, ∃ x_c1 : Nat, w3.cell? ((nb w).add 1) = some (.slice x_a1 x_l1 x_c1) ∧
      (∃ I : Int → Nat × (World → Prop), (I (0 : Int)).2 w3 ∧
      (∀ (_junk : Env) (x2 : Int) (w5 : World), (I x2).2 w5 →
        (bsplit (decide (x2 < (x_l1 : Int)))
          ((∃ b : Addr, x_a1 = some b ∧ (0 ≤ x2 ∧ x2 < (x_l1 : Int)) ∧
          (∃ x3 : Int, w5.cell? (b.add (x2.toNat * 1)) = some (.int .u8 x3) ∧
          ((0 ≤ (IntKind.wrap .i64 ((2 : Int) * x2)) ∧ (IntKind.wrap .i64 ((2 : Int) * x2)) < (4 : Int)) ∧
          ((∃ u, w5.cell? ((nb w2).add ((IntKind.wrap .i64 ((2 : Int) * x2)).toNat * 1)) = some u) ∧ w5.frozen? ((nb w2).add ((IntKind.wrap .i64 ((2 : Int) * x2)).toNat * 1)) = false ∧
          (let w6 := w5.setCell ((nb w2).add ((IntKind.wrap .i64 ((2 : Int) * x2)).toNat * 1)) (.int .i64 (IntKind.wrap .i64 (Int.fdiv x3 (2 ^ 4))));
          ((0 ≤ (IntKind.wrap .i64 ((IntKind.wrap .i64 ((2 : Int) * x2)) + (1 : Int))) ∧ (IntKind.wrap .i64 ((IntKind.wrap .i64 ((2 : Int) * x2)) + (1 : Int))) < (4 : Int)) ∧
          ((∃ u, w6.cell? ((nb w2).add ((IntKind.wrap .i64 ((IntKind.wrap .i64 ((2 : Int) * x2)) + (1 : Int))).toNat * 1)) = some u) ∧ w6.frozen? ((nb w2).add ((IntKind.wrap .i64 ((IntKind.wrap .i64 ((2 : Int) * x2)) + (1 : Int))).toNat * 1)) = false ∧
          (let w7 := w6.setCell ((nb w2).add ((IntKind.wrap .i64 ((IntKind.wrap .i64 ((2 : Int) * x2)) + (1 : Int))).toNat * 1)) (.int .i64 (IntKind.wrap .i64 (bAnd .u8 x3 (15 : Int))));
          ((I (IntKind.wrap .i64 (x2 + (1 : Int)))).2 w7 ∧ (I (IntKind.wrap .i64 (x2 + (1 : Int)))).1 < (I x2).1))))))))))
          ((∃ x_01 : Int, ∃ x_11 : Int, ∃ x_21 : Int, ∃ x_31 : Int, cellsAt w5 (nb w2) 0 [(.int .i64 x_01), (.int .i64 x_11), (.int .i64 x_21), (.int .i64 x_31)] ∧
          (sxStore w5 (nb w1) 0 [(.int .i64 x_01), (.int .i64 x_11), (.int .i64 x_21), (.int .i64 x_31)] fun w8 =>
          (∃ r_01 : Int, ∃ r_11 : Int, ∃ r_21 : Int, ∃ r_31 : Int, cellsAt w8 (nb w1) 0 [(.int .i64 r_01), (.int .i64 r_11), (.int .i64 r_21), (.int .i64 r_31)] ∧
          R (.tuple #[(.agg #[.int .i64 r_01, .int .i64 r_11, .int .i64 r_21, .int .i64 r_31]), (.int .i64 (0 : Int))]) w8))))))))))))
    ((let x4 := (x == (8 : Int));
    (bsplit x4
      ((∃ x_a2 : Option Addr, ∃ x_l2 : Nat, ∃ x_c2 : Nat, w3.cell? ((nb w).add 1) = some (.slice x_a2 x_l2 x_c2) ∧
      (bsplit ((x_l2 : Int) != (1 : Int))
        ((∃ x_02 : Int, ∃ x_12 : Int, ∃ x_22 : Int, ∃ x_32 : Int, cellsAt w3 (nb w2) 0 [(.int .i64 x_02), (.int .i64 x_12), (.int .i64 x_22), (.int .i64 x_32)] ∧
        (sxStore w3 (nb w1) 0 [(.int .i64 x_02), (.int .i64 x_12), (.int .i64 x_22), (.int .i64 x_32)] fun w9 =>
        (∃ r_02 : Int, ∃ r_12 : Int, ∃ r_22 : Int, ∃ r_32 : Int, cellsAt w9 (nb w1) 0 [(.int .i64 r_02), (.int .i64 r_12), (.int .i64 r_22), (.int .i64 r_32)] ∧
        R (.tuple #[(.agg #[.int .i64 r_02, .int .i64 r_12, .int .i64 r_22, .int .i64 r_32]), (.int .i64 (2 : Int))]) w9))))
        ((∃ x_a3 : Option Addr, ∃ x_l3 : Nat, ∃ x_c3 : Nat, w3.cell? ((nb w).add 1) = some (.slice x_a3 x_l3 x_c3) ∧
        (∃ b1 : Addr, x_a3 = some b1 ∧ (0 ≤ (0 : Int) ∧ (0 : Int) < (x_l3 : Int)) ∧
        (∃ x5 : Int, w3.cell? (b1.add ((0 : Int).toNat * 1)) = some (.int .u8 x5) ∧
        (bsplit ((bAnd .u8 x5 (48 : Int)) != (0 : Int))
          ((∃ x_03 : Int, ∃ x_13 : Int, ∃ x_23 : Int, ∃ x_33 : Int, cellsAt w3 (nb w2) 0 [(.int .i64 x_03), (.int .i64 x_13), (.int .i64 x_23), (.int .i64 x_33)] ∧
          (sxStore w3 (nb w1) 0 [(.int .i64 x_03), (.int .i64 x_13), (.int .i64 x_23), (.int .i64 x_33)] fun w10 =>
          (∃ r_03 : Int, ∃ r_13 : Int, ∃ r_23 : Int, ∃ r_33 : Int, cellsAt w10 (nb w1) 0 [(.int .i64 r_03), (.int .i64 r_13), (.int .i64 r_23), (.int .i64 r_33)] ∧
          R (.tuple #[(.agg #[.int .i64 r_03, .int .i64 r_13, .int .i64 r_23, .int .i64 r_33]), (.int .i64 (4 : Int))]) w10))))
          ((let w11 := w3.drew;
          (∃ S : Nat → Prop,
          (∃ x_a4 : Option Addr, ∃ x_l4 : Nat, ∃ x_c4 : Nat, w11.cell? ((nb w).add 1) = some (.slice x_a4 x_l4 x_c4) ∧
          (∃ b2 : Addr, x_a4 = some b2 ∧ (0 ≤ (0 : Int) ∧ (0 : Int) < (x_l4 : Int)) ∧
          (∃ x6 : Int, w11.cell? (b2.add ((0 : Int).toNat * 1)) = some (.int .u8 x6) ∧
          (∃ x_a5 : Option Addr, ∃ x_l5 : Nat, ∃ x_c5 : Nat, w11.cell? ((nb w).add 1) = some (.slice x_a5 x_l5 x_c5) ∧
          (∃ b3 : Addr, x_a5 = some b3 ∧ (0 ≤ (0 : Int) ∧ (0 : Int) < (x_l5 : Int)) ∧
          (∃ x7 : Int, w11.cell? (b3.add ((0 : Int).toNat * 1)) = some (.int .u8 x7) ∧
          ((0 ≤ (Int.fdiv x6 (2 ^ 6)) ∧ (Int.fdiv x6 (2 ^ 6)) < (4 : Int)) ∧
          ((∃ u, w11.cell? ((nb w2).add ((Int.fdiv x6 (2 ^ 6)).toNat * 1)) = some u) ∧ w11.frozen? ((nb w2).add ((Int.fdiv x6 (2 ^ 6)).toNat * 1)) = false ∧
          (let w12 := w11.setCell ((nb w2).add ((Int.fdiv x6 (2 ^ 6)).toNat * 1)) (.int .i64 (IntKind.wrap .i64 (bAnd .u8 x7 (15 : Int))));
          (KeepsB S w11 w12 ∧ (∃ x_04 : Int, ∃ x_14 : Int, ∃ x_24 : Int, ∃ x_34 : Int, cellsAt w12 (nb w2) 0 [(.int .i64 x_04), (.int .i64 x_14), (.int .i64 x_24), (.int .i64 x_34)] ∧
          (sxStore w12 (nb w1) 0 [(.int .i64 x_04), (.int .i64 x_14), (.int .i64 x_24), (.int .i64 x_34)] fun w13 =>
          (∃ r_04 : Int, ∃ r_14 : Int, ∃ r_24 : Int, ∃ r_34 : Int, cellsAt w13 (nb w1) 0 [(.int .i64 r_04), (.int .i64 r_14), (.int .i64 r_24), (.int .i64 r_34)] ∧
          R (.tuple #[(.agg #[.int .i64 r_04, .int .i64 r_14, .int .i64 r_24, .int .i64 r_34]), (.int .i64 (0 : Int))]) w13))))))))))))))))))))))))
      ((∃ x_05 : Int, ∃ x_15 : Int, ∃ x_25 : Int, ∃ x_35 : Int, cellsAt w3 (nb w2) 0 [(.int .i64 x_05), (.int .i64 x_15), (.int .i64 x_25), (.int .i64 x_35)] ∧
      (sxStore w3 (nb w1) 0 [(.int .i64 x_05), (.int .i64 x_15), (.int .i64 x_25), (.int .i64 x_35)] fun w14 =>
      (∃ r_05 : Int, ∃ r_15 : Int, ∃ r_25 : Int, ∃ r_35 : Int, cellsAt w14 (nb w1) 0 [(.int .i64 r_05), (.int .i64 r_15), (.int .i64 r_25), (.int .i64 r_35)] ∧
      R (.tuple #[(.agg #[.int .i64 r_05, .int .i64 r_15, .int .i64 r_25, .int .i64 r_35]), (.int .i64 (7 : Int))]) w14)))))))))))))
theorem F_buffer_Decode_eq (s_0 : Int) (s_1_a : Option Addr) (s_1_l : Nat) (s_1_c : Nat) (w : World) (R : Value → World → Prop) : sxFn Try.prog TT h_buffer_Decode Try.f13 #[(.agg #[.int .i64 s_0, .slice s_1_a s_1_l s_1_c])] w R = F_buffer_Decode s_0 s_1_a s_1_l s_1_c w R := by kernel_rfl
theorem F_buffer_Decode_ok {R : Ending → World → Prop} (s_0 : Int) (s_1_a : Option Addr) (s_1_l : Nat) (s_1_c : Nat) (w : World) (h : F_buffer_Decode s_0 s_1_a s_1_l s_1_c w fun v w' => R (.returned v) w') : Calls Try.prog N_buffer_Decode #[(.agg #[.int .i64 s_0, .slice s_1_a s_1_l s_1_c])] w R :=
  calls_of (f := 13) follows_ok Try.func13 (Eq.mpr (F_buffer_Decode_eq s_0 s_1_a s_1_l s_1_c w _) h)

def h_buffer_bounds : H := (.seq .reg (.seq .reg (.seq (.seq .reg (.block (.loop [(2, .p (.int .i64))] [2, 3, 4, 5, 6, 7, 8, 9, 10, 11] (.seq (.seq .reg (.cond .leaf .leaf)) (.seq (.block .reg) .reg))))) (.seq .reg (.seq .reg .leaf)))))
def F_buffer_bounds  (w : World) (R : Value → World → Prop) : Prop :=
  (let w1 := w.alloc (.cells #[.int .i64 (0 : Int), .int .i64 (0 : Int), .int .i64 (0 : Int), .int .i64 (0 : Int), .int .i64 (0 : Int), .int .i64 (0 : Int), .int .i64 (0 : Int), .int .i64 (0 : Int), .int .i64 (0 : Int), .int .i64 (0 : Int), .int .i64 (0 : Int), .int .i64 (0 : Int), .int .i64 (0 : Int), .int .i64 (0 : Int), .int .i64 (0 : Int), .int .i64 (0 : Int)] Ty_16_int);
  (let w2 := w1.alloc (.cells #[.int .i64 (0 : Int), .int .i64 (0 : Int), .int .i64 (0 : Int), .int .i64 (0 : Int), .int .i64 (0 : Int), .int .i64 (0 : Int), .int .i64 (0 : Int), .int .i64 (0 : Int), .int .i64 (0 : Int), .int .i64 (0 : Int), .int .i64 (0 : Int), .int .i64 (0 : Int), .int .i64 (0 : Int), .int .i64 (0 : Int), .int .i64 (0 : Int), .int .i64 (0 : Int)] Ty_16_int);
  (∃ I : Int → Nat × (World → Prop), (I (1 : Int)).2 w2 ∧
  (∀ (_junk : Env) (level : Int) (w3 : World), (I level).2 w3 →
    (bsplit (decide (level < (15 : Int)))
      ((0 ≤ (IntKind.wrap .i64 (level - (1 : Int))) ∧ ((0 ≤ level ∧ level < (16 : Int)) ∧
      ((∃ u, w3.cell? ((nb w1).add (level.toNat * 1)) = some u) ∧ w3.frozen? ((nb w1).add (level.toNat * 1)) = false ∧
      (let w4 := w3.setCell ((nb w1).add (level.toNat * 1)) (.int .i64 (IntKind.wrap .i64 ((8 : Int) * 2 ^ (min (IntKind.wrap .i64 (level - (1 : Int))).toNat (IntKind.bits .i64)))));
      (let level1 := (IntKind.wrap .i64 (level + (1 : Int)));
      ((I level1).2 w4 ∧ (I level1).1 < (I level).1)))))))
      (((∃ u, w3.cell? ((nb w1).add 15) = some u) ∧ w3.frozen? ((nb w1).add 15) = false ∧
      (let w5 := w3.setCell ((nb w1).add 15) (.int .i64 (1048576 : Int));
      (∃ x : Array Value, x.size = 16 ∧ cellsAt w5 (nb w1) 0 x.toList ∧
      (bcond (Nat.beq x.size 16) (sxStore w5 (nb w) 0 x.toList fun w6 =>
      (∃ r : Array Value, r.size = 16 ∧ cellsAt w6 (nb w) 0 r.toList ∧
      R (.agg r) w6))))))))))))
theorem F_buffer_bounds_eq  (w : World) (R : Value → World → Prop) : sxFn Try.prog TT h_buffer_bounds Try.f20 #[] w R = F_buffer_bounds  w R := by kernel_rfl
theorem F_buffer_bounds_ok {R : Ending → World → Prop}  (w : World) (h : F_buffer_bounds  w fun v w' => R (.returned v) w') : Calls Try.prog N_buffer_bounds #[] w R :=
  calls_of (f := 20) follows_ok Try.func20 (Eq.mpr (F_buffer_bounds_eq  w _) h)

def h_slices_Min_Sint_int : H := (.seq .reg (.cut [] [5, 6, 7, 8] (.seq .reg (.cond .reg .leaf)) (.seq .reg (.seq (.seq .reg (.block (.loop [(3, .p (.int .i64)), (4, .p (.int .i64))] [3, 4, 12, 13, 14, 15, 16, 17, 18, 19, 20, 21, 22, 23] (.seq (.seq .reg (.cond .leaf .leaf)) (.seq (.block .reg) .reg))))) (.seq .reg .leaf)))))
def F_slices_Min_Sint_int (x_a : Option Addr) (x_l : Nat) (x_c : Nat) (w : World) (R : Value → World → Prop) : Prop :=
  (∃ J : World → Prop,
  (∀ (_junk : Env)  (w1 : World), J w1 →
    (∃ b : Addr, x_a = some b ∧ (0 ≤ (0 : Int) ∧ (0 : Int) < (x_l : Int)) ∧
    (∃ x : Int, w1.cell? (b.add ((0 : Int).toNat * 1)) = some (.int .i64 x) ∧
    (∃ I : Int → Int → Nat × (World → Prop), (I x (1 : Int)).2 w1 ∧
    (∀ (_junk : Env) (m : Int) (i : Int) (w2 : World), (I m i).2 w2 →
      (bsplit (decide (i < (x_l : Int)))
        ((∃ b1 : Addr, x_a = some b1 ∧ (0 ≤ i ∧ i < (x_l : Int)) ∧
        (∃ x1 : Int, w2.cell? (b1.add (i.toNat * 1)) = some (.int .i64 x1) ∧
        (let m1 := (if x1 < m then x1 else m);
        (let i1 := (IntKind.wrap .i64 (i + (1 : Int)));
        ((I m1 i1).2 w2 ∧ (I m1 i1).1 < (I m i).1))))))
        (R (.int .i64 m) w2))))))) ∧
  (bsplit (decide ((x_l : Int) < (1 : Int)))
    (False)
    (J w)))
theorem F_slices_Min_Sint_int_eq (x_a : Option Addr) (x_l : Nat) (x_c : Nat) (w : World) (R : Value → World → Prop) : sxFn Try.prog TT h_slices_Min_Sint_int Try.f21 #[(.slice x_a x_l x_c)] w R = F_slices_Min_Sint_int x_a x_l x_c w R := by kernel_rfl
theorem F_slices_Min_Sint_int_ok {R : Ending → World → Prop} (x_a : Option Addr) (x_l : Nat) (x_c : Nat) (w : World) (h : F_slices_Min_Sint_int x_a x_l x_c w fun v w' => R (.returned v) w') : Calls Try.prog N_slices_Min_Sint_int #[(.slice x_a x_l x_c)] w R :=
  calls_of (f := 21) follows_ok Try.func21 (Eq.mpr (F_slices_Min_Sint_int_eq x_a x_l x_c w _) h)

def h_slices_Max_Sint_int : H := (.seq .reg (.cut [] [5, 6, 7, 8] (.seq .reg (.cond .reg .leaf)) (.seq .reg (.seq (.seq .reg (.block (.loop [(3, .p (.int .i64)), (4, .p (.int .i64))] [3, 4, 12, 13, 14, 15, 16, 17, 18, 19, 20, 21, 22, 23] (.seq (.seq .reg (.cond .leaf .leaf)) (.seq (.block .reg) .reg))))) (.seq .reg .leaf)))))
def F_slices_Max_Sint_int (x_a : Option Addr) (x_l : Nat) (x_c : Nat) (w : World) (R : Value → World → Prop) : Prop :=
  (∃ J : World → Prop,
  (∀ (_junk : Env)  (w1 : World), J w1 →
    (∃ b : Addr, x_a = some b ∧ (0 ≤ (0 : Int) ∧ (0 : Int) < (x_l : Int)) ∧
    (∃ x : Int, w1.cell? (b.add ((0 : Int).toNat * 1)) = some (.int .i64 x) ∧
    (∃ I : Int → Int → Nat × (World → Prop), (I x (1 : Int)).2 w1 ∧
    (∀ (_junk : Env) (m : Int) (i : Int) (w2 : World), (I m i).2 w2 →
      (bsplit (decide (i < (x_l : Int)))
        ((∃ b1 : Addr, x_a = some b1 ∧ (0 ≤ i ∧ i < (x_l : Int)) ∧
        (∃ x1 : Int, w2.cell? (b1.add (i.toNat * 1)) = some (.int .i64 x1) ∧
        (let m1 := (if x1 > m then x1 else m);
        (let i1 := (IntKind.wrap .i64 (i + (1 : Int)));
        ((I m1 i1).2 w2 ∧ (I m1 i1).1 < (I m i).1))))))
        (R (.int .i64 m) w2))))))) ∧
  (bsplit (decide ((x_l : Int) < (1 : Int)))
    (False)
    (J w)))
theorem F_slices_Max_Sint_int_eq (x_a : Option Addr) (x_l : Nat) (x_c : Nat) (w : World) (R : Value → World → Prop) : sxFn Try.prog TT h_slices_Max_Sint_int Try.f22 #[(.slice x_a x_l x_c)] w R = F_slices_Max_Sint_int x_a x_l x_c w R := by kernel_rfl
theorem F_slices_Max_Sint_int_ok {R : Ending → World → Prop} (x_a : Option Addr) (x_l : Nat) (x_c : Nat) (w : World) (h : F_slices_Max_Sint_int x_a x_l x_c w fun v w' => R (.returned v) w') : Calls Try.prog N_slices_Max_Sint_int #[(.slice x_a x_l x_c)] w R :=
  calls_of (f := 22) follows_ok Try.func22 (Eq.mpr (F_slices_Max_Sint_int_eq x_a x_l x_c w _) h)

end Go.Proofs.Ytamkmafmhglfkaa
