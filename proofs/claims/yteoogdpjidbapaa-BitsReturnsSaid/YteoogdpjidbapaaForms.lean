import Derived.Test.YteoogdpjidbapaaBase
import Derived.KernelRfl
namespace Go.Proofs.Yteoogdpjidbapaa
open Go.Sx Go.RowKit
set_option maxRecDepth 100000

def h_law01_BitsSplits : H := (.seq .reg (.seq (.seq .reg (.cond (.seq .reg .leaf) .leaf)) (.seq .reg (.seq .reg (.seq .reg (.seq .reg (.seq .reg (.seq .reg (.seq .reg .leaf)))))))))
def F_law01_BitsSplits (b_a : Option Addr) (b_l : Nat) (b_c : Nat) (n_0 : Int) (n_1 : Int) (n_2 : Int) (w : World) (R : Value → World → Prop) : Prop :=
  (let w1 := w.alloc (.cells #[(.int .i64 n_0), (.int .i64 n_1), (.int .i64 n_2)] Ty_3_int);
  (bsplit ((b_l : Int) == (0 : Int))
    ((Calls Try.prog N_law01_awake #[] w1 fun e_ w2 =>
    ∃ r : Bool, e_ = .returned (.bool r) ∧
    R (.bool r) w2))
    ((∃ x : Int, w1.cell? (nb w) = some (.int .i64 x) ∧
    (Calls Try.prog N_made_Mod #[(.int .i64 x), (.int .i64 (IntKind.wrap .i64 ((8 : Int) * (b_l : Int))))] w1 fun e_1 w3 =>
    ∃ r1 : Int, e_1 = .returned (.int .i64 r1) ∧
    (∃ x1 : Int, w3.cell? ((nb w).add 1) = some (.int .i64 x1) ∧
    (Calls Try.prog N_made_Mod #[(.int .i64 x1), (.int .i64 (if (IntKind.wrap .i64 ((IntKind.wrap .i64 ((IntKind.wrap .i64 ((8 : Int) * (b_l : Int))) - r1)) + (1 : Int))) < (33 : Int) then (IntKind.wrap .i64 ((IntKind.wrap .i64 ((IntKind.wrap .i64 ((8 : Int) * (b_l : Int))) - r1)) + (1 : Int))) else (33 : Int)))] w3 fun e_2 w4 =>
    ∃ r2 : Int, e_2 = .returned (.int .i64 r2) ∧
    (∃ x2 : Int, w4.cell? ((nb w).add 2) = some (.int .i64 x2) ∧
    (Calls Try.prog N_made_Mod #[(.int .i64 x2), (.int .i64 (IntKind.wrap .i64 (r2 + (1 : Int))))] w4 fun e_3 w5 =>
    ∃ r3 : Int, e_3 = .returned (.int .i64 r3) ∧
    (Calls Try.prog N_bits_Read #[(.slice b_a b_l b_c), (.int .i64 r1), (.int .i64 r2)] w5 fun e_4 w6 =>
    ∃ r4 : Int, ∃ r5 : Int, e_4 = .returned (.tuple #[(.int .i64 r4), (.int .i64 r5)]) ∧
    (Calls Try.prog N_bits_Read #[(.slice b_a b_l b_c), (.int .i64 r1), (.int .i64 r3)] w6 fun e_5 w7 =>
    ∃ r6 : Int, ∃ r7 : Int, e_5 = .returned (.tuple #[(.int .i64 r6), (.int .i64 r7)]) ∧
    (Calls Try.prog N_bits_Read #[(.slice b_a b_l b_c), (.int .i64 (IntKind.wrap .i64 (r1 + r3))), (.int .i64 (IntKind.wrap .i64 (r2 - r3)))] w7 fun e_6 w8 =>
    ∃ r8 : Int, ∃ r9 : Int, e_6 = .returned (.tuple #[(.int .i64 r8), (.int .i64 r9)]) ∧
    (Calls Try.prog N_law01_awake #[] w8 fun e_7 w9 =>
    ∃ r10 : Bool, e_7 = .returned (.bool r10) ∧
    (bsplit r10
      ((bsplit (r5 == (0 : Int))
        ((bsplit (r7 == (0 : Int))
          ((bsplit (r9 == (0 : Int))
            ((0 ≤ (IntKind.wrap .u64 (IntKind.wrap .i64 (r2 - r3))) ∧ (let x3 := (r4 == (IntKind.wrap .i64 ((IntKind.wrap .i64 (r6 * 2 ^ (min (IntKind.wrap .u64 (IntKind.wrap .i64 (r2 - r3))).toNat (IntKind.bits .i64)))) + r8)));
            R (.bool x3) w9)))
            (R (.bool false) w9)))
          (R (.bool false) w9)))
        (R (.bool false) w9)))
      (R (.bool false) w9)))))))))))))))
theorem F_law01_BitsSplits_eq (b_a : Option Addr) (b_l : Nat) (b_c : Nat) (n_0 : Int) (n_1 : Int) (n_2 : Int) (w : World) (R : Value → World → Prop) : sxFn Try.prog TT h_law01_BitsSplits Try.f3 #[(.slice b_a b_l b_c), (.agg #[.int .i64 n_0, .int .i64 n_1, .int .i64 n_2])] w R = F_law01_BitsSplits b_a b_l b_c n_0 n_1 n_2 w R := by kernel_rfl
theorem F_law01_BitsSplits_ok {R : Ending → World → Prop} (b_a : Option Addr) (b_l : Nat) (b_c : Nat) (n_0 : Int) (n_1 : Int) (n_2 : Int) (w : World) (h : F_law01_BitsSplits b_a b_l b_c n_0 n_1 n_2 w fun v w' => R (.returned v) w') : Calls Try.prog N_law01_BitsSplits #[(.slice b_a b_l b_c), (.agg #[.int .i64 n_0, .int .i64 n_1, .int .i64 n_2])] w R :=
  calls_of (f := 3) follows_ok Try.func3 (Eq.mpr (F_law01_BitsSplits_eq b_a b_l b_c n_0 n_1 n_2 w _) h)

def h_law01_BitsReads : H := (.seq .reg (.cut [(7, .p .addr)] [7, 17, 18, 19, 20, 21, 22, 23, 24, 25, 26, 27, 28, 29, 30, 31, 32, 33, 34, 35, 36] (.draw true (.one 0 .stable (.one 1 .stable (.one 2 .stable (.one 3 .stable (.one 4 .stable (.one 5 .stable (.one 6 .stable (.one 8 .stable (.one 9 .stable (.one 11 .stable (.one 12 .stable (.one 13 .stable (.alt 7 (.alt 10 (.alt 14 (.one 15 .stable (.one 16 .stable (.alt 17 (.alt 18 (.alt 19 (.one 20 .keep (.one 21 .last .nil)) (.alt 20 (.one 19 .keep (.one 21 .last .nil)) .endAlt)) (.alt 20 (.one 18 .keep (.one 19 .keep (.one 21 .last .nil))) .endAlt)) (.alt 20 (.one 17 .keep (.one 18 .keep (.one 19 .keep (.one 21 .last .nil)))) .endAlt)))) (.alt 20 (.one 14 .keep (.one 15 .stable (.one 16 .stable (.one 17 .keep (.one 18 .keep (.one 19 .keep (.one 21 .last .nil))))))) .endAlt)) (.alt 20 (.one 10 .keep (.one 14 .keep (.one 15 .stable (.one 16 .stable (.one 17 .keep (.one 18 .keep (.one 19 .keep (.one 21 .last .nil)))))))) .endAlt)) (.alt 20 (.one 7 .keep (.one 10 .keep (.one 14 .keep (.one 15 .stable (.one 16 .stable (.one 17 .keep (.one 18 .keep (.one 19 .keep (.one 21 .last .nil))))))))) .endAlt))))))))))))))) (.seq (.seq .reg (.block (.loop [(8, .p (.int .i64))] [6, 8, 9, 10, 11, 12, 13, 14, 15, 16, 37, 38, 39, 40, 41, 42, 43, 44, 45, 46, 47, 48, 49, 50, 51, 52, 53, 54, 55, 56, 57, 58, 59, 60, 61, 62, 63, 64, 65, 66, 67, 68, 69, 70, 71, 72, 73, 74, 75, 76, 77, 78, 79, 80, 81, 82, 83, 84, 85, 86, 87, 88, 89, 90, 91, 92, 93, 94, 95, 96, 97, 98, 99, 100, 101, 102, 103, 104, 105, 106, 107, 108, 109, 110, 111, 112, 113, 114, 115, 116, 117, 118, 119] (.seq (.seq .reg (.cond .leaf .leaf)) (.seq (.block (.seq (.draw true (.one 0 .stable (.one 1 .stable (.one 2 .stable (.one 3 .stable (.one 4 .stable (.one 5 .stable (.one 6 .stable (.one 7 .stable (.one 8 .stable (.one 9 .keep (.one 10 .stable (.one 11 .stable (.one 12 .stable (.one 13 .stable (.one 14 .stable .nil)))))))))))))))) (.seq (.draw true (.one 0 .stable (.one 1 .stable (.one 2 .stable (.one 3 .stable (.one 4 .stable (.one 5 .stable (.one 6 .stable (.one 7 .stable (.one 8 .stable (.one 9 .keep (.one 10 .stable (.one 11 .stable (.one 12 .stable (.one 13 .stable (.one 14 .stable .nil)))))))))))))))) (.seq (.draw true (.one 0 .stable (.one 1 .stable (.one 2 .stable (.one 3 .stable (.one 4 .stable (.one 5 .stable (.one 6 .stable (.one 7 .stable (.one 8 .stable (.one 9 .stable (.one 10 .stable (.one 11 .stable (.one 12 .stable (.one 13 .keep (.one 14 .stable (.one 15 .stable (.one 16 .stable (.one 17 .stable (.one 18 .stable .nil)))))))))))))))))))) (.seq (.draw true (.one 0 .stable (.one 1 .stable (.one 2 .stable (.one 3 .stable (.one 4 .stable (.one 5 .stable (.one 6 .stable (.one 7 .stable (.one 8 .stable (.one 9 .stable (.one 10 .stable (.one 11 .stable (.one 12 .stable (.one 13 .keep (.one 14 .stable (.one 15 .stable (.one 16 .stable (.one 17 .stable (.one 18 .stable .nil)))))))))))))))))))) (.seq .reg (.cond (.seq .reg .leaf) .leaf))))))) .reg))))) (.seq .reg .leaf))))
def F_law01_BitsReads (b_a : Option Addr) (b_l : Nat) (b_c : Nat) (n_0 : Int) (n_1 : Int) (n_2 : Int) (near : Int) (w : World) (R : Value → World → Prop) : Prop :=
  (let w1 := w.alloc (.cells #[(.int .i64 n_0), (.int .i64 n_1), (.int .i64 n_2)] Ty_3_int);
  (∃ J : Addr → World → Prop,
  (∀ (_junk : Env) (l : Addr) (w31 : World), J l w31 →
    (∃ I : Int → Nat × (World → Prop), (I (0 : Int)).2 w31 ∧
    (∀ (_junk : Env) (i : Int) (w32 : World), (I i).2 w32 →
      (bsplit (decide (i < (2 : Int)))
        ((let w33 := w32.drew;
        (∃ S1 : Nat → Prop,
        ((0 ≤ i ∧ i < (2 : Int)) ∧
        (S1 (l.add (i.toNat * 3)).block ∧
        (∃ x3 : Int, w33.cell? (l.add (i.toNat * 3)) = some (.int .i64 x3) ∧
        ((0 ≤ i ∧ i < (2 : Int)) ∧
        (S1 ((l.add (i.toNat * 3)).add 1).block ∧
        (∃ x4 : Int, w33.cell? ((l.add (i.toNat * 3)).add 1) = some (.int .i64 x4) ∧
        (Calls Try.prog N_bits_Read #[(.slice b_a b_l b_c), (.int .i64 x3), (.int .i64 x4)] w33 fun e_14 w34 =>
        ∃ r14 : Int, ∃ r15 : Int, e_14 = .returned (.tuple #[(.int .i64 r14), (.int .i64 r15)]) ∧
        (KeepsB S1 w33 w34 ∧ (let w35 := w34.drew;
        (∃ S2 : Nat → Prop,
        ((0 ≤ i ∧ i < (2 : Int)) ∧
        (S2 (l.add (i.toNat * 3)).block ∧
        (∃ x5 : Int, w35.cell? (l.add (i.toNat * 3)) = some (.int .i64 x5) ∧
        ((0 ≤ i ∧ i < (2 : Int)) ∧
        (S2 ((l.add (i.toNat * 3)).add 1).block ∧
        (∃ x6 : Int, w35.cell? ((l.add (i.toNat * 3)).add 1) = some (.int .i64 x6) ∧
        (Calls Try.prog N_ref01_Read #[(.slice b_a b_l b_c), (.int .i64 x5), (.int .i64 x6)] w35 fun e_15 w36 =>
        ∃ r16 : Int, ∃ r17 : Int, e_15 = .returned (.tuple #[(.int .i64 r16), (.int .i64 r17)]) ∧
        (KeepsB S2 w35 w36 ∧ (let w37 := w36.drew;
        (∃ S3 : Nat → Prop,
        ((0 ≤ i ∧ i < (2 : Int)) ∧
        (S3 (l.add (i.toNat * 3)).block ∧
        (∃ x7 : Int, w37.cell? (l.add (i.toNat * 3)) = some (.int .i64 x7) ∧
        ((0 ≤ i ∧ i < (2 : Int)) ∧
        (S3 ((l.add (i.toNat * 3)).add 1).block ∧
        (∃ x8 : Int, w37.cell? ((l.add (i.toNat * 3)).add 1) = some (.int .i64 x8) ∧
        ((0 ≤ i ∧ i < (2 : Int)) ∧
        (S3 ((l.add (i.toNat * 3)).add 2).block ∧
        (∃ x9 : Int, w37.cell? ((l.add (i.toNat * 3)).add 2) = some (.int .i64 x9) ∧
        (Calls Try.prog N_bits_Write #[(.slice b_a b_l b_c), (.int .i64 x7), (.int .i64 x8), (.int .i64 x9)] w37 fun e_16 w38 =>
        ∃ r_a : Option Addr, ∃ r_l : Nat, ∃ r_c : Nat, ∃ r18 : Int, e_16 = .returned (.tuple #[(.slice r_a r_l r_c), (.int .i64 r18)]) ∧
        (KeepsB S3 w37 w38 ∧ (let w39 := w38.drew;
        (∃ S4 : Nat → Prop,
        ((0 ≤ i ∧ i < (2 : Int)) ∧
        (S4 (l.add (i.toNat * 3)).block ∧
        (∃ x10 : Int, w39.cell? (l.add (i.toNat * 3)) = some (.int .i64 x10) ∧
        ((0 ≤ i ∧ i < (2 : Int)) ∧
        (S4 ((l.add (i.toNat * 3)).add 1).block ∧
        (∃ x11 : Int, w39.cell? ((l.add (i.toNat * 3)).add 1) = some (.int .i64 x11) ∧
        ((0 ≤ i ∧ i < (2 : Int)) ∧
        (S4 ((l.add (i.toNat * 3)).add 2).block ∧
        (∃ x12 : Int, w39.cell? ((l.add (i.toNat * 3)).add 2) = some (.int .i64 x12) ∧
        (Calls Try.prog N_ref01_Write #[(.slice b_a b_l b_c), (.int .i64 x10), (.int .i64 x11), (.int .i64 x12)] w39 fun e_17 w40 =>
        ∃ r_a1 : Option Addr, ∃ r_l1 : Nat, ∃ r_c1 : Nat, ∃ r19 : Int, e_17 = .returned (.tuple #[(.slice r_a1 r_l1 r_c1), (.int .i64 r19)]) ∧
        (KeepsB S4 w39 w40 ∧ (bsplit (r15 != r17)
          (R (.bool false) w40)
          ((bsplit (r14 != r16)
            (R (.bool false) w40)
            ((bsplit (r18 != r19)
              (R (.bool false) w40)
              ((Calls Try.prog N_ref01_Same #[(.slice r_a r_l r_c), (.slice r_a1 r_l1 r_c1)] w40 fun e_18 w41 =>
              ∃ r20 : Bool, e_18 = .returned (.bool r20) ∧
              (bsplit (!r20)
                (R (.bool false) w41)
                ((let i4 := (IntKind.wrap .i64 (i + (1 : Int)));
                ((I i4).2 w41 ∧ (I i4).1 < (I i).1))))))))))))))))))))))))))))))))))))))))))))))))))))))))))
        ((Calls Try.prog N_law01_awake #[] w32 fun e_19 w42 =>
        ∃ r21 : Bool, e_19 = .returned (.bool r21) ∧
        R (.bool r21) w42)))))) ∧
  (let w2 := w1.drew;
  (∃ S : Nat → Prop,
  (S (nb w).block ∧
  (∃ x_0 : Int, ∃ x_1 : Int, ∃ x_2 : Int, cellsAt w2 (nb w) 0 [(.int .i64 x_0), (.int .i64 x_1), (.int .i64 x_2)] ∧
  (S (nb w).block ∧
  (∃ x : Int, w2.cell? (nb w) = some (.int .i64 x) ∧
  (S ((nb w).add 1).block ∧
  (∃ x1 : Int, w2.cell? ((nb w).add 1) = some (.int .i64 x1) ∧
  (S ((nb w).add 2).block ∧
  (∃ x2 : Int, w2.cell? ((nb w).add 2) = some (.int .i64 x2) ∧
  ((Calls Try.prog N_made_Mod #[(.int .i64 x), (.int .i64 (IntKind.wrap .i64 ((IntKind.wrap .i64 ((8 : Int) * (b_l : Int))) + (2 : Int))))] w2 fun e_4 w9 =>
  ∃ r4 : Int, e_4 = .returned (.int .i64 r4) ∧
  (KeepsB S w2 w9 ∧ ((Calls Try.prog N_made_Mod #[(.int .i64 x1), (.int .i64 (34 : Int))] w9 fun e_8 w15 =>
  ∃ r8 : Int, e_8 = .returned (.int .i64 r8) ∧
  (KeepsB S w2 w15 ∧ ((Calls Try.prog N_made_Mod #[(.int .i64 near), (.int .i64 (33 : Int))] w15 fun e_11 w20 =>
  ∃ r11 : Int, e_11 = .returned (.int .i64 r11) ∧
  (KeepsB S w2 w20 ∧ (0 ≤ (IntKind.wrap .u64 r11) ∧ ((Calls Try.prog N_made_Mod #[(.int .i64 x2), (.int .i64 (IntKind.wrap .i64 ((1 : Int) * 2 ^ (min (IntKind.wrap .u64 r11).toNat (IntKind.bits .i64)))))] w20 fun e_13 w24 =>
  ∃ r13 : Int, e_13 = .returned (.int .i64 r13) ∧
  (KeepsB S w2 w24 ∧ ((KeepsB S w2 w24 ∧ ((KeepsB S w2 w24 ∧ (let w29 := w24.alloc (.cells #[.int .i64 (0 : Int), .int .i64 (0 : Int), .int .i64 (0 : Int), .int .i64 (0 : Int), .int .i64 (0 : Int), .int .i64 (0 : Int)] Ty_2_3_int);
  (KeepsB S w2 w29 ∧ (sxStore w29 (nb w24) 0 [(.int .i64 x_0), (.int .i64 x_1), (.int .i64 x_2), (.int .i64 r4), (.int .i64 r8), (.int .i64 r13)] fun w30 =>
  J (nb w24) w30)))) ∧
  ((let w27 := w24.alloc (.cells #[.int .i64 (0 : Int), .int .i64 (0 : Int), .int .i64 (0 : Int), .int .i64 (0 : Int), .int .i64 (0 : Int), .int .i64 (0 : Int)] Ty_2_3_int);
  (KeepsB S w2 w27 ∧ (KeepsB S w2 w27 ∧ (sxStore w27 (nb w24) 0 [(.int .i64 x_0), (.int .i64 x_1), (.int .i64 x_2), (.int .i64 r4), (.int .i64 r8), (.int .i64 r13)] fun w28 =>
  J (nb w24) w28)))) ∧
  True))) ∧
  ((let w25 := w24.alloc (.cells #[.int .i64 (0 : Int), .int .i64 (0 : Int), .int .i64 (0 : Int), .int .i64 (0 : Int), .int .i64 (0 : Int), .int .i64 (0 : Int)] Ty_2_3_int);
  (KeepsB S w2 w25 ∧ (KeepsB S w2 w25 ∧ (KeepsB S w2 w25 ∧ (sxStore w25 (nb w24) 0 [(.int .i64 x_0), (.int .i64 x_1), (.int .i64 x_2), (.int .i64 r4), (.int .i64 r8), (.int .i64 r13)] fun w26 =>
  J (nb w24) w26))))) ∧
  True)))) ∧
  ((let w21 := w20.alloc (.cells #[.int .i64 (0 : Int), .int .i64 (0 : Int), .int .i64 (0 : Int), .int .i64 (0 : Int), .int .i64 (0 : Int), .int .i64 (0 : Int)] Ty_2_3_int);
  (KeepsB S w2 w21 ∧ (Calls Try.prog N_made_Mod #[(.int .i64 x2), (.int .i64 (IntKind.wrap .i64 ((1 : Int) * 2 ^ (min (IntKind.wrap .u64 r11).toNat (IntKind.bits .i64)))))] w21 fun e_12 w22 =>
  ∃ r12 : Int, e_12 = .returned (.int .i64 r12) ∧
  (KeepsB S w2 w22 ∧ (KeepsB S w2 w22 ∧ (KeepsB S w2 w22 ∧ (sxStore w22 (nb w20) 0 [(.int .i64 x_0), (.int .i64 x_1), (.int .i64 x_2), (.int .i64 r4), (.int .i64 r8), (.int .i64 r12)] fun w23 =>
  J (nb w20) w23))))))) ∧
  True))))) ∧
  ((let w16 := w15.alloc (.cells #[.int .i64 (0 : Int), .int .i64 (0 : Int), .int .i64 (0 : Int), .int .i64 (0 : Int), .int .i64 (0 : Int), .int .i64 (0 : Int)] Ty_2_3_int);
  (KeepsB S w2 w16 ∧ (Calls Try.prog N_made_Mod #[(.int .i64 near), (.int .i64 (33 : Int))] w16 fun e_9 w17 =>
  ∃ r9 : Int, e_9 = .returned (.int .i64 r9) ∧
  (KeepsB S w2 w17 ∧ (0 ≤ (IntKind.wrap .u64 r9) ∧ (Calls Try.prog N_made_Mod #[(.int .i64 x2), (.int .i64 (IntKind.wrap .i64 ((1 : Int) * 2 ^ (min (IntKind.wrap .u64 r9).toNat (IntKind.bits .i64)))))] w17 fun e_10 w18 =>
  ∃ r10 : Int, e_10 = .returned (.int .i64 r10) ∧
  (KeepsB S w2 w18 ∧ (KeepsB S w2 w18 ∧ (KeepsB S w2 w18 ∧ (sxStore w18 (nb w15) 0 [(.int .i64 x_0), (.int .i64 x_1), (.int .i64 x_2), (.int .i64 r4), (.int .i64 r8), (.int .i64 r10)] fun w19 =>
  J (nb w15) w19)))))))))) ∧
  True)))) ∧
  ((let w10 := w9.alloc (.cells #[.int .i64 (0 : Int), .int .i64 (0 : Int), .int .i64 (0 : Int), .int .i64 (0 : Int), .int .i64 (0 : Int), .int .i64 (0 : Int)] Ty_2_3_int);
  (KeepsB S w2 w10 ∧ (Calls Try.prog N_made_Mod #[(.int .i64 x1), (.int .i64 (34 : Int))] w10 fun e_5 w11 =>
  ∃ r5 : Int, e_5 = .returned (.int .i64 r5) ∧
  (KeepsB S w2 w11 ∧ (Calls Try.prog N_made_Mod #[(.int .i64 near), (.int .i64 (33 : Int))] w11 fun e_6 w12 =>
  ∃ r6 : Int, e_6 = .returned (.int .i64 r6) ∧
  (KeepsB S w2 w12 ∧ (0 ≤ (IntKind.wrap .u64 r6) ∧ (Calls Try.prog N_made_Mod #[(.int .i64 x2), (.int .i64 (IntKind.wrap .i64 ((1 : Int) * 2 ^ (min (IntKind.wrap .u64 r6).toNat (IntKind.bits .i64)))))] w12 fun e_7 w13 =>
  ∃ r7 : Int, e_7 = .returned (.int .i64 r7) ∧
  (KeepsB S w2 w13 ∧ (KeepsB S w2 w13 ∧ (KeepsB S w2 w13 ∧ (sxStore w13 (nb w9) 0 [(.int .i64 x_0), (.int .i64 x_1), (.int .i64 x_2), (.int .i64 r4), (.int .i64 r5), (.int .i64 r7)] fun w14 =>
  J (nb w9) w14)))))))))))) ∧
  True)))) ∧
  ((let w3 := w2.alloc (.cells #[.int .i64 (0 : Int), .int .i64 (0 : Int), .int .i64 (0 : Int), .int .i64 (0 : Int), .int .i64 (0 : Int), .int .i64 (0 : Int)] Ty_2_3_int);
  (KeepsB S w2 w3 ∧ (Calls Try.prog N_made_Mod #[(.int .i64 x), (.int .i64 (IntKind.wrap .i64 ((IntKind.wrap .i64 ((8 : Int) * (b_l : Int))) + (2 : Int))))] w3 fun e_ w4 =>
  ∃ r : Int, e_ = .returned (.int .i64 r) ∧
  (KeepsB S w2 w4 ∧ (Calls Try.prog N_made_Mod #[(.int .i64 x1), (.int .i64 (34 : Int))] w4 fun e_1 w5 =>
  ∃ r1 : Int, e_1 = .returned (.int .i64 r1) ∧
  (KeepsB S w2 w5 ∧ (Calls Try.prog N_made_Mod #[(.int .i64 near), (.int .i64 (33 : Int))] w5 fun e_2 w6 =>
  ∃ r2 : Int, e_2 = .returned (.int .i64 r2) ∧
  (KeepsB S w2 w6 ∧ (0 ≤ (IntKind.wrap .u64 r2) ∧ (Calls Try.prog N_made_Mod #[(.int .i64 x2), (.int .i64 (IntKind.wrap .i64 ((1 : Int) * 2 ^ (min (IntKind.wrap .u64 r2).toNat (IntKind.bits .i64)))))] w6 fun e_3 w7 =>
  ∃ r3 : Int, e_3 = .returned (.int .i64 r3) ∧
  (KeepsB S w2 w7 ∧ (KeepsB S w2 w7 ∧ (KeepsB S w2 w7 ∧ (sxStore w7 (nb w2) 0 [(.int .i64 x_0), (.int .i64 x_1), (.int .i64 x_2), (.int .i64 r), (.int .i64 r1), (.int .i64 r3)] fun w8 =>
  J (nb w2) w8)))))))))))))) ∧
  True))))))))))))))
theorem F_law01_BitsReads_eq (b_a : Option Addr) (b_l : Nat) (b_c : Nat) (n_0 : Int) (n_1 : Int) (n_2 : Int) (near : Int) (w : World) (R : Value → World → Prop) : sxFn Try.prog TT h_law01_BitsReads Try.f4 #[(.slice b_a b_l b_c), (.agg #[.int .i64 n_0, .int .i64 n_1, .int .i64 n_2]), (.int .i64 near)] w R = F_law01_BitsReads b_a b_l b_c n_0 n_1 n_2 near w R := by kernel_rfl
theorem F_law01_BitsReads_ok {R : Ending → World → Prop} (b_a : Option Addr) (b_l : Nat) (b_c : Nat) (n_0 : Int) (n_1 : Int) (n_2 : Int) (near : Int) (w : World) (h : F_law01_BitsReads b_a b_l b_c n_0 n_1 n_2 near w fun v w' => R (.returned v) w') : Calls Try.prog N_law01_BitsReads #[(.slice b_a b_l b_c), (.agg #[.int .i64 n_0, .int .i64 n_1, .int .i64 n_2]), (.int .i64 near)] w R :=
  calls_of (f := 4) follows_ok Try.func4 (Eq.mpr (F_law01_BitsReads_eq b_a b_l b_c n_0 n_1 n_2 near w _) h)

def h_law01_BitsKeeps : H := (.seq .reg (.seq (.seq .reg (.cond (.seq .reg .leaf) .leaf)) (.seq .reg (.seq .reg (.seq .reg (.seq .reg (.seq .reg (.seq .reg (.seq (.cut [(74, .p .bool)] [65, 66, 67, 68, 69, 70, 71, 72, 73, 74] .reg (.cond (.seq .reg .leaf) .leaf)) (.seq .reg (.seq .reg (.seq .reg .leaf))))))))))))
def F_law01_BitsKeeps (b_a : Option Addr) (b_l : Nat) (b_c : Nat) (n_0 : Int) (n_1 : Int) (n_2 : Int) (probe : Int) (w : World) (R : Value → World → Prop) : Prop :=
  (let w1 := w.alloc (.cells #[(.int .i64 n_0), (.int .i64 n_1), (.int .i64 n_2)] Ty_3_int);
  (bsplit ((b_l : Int) == (0 : Int))
    ((Calls Try.prog N_law01_awake #[] w1 fun e_ w2 =>
    ∃ r : Bool, e_ = .returned (.bool r) ∧
    R (.bool r) w2))
    ((∃ x : Int, w1.cell? (nb w) = some (.int .i64 x) ∧
    (Calls Try.prog N_made_Mod #[(.int .i64 x), (.int .i64 (IntKind.wrap .i64 ((8 : Int) * (b_l : Int))))] w1 fun e_1 w3 =>
    ∃ r1 : Int, e_1 = .returned (.int .i64 r1) ∧
    (∃ x1 : Int, w3.cell? ((nb w).add 1) = some (.int .i64 x1) ∧
    (Calls Try.prog N_made_Mod #[(.int .i64 x1), (.int .i64 (if (IntKind.wrap .i64 ((IntKind.wrap .i64 ((IntKind.wrap .i64 ((8 : Int) * (b_l : Int))) - r1)) + (1 : Int))) < (33 : Int) then (IntKind.wrap .i64 ((IntKind.wrap .i64 ((IntKind.wrap .i64 ((8 : Int) * (b_l : Int))) - r1)) + (1 : Int))) else (33 : Int)))] w3 fun e_2 w4 =>
    ∃ r2 : Int, e_2 = .returned (.int .i64 r2) ∧
    (∃ x2 : Int, w4.cell? ((nb w).add 2) = some (.int .i64 x2) ∧
    (0 ≤ (IntKind.wrap .u64 r2) ∧ (Calls Try.prog N_made_Mod #[(.int .i64 x2), (.int .i64 (IntKind.wrap .i64 ((1 : Int) * 2 ^ (min (IntKind.wrap .u64 r2).toNat (IntKind.bits .i64)))))] w4 fun e_3 w5 =>
    ∃ r3 : Int, e_3 = .returned (.int .i64 r3) ∧
    (Calls Try.prog N_bits_Write #[(.slice b_a b_l b_c), (.int .i64 r1), (.int .i64 r2), (.int .i64 r3)] w5 fun e_4 w6 =>
    ∃ r_a : Option Addr, ∃ r_l : Nat, ∃ r_c : Nat, ∃ r4 : Int, e_4 = .returned (.tuple #[(.slice r_a r_l r_c), (.int .i64 r4)]) ∧
    (Calls Try.prog N_bits_Read #[(.slice r_a r_l r_c), (.int .i64 r1), (.int .i64 r2)] w6 fun e_5 w7 =>
    ∃ r5 : Int, ∃ r6 : Int, e_5 = .returned (.tuple #[(.int .i64 r5), (.int .i64 r6)]) ∧
    (Calls Try.prog N_made_Mod #[(.int .i64 probe), (.int .i64 (IntKind.wrap .i64 ((8 : Int) * (b_l : Int))))] w7 fun e_6 w8 =>
    ∃ r7 : Int, e_6 = .returned (.int .i64 r7) ∧
    (∃ J : Bool → World → Prop,
    (∀ (_junk : Env) (x3 : Bool) (w9 : World), J x3 w9 →
      (bsplit x3
        ((Calls Try.prog N_law01_awake #[] w9 fun e_7 w10 =>
        ∃ r8 : Bool, e_7 = .returned (.bool r8) ∧
        (bsplit r8
          ((bsplit (r4 == (0 : Int))
            ((bsplit (r6 == (0 : Int))
              (R (.bool (r5 == r3)) w10)
              (R (.bool false) w10)))
            (R (.bool false) w10)))
          (R (.bool false) w10))))
        ((Calls Try.prog N_bits_Read #[(.slice b_a b_l b_c), (.int .i64 r7), (.int .i64 (1 : Int))] w9 fun e_8 w11 =>
        ∃ r9 : Int, ∃ r10 : Int, e_8 = .returned (.tuple #[(.int .i64 r9), (.int .i64 r10)]) ∧
        (Calls Try.prog N_bits_Read #[(.slice r_a r_l r_c), (.int .i64 r7), (.int .i64 (1 : Int))] w11 fun e_9 w12 =>
        ∃ r11 : Int, ∃ r12 : Int, e_9 = .returned (.tuple #[(.int .i64 r11), (.int .i64 r12)]) ∧
        (Calls Try.prog N_law01_awake #[] w12 fun e_10 w13 =>
        ∃ r13 : Bool, e_10 = .returned (.bool r13) ∧
        (bsplit r13
          ((bsplit (r4 == (0 : Int))
            ((bsplit (r6 == (0 : Int))
              ((bsplit (r10 == (0 : Int))
                ((bsplit (r12 == (0 : Int))
                  ((bsplit (r5 == r3)
                    ((bsplit (r9 == r11)
                      ((let x4 := ((r_l : Int) == (b_l : Int));
                      R (.bool x4) w13))
                      (R (.bool false) w13)))
                    (R (.bool false) w13)))
                  (R (.bool false) w13)))
                (R (.bool false) w13)))
              (R (.bool false) w13)))
            (R (.bool false) w13)))
          (R (.bool false) w13)))))))) ∧
    (bsplit (decide (r7 ≥ r1))
      (J (decide (r7 < (IntKind.wrap .i64 (r1 + r2)))) w8)
      (J false w8))))))))))))))))
theorem F_law01_BitsKeeps_eq (b_a : Option Addr) (b_l : Nat) (b_c : Nat) (n_0 : Int) (n_1 : Int) (n_2 : Int) (probe : Int) (w : World) (R : Value → World → Prop) : sxFn Try.prog TT h_law01_BitsKeeps Try.f5 #[(.slice b_a b_l b_c), (.agg #[.int .i64 n_0, .int .i64 n_1, .int .i64 n_2]), (.int .i64 probe)] w R = F_law01_BitsKeeps b_a b_l b_c n_0 n_1 n_2 probe w R := by kernel_rfl
theorem F_law01_BitsKeeps_ok {R : Ending → World → Prop} (b_a : Option Addr) (b_l : Nat) (b_c : Nat) (n_0 : Int) (n_1 : Int) (n_2 : Int) (probe : Int) (w : World) (h : F_law01_BitsKeeps b_a b_l b_c n_0 n_1 n_2 probe w fun v w' => R (.returned v) w') : Calls Try.prog N_law01_BitsKeeps #[(.slice b_a b_l b_c), (.agg #[.int .i64 n_0, .int .i64 n_1, .int .i64 n_2]), (.int .i64 probe)] w R :=
  calls_of (f := 5) follows_ok Try.func5 (Eq.mpr (F_law01_BitsKeeps_eq b_a b_l b_c n_0 n_1 n_2 probe w _) h)

def h_law01_BitsPacks : H := (.seq .reg (.seq .reg (.seq .reg (.seq .reg (.seq .reg (.seq .reg .leaf))))))
def F_law01_BitsPacks (widths_a : Option Addr) (widths_l : Nat) (widths_c : Nat) (values_a : Option Addr) (values_l : Nat) (values_c : Nat) (b_a : Option Addr) (b_l : Nat) (b_c : Nat) (w : World) (R : Value → World → Prop) : Prop :=
  (Calls Try.prog N_bits_Pack #[(.slice widths_a widths_l widths_c), (.slice values_a values_l values_c)] w fun e_ w1 =>
  ∃ r_a : Option Addr, ∃ r_l : Nat, ∃ r_c : Nat, ∃ r : Int, e_ = .returned (.tuple #[(.slice r_a r_l r_c), (.int .i64 r)]) ∧
  (Calls Try.prog N_ref01_Pack #[(.slice widths_a widths_l widths_c), (.slice values_a values_l values_c)] w1 fun e_1 w2 =>
  ∃ r_a1 : Option Addr, ∃ r_l1 : Nat, ∃ r_c1 : Nat, ∃ r1 : Int, e_1 = .returned (.tuple #[(.slice r_a1 r_l1 r_c1), (.int .i64 r1)]) ∧
  (Calls Try.prog N_bits_Unpack #[(.slice b_a b_l b_c), (.slice widths_a widths_l widths_c)] w2 fun e_2 w3 =>
  ∃ r_a2 : Option Addr, ∃ r_l2 : Nat, ∃ r_c2 : Nat, ∃ r2 : Int, e_2 = .returned (.tuple #[(.slice r_a2 r_l2 r_c2), (.int .i64 r2)]) ∧
  (Calls Try.prog N_ref01_Unpack #[(.slice b_a b_l b_c), (.slice widths_a widths_l widths_c)] w3 fun e_3 w4 =>
  ∃ r_a3 : Option Addr, ∃ r_l3 : Nat, ∃ r_c3 : Nat, ∃ r3 : Int, e_3 = .returned (.tuple #[(.slice r_a3 r_l3 r_c3), (.int .i64 r3)]) ∧
  (Calls Try.prog N_law01_awake #[] w4 fun e_4 w5 =>
  ∃ r4 : Bool, e_4 = .returned (.bool r4) ∧
  (bsplit r4
    ((bsplit (r == r1)
      ((Calls Try.prog N_ref01_Same #[(.slice r_a r_l r_c), (.slice r_a1 r_l1 r_c1)] w5 fun e_5 w6 =>
      ∃ r5 : Bool, e_5 = .returned (.bool r5) ∧
      (bsplit r5
        ((bsplit (r2 == r3)
          ((Calls Try.prog N_ref01_SameInts #[(.slice r_a2 r_l2 r_c2), (.slice r_a3 r_l3 r_c3)] w6 fun e_6 w7 =>
          ∃ r6 : Bool, e_6 = .returned (.bool r6) ∧
          R (.bool r6) w7))
          (R (.bool false) w6)))
        (R (.bool false) w6))))
      (R (.bool false) w5)))
    (R (.bool false) w5)))))))
theorem F_law01_BitsPacks_eq (widths_a : Option Addr) (widths_l : Nat) (widths_c : Nat) (values_a : Option Addr) (values_l : Nat) (values_c : Nat) (b_a : Option Addr) (b_l : Nat) (b_c : Nat) (w : World) (R : Value → World → Prop) : sxFn Try.prog TT h_law01_BitsPacks Try.f6 #[(.slice widths_a widths_l widths_c), (.slice values_a values_l values_c), (.slice b_a b_l b_c)] w R = F_law01_BitsPacks widths_a widths_l widths_c values_a values_l values_c b_a b_l b_c w R := by kernel_rfl
theorem F_law01_BitsPacks_ok {R : Ending → World → Prop} (widths_a : Option Addr) (widths_l : Nat) (widths_c : Nat) (values_a : Option Addr) (values_l : Nat) (values_c : Nat) (b_a : Option Addr) (b_l : Nat) (b_c : Nat) (w : World) (h : F_law01_BitsPacks widths_a widths_l widths_c values_a values_l values_c b_a b_l b_c w fun v w' => R (.returned v) w') : Calls Try.prog N_law01_BitsPacks #[(.slice widths_a widths_l widths_c), (.slice values_a values_l values_c), (.slice b_a b_l b_c)] w R :=
  calls_of (f := 6) follows_ok Try.func6 (Eq.mpr (F_law01_BitsPacks_eq widths_a widths_l widths_c values_a values_l values_c b_a b_l b_c w _) h)

def h_law01_BitsReturns : H := (.seq .reg (.seq (.seq .reg (.cond (.seq .reg .leaf) .leaf)) (.seq .reg (.seq .reg (.seq .reg (.seq (.seq .reg (.block (.loop [(4, .p .slice), (5, .p .slice), (6, .p (.int .i64)), (7, .p (.int .i64))] [4, 5, 6, 7, 8, 21, 22, 23, 24, 25, 26, 27, 28, 29, 30, 31, 32, 33, 34, 35, 36, 37, 38, 39, 40, 41] (.seq (.seq .reg (.cond .leaf .leaf)) (.seq (.block (.seq .reg (.seq .reg .reg))) .reg))))) (.seq .reg (.seq .reg (.seq .reg .leaf)))))))))
def F_law01_BitsReturns (t_a : Option Addr) (t_l : Nat) (t_c : Nat) (w : World) (R : Value → World → Prop) : Prop :=
  (Calls Try.prog N_made_Light #[(.slice t_a t_l t_c)] w fun e_ w1 =>
  ∃ r : Bool, e_ = .returned (.bool r) ∧
  (bsplit (!r)
    ((Calls Try.prog N_law01_awake #[] w1 fun e_1 w2 =>
    ∃ r1 : Bool, e_1 = .returned (.bool r1) ∧
    R (.bool r1) w2))
    ((Calls Try.prog N_made_Roll #[(.slice t_a t_l t_c)] w1 fun e_2 w3 =>
    ∃ r2 : Option Addr, e_2 = .returned (.pointer r2) ∧
    (Calls Try.prog N_made_Dice_Next #[(.pointer r2), (.int .i64 (40 : Int))] w3 fun e_3 w4 =>
    ∃ r3 : Int, e_3 = .returned (.int .i64 r3) ∧
    (∃ I : Option Addr → Nat → Nat → Option Addr → Nat → Nat → Int → Int → Nat × (World → Prop), (I none 0 0 none 0 0 (0 : Int) r3).2 w4 ∧
    (∀ (_junk : Env) (w_a : Option Addr) (w_l : Nat) (w_c : Nat) (v_a : Option Addr) (v_l : Nat) (v_c : Nat) (sum : Int) (n : Int) (w5 : World), (I w_a w_l w_c v_a v_l v_c sum n).2 w5 →
      (bsplit (decide (n > (0 : Int)))
        ((Calls Try.prog N_made_Dice_Next #[(.pointer r2), (.int .i64 (33 : Int))] w5 fun e_4 w6 =>
        ∃ r4 : Int, e_4 = .returned (.int .i64 r4) ∧
        (let w7 := w6.alloc (.cells #[(.int .i64 r4)] Ty_int);
        (AppP Try.prog #[Ty_S_int, Ty_S_int] Ty_S_int #[(.slice w_a w_l w_c), (.slice (some (nb w6)) 1 1)] w7 fun x_a x_l x_c w8 =>
        (0 ≤ (IntKind.wrap .u64 r4) ∧ (Calls Try.prog N_made_Dice_Next #[(.pointer r2), (.int .i64 (IntKind.wrap .i64 ((1 : Int) * 2 ^ (min (IntKind.wrap .u64 r4).toNat (IntKind.bits .i64)))))] w8 fun e_5 w9 =>
        ∃ r5 : Int, e_5 = .returned (.int .i64 r5) ∧
        (let w10 := w9.alloc (.cells #[(.int .i64 r5)] Ty_int);
        (AppP Try.prog #[Ty_S_int, Ty_S_int] Ty_S_int #[(.slice v_a v_l v_c), (.slice (some (nb w9)) 1 1)] w10 fun x_a1 x_l1 x_c1 w11 =>
        (let sum1 := (IntKind.wrap .i64 (sum + r4));
        (let n1 := (IntKind.wrap .i64 (n - (1 : Int)));
        ((I x_a x_l x_c x_a1 x_l1 x_c1 sum1 n1).2 w11 ∧ (I x_a x_l x_c x_a1 x_l1 x_c1 sum1 n1).1 < (I w_a w_l w_c v_a v_l v_c sum n).1)))))))))))
        ((Calls Try.prog N_bits_Pack #[(.slice w_a w_l w_c), (.slice v_a v_l v_c)] w5 fun e_6 w12 =>
        ∃ r_a : Option Addr, ∃ r_l : Nat, ∃ r_c : Nat, ∃ r6 : Int, e_6 = .returned (.tuple #[(.slice r_a r_l r_c), (.int .i64 r6)]) ∧
        (Calls Try.prog N_bits_Unpack #[(.slice r_a r_l r_c), (.slice w_a w_l w_c)] w12 fun e_7 w13 =>
        ∃ r_a1 : Option Addr, ∃ r_l1 : Nat, ∃ r_c1 : Nat, ∃ r7 : Int, e_7 = .returned (.tuple #[(.slice r_a1 r_l1 r_c1), (.int .i64 r7)]) ∧
        (Calls Try.prog N_law01_awake #[] w13 fun e_8 w14 =>
        ∃ r8 : Bool, e_8 = .returned (.bool r8) ∧
        (bsplit r8
          ((bsplit (r6 == (0 : Int))
            ((bsplit (r7 == (0 : Int))
              ((Calls Try.prog N_ref01_SameInts #[(.slice r_a1 r_l1 r_c1), (.slice v_a v_l v_c)] w14 fun e_9 w15 =>
              ∃ r9 : Bool, e_9 = .returned (.bool r9) ∧
              (bsplit r9
                ((let x := ((r_l : Int) == (IntKind.wrap .i64 (Int.tdiv (IntKind.wrap .i64 (sum + (7 : Int))) (8 : Int))));
                R (.bool x) w15))
                (R (.bool false) w15))))
              (R (.bool false) w14)))
            (R (.bool false) w14)))
          (R (.bool false) w14))))))))))))))
theorem F_law01_BitsReturns_eq (t_a : Option Addr) (t_l : Nat) (t_c : Nat) (w : World) (R : Value → World → Prop) : sxFn Try.prog TT h_law01_BitsReturns Try.f7 #[(.slice t_a t_l t_c)] w R = F_law01_BitsReturns t_a t_l t_c w R := by kernel_rfl
theorem F_law01_BitsReturns_ok {R : Ending → World → Prop} (t_a : Option Addr) (t_l : Nat) (t_c : Nat) (w : World) (h : F_law01_BitsReturns t_a t_l t_c w fun v w' => R (.returned v) w') : Calls Try.prog N_law01_BitsReturns #[(.slice t_a t_l t_c)] w R :=
  calls_of (f := 7) follows_ok Try.func7 (Eq.mpr (F_law01_BitsReturns_eq t_a t_l t_c w _) h)

def h_law01_awake : H := (.seq .reg (.seq .reg (.seq .reg (.seq .reg .leaf))))
def F_law01_awake  (w : World) (R : Value → World → Prop) : Prop :=
  (let w1 := w.alloc (.cells #[(.int .i64 (4 : Int)), (.int .i64 (3 : Int))] Ty_int);
  (let w2 := w1.alloc (.cells #[(.int .i64 (9 : Int)), (.int .i64 (2 : Int))] Ty_int);
  (Calls Try.prog N_bits_Pack #[(.slice (some (nb w)) 2 2), (.slice (some (nb w1)) 2 2)] w2 fun e_ w3 =>
  ∃ r_a : Option Addr, ∃ r_l : Nat, ∃ r_c : Nat, ∃ r : Int, e_ = .returned (.tuple #[(.slice r_a r_l r_c), (.int .i64 r)]) ∧
  (let w4 := w3.alloc (.cells #[(.int .u8 (128 : Int)), (.int .u8 (1 : Int))] Ty_uint8);
  (Calls Try.prog N_bits_Read #[(.slice (some (nb w3)) 2 2), (.int .i64 (12 : Int)), (.int .i64 (4 : Int))] w4 fun e_1 w5 =>
  ∃ r1 : Int, ∃ r2 : Int, e_1 = .returned (.tuple #[(.int .i64 r1), (.int .i64 r2)]) ∧
  (bsplit (r == (0 : Int))
    ((bsplit (r2 == (0 : Int))
      ((bsplit ((r_l : Int) == (1 : Int))
        ((∃ b : Addr, r_a = some b ∧ (0 ≤ (0 : Int) ∧ (0 : Int) < (r_l : Int)) ∧
        (∃ x : Int, w5.cell? (b.add ((0 : Int).toNat * 1)) = some (.int .u8 x) ∧
        (bsplit (x == (148 : Int))
          ((let x1 := (r1 == (1 : Int));
          R (.bool x1) w5))
          (R (.bool false) w5)))))
        (R (.bool false) w5)))
      (R (.bool false) w5)))
    (R (.bool false) w5)))))))
theorem F_law01_awake_eq  (w : World) (R : Value → World → Prop) : sxFn Try.prog TT h_law01_awake Try.f8 #[] w R = F_law01_awake  w R := by kernel_rfl
theorem F_law01_awake_ok {R : Ending → World → Prop}  (w : World) (h : F_law01_awake  w fun v w' => R (.returned v) w') : Calls Try.prog N_law01_awake #[] w R :=
  calls_of (f := 8) follows_ok Try.func8 (Eq.mpr (F_law01_awake_eq  w _) h)

def h_made_Mod : H := (.seq .reg (.seq (.seq .reg (.cond (.seq .reg .leaf) .leaf)) (.seq .reg (.seq (.seq .reg (.cond .reg .leaf)) (.seq .reg .leaf)))))
def F_made_Mod (n : Int) (m : Int) (w : World) (R : Value → World → Prop) : Prop :=
  (bsplit (decide (m < (1 : Int)))
    (R (.int .i64 (0 : Int)) w)
    ((m ≠ 0 ∧ (bsplit (decide ((Int.tmod n m) < (0 : Int)))
      ((let n1 := (IntKind.wrap .i64 ((Int.tmod n m) + m));
      R (.int .i64 n1) w))
      (R (.int .i64 (Int.tmod n m)) w)))))
theorem F_made_Mod_eq (n : Int) (m : Int) (w : World) (R : Value → World → Prop) : sxFn Try.prog TT h_made_Mod Try.f9 #[(.int .i64 n), (.int .i64 m)] w R = F_made_Mod n m w R := by kernel_rfl
theorem F_made_Mod_ok {R : Ending → World → Prop} (n : Int) (m : Int) (w : World) (h : F_made_Mod n m w fun v w' => R (.returned v) w') : Calls Try.prog N_made_Mod #[(.int .i64 n), (.int .i64 m)] w R :=
  calls_of (f := 9) follows_ok Try.func9 (Eq.mpr (F_made_Mod_eq n m w _) h)

def h_bits_Read : H := (.seq .reg (.seq (.block (.cut [(10, .p .bool)] [10, 11, 12, 13, 14, 15, 16, 17, 18, 19, 20] .reg (.cond (.seq .reg .leaf) (.seq .reg (.cond (.seq .reg .leaf) .leaf))))) (.seq .reg (.seq (.seq .reg (.block (.loop [(8, .p (.int .i64)), (9, .p (.int .i64))] [8, 9, 28, 29, 30, 31, 32, 33, 34, 35, 36, 37, 38, 39, 40, 41, 42, 43, 44, 45, 46, 47, 48] (.seq (.seq .reg (.cond .leaf .leaf)) (.seq (.block .reg) .reg))))) (.seq .reg .leaf)))))
def F_bits_Read (b_a : Option Addr) (b_l : Nat) (b_c : Nat) (at1 : Int) (n : Int) (w : World) (R : Value → World → Prop) : Prop :=
  (∃ J : Bool → World → Prop,
  (∀ (_junk : Env) (x1 : Bool) (w1 : World), J x1 w1 →
    (bsplit x1
      (R (.tuple #[(.int .i64 (0 : Int)), (.int .i64 (3 : Int))]) w1)
      ((Calls Try.prog N_bits_inside #[(.slice b_a b_l b_c), (.int .i64 at1), (.int .i64 n)] w1 fun e_ w2 =>
      ∃ r : Bool, e_ = .returned (.bool r) ∧
      (bsplit (!r)
        (R (.tuple #[(.int .i64 (0 : Int)), (.int .i64 (5 : Int))]) w2)
        ((∃ I : Int → Int → Nat × (World → Prop), (I (0 : Int) at1).2 w2 ∧
        (∀ (_junk : Env) (v : Int) (i : Int) (w3 : World), (I v i).2 w3 →
          (bsplit (decide (i < (IntKind.wrap .i64 (at1 + n))))
            ((∃ b : Addr, b_a = some b ∧ (0 ≤ (IntKind.wrap .i64 (Int.tdiv i (8 : Int))) ∧ (IntKind.wrap .i64 (Int.tdiv i (8 : Int))) < (b_l : Int)) ∧
            (∃ x2 : Int, w3.cell? (b.add ((IntKind.wrap .i64 (Int.tdiv i (8 : Int))).toNat * 1)) = some (.int .u8 x2) ∧
            (0 ≤ (IntKind.wrap .i64 ((7 : Int) - (Int.tmod i (8 : Int)))) ∧ (let v1 := (bOr .i64 (IntKind.wrap .i64 (v * 2 ^ 1)) (IntKind.wrap .i64 (bAnd .u8 (Int.fdiv x2 (2 ^ (min (IntKind.wrap .i64 ((7 : Int) - (Int.tmod i (8 : Int)))).toNat (IntKind.bits .u8)))) (1 : Int))));
            (let i1 := (IntKind.wrap .i64 (i + (1 : Int)));
            ((I v1 i1).2 w3 ∧ (I v1 i1).1 < (I v i).1)))))))
            (R (.tuple #[(.int .i64 v), (.int .i64 (0 : Int))]) w3)))))))))) ∧
  (bsplit (decide (n < (0 : Int)))
    (J true w)
    ((bsplit (decide (n > (32 : Int)))
      (J true w)
      ((let x := (decide (at1 < (0 : Int)));
      J x w))))))
theorem F_bits_Read_eq (b_a : Option Addr) (b_l : Nat) (b_c : Nat) (at1 : Int) (n : Int) (w : World) (R : Value → World → Prop) : sxFn Try.prog TT h_bits_Read Try.f10 #[(.slice b_a b_l b_c), (.int .i64 at1), (.int .i64 n)] w R = F_bits_Read b_a b_l b_c at1 n w R := by kernel_rfl
theorem F_bits_Read_ok {R : Ending → World → Prop} (b_a : Option Addr) (b_l : Nat) (b_c : Nat) (at1 : Int) (n : Int) (w : World) (h : F_bits_Read b_a b_l b_c at1 n w fun v w' => R (.returned v) w') : Calls Try.prog N_bits_Read #[(.slice b_a b_l b_c), (.int .i64 at1), (.int .i64 n)] w R :=
  calls_of (f := 10) follows_ok Try.func10 (Eq.mpr (F_bits_Read_eq b_a b_l b_c at1 n w _) h)

def h_ref01_Read : H := (.seq .reg (.cut [] [6, 7, 10, 11, 12, 13, 14, 15, 16, 17, 18, 19] (.seq .reg (.cond (.seq .reg .leaf) .leaf)) (.cut [] [6, 7, 20, 21, 22, 23, 24, 25, 26, 27, 28, 29, 30, 31, 32, 33] (.seq .reg (.cond (.seq .reg .leaf) .leaf)) (.seq .reg (.seq (.seq .reg (.block (.loop [(8, .p (.int .i64)), (9, .p (.int .i64))] [8, 9, 35, 36, 37, 38, 39, 40, 41, 42, 43, 44, 45, 46, 47, 48, 49, 50, 51, 52, 53, 54, 55, 56] (.seq (.seq .reg (.cond .leaf .leaf)) (.seq (.block .reg) .reg))))) (.seq .reg .leaf))))))
def F_ref01_Read (b_a : Option Addr) (b_l : Nat) (b_c : Nat) (at1 : Int) (n : Int) (w : World) (R : Value → World → Prop) : Prop :=
  (∃ J : World → Prop,
  (∀ (_junk : Env)  (w1 : World), J w1 →
    (∃ J1 : World → Prop,
    (∀ (_junk : Env)  (w2 : World), J1 w2 →
      (∃ I : Int → Int → Nat × (World → Prop), (I (0 : Int) at1).2 w2 ∧
      (∀ (_junk : Env) (v : Int) (i : Int) (w3 : World), (I v i).2 w3 →
        (bsplit (decide (i < (IntKind.wrap .i64 (at1 + n))))
          ((∃ b : Addr, b_a = some b ∧ (0 ≤ (IntKind.wrap .i64 (Int.tdiv i (8 : Int))) ∧ (IntKind.wrap .i64 (Int.tdiv i (8 : Int))) < (b_l : Int)) ∧
          (∃ x : Int, w3.cell? (b.add ((IntKind.wrap .i64 (Int.tdiv i (8 : Int))).toNat * 1)) = some (.int .u8 x) ∧
          (0 ≤ (IntKind.wrap .u64 (IntKind.wrap .i64 ((7 : Int) - (Int.tmod i (8 : Int))))) ∧ (let v1 := (IntKind.wrap .i64 ((IntKind.wrap .i64 ((2 : Int) * v)) + (IntKind.wrap .i64 (bAnd .u8 (Int.fdiv x (2 ^ (min (IntKind.wrap .u64 (IntKind.wrap .i64 ((7 : Int) - (Int.tmod i (8 : Int))))).toNat (IntKind.bits .u8)))) (1 : Int)))));
          (let i1 := (IntKind.wrap .i64 (i + (1 : Int)));
          ((I v1 i1).2 w3 ∧ (I v1 i1).1 < (I v i).1)))))))
          (R (.tuple #[(.int .i64 v), (.int .i64 (0 : Int))]) w3))))) ∧
    (bsplit (decide (at1 > (IntKind.wrap .i64 ((8 : Int) * (b_l : Int)))))
      (R (.tuple #[(.int .i64 (0 : Int)), (.int .i64 (5 : Int))]) w1)
      ((bsplit (decide ((IntKind.wrap .i64 (at1 + n)) > (IntKind.wrap .i64 ((8 : Int) * (b_l : Int)))))
        (R (.tuple #[(.int .i64 (0 : Int)), (.int .i64 (5 : Int))]) w1)
        (J1 w1)))))) ∧
  (bsplit (decide (n < (0 : Int)))
    (R (.tuple #[(.int .i64 (0 : Int)), (.int .i64 (3 : Int))]) w)
    ((bsplit (decide (n > (32 : Int)))
      (R (.tuple #[(.int .i64 (0 : Int)), (.int .i64 (3 : Int))]) w)
      ((bsplit (decide (at1 < (0 : Int)))
        (R (.tuple #[(.int .i64 (0 : Int)), (.int .i64 (3 : Int))]) w)
        (J w)))))))
theorem F_ref01_Read_eq (b_a : Option Addr) (b_l : Nat) (b_c : Nat) (at1 : Int) (n : Int) (w : World) (R : Value → World → Prop) : sxFn Try.prog TT h_ref01_Read Try.f11 #[(.slice b_a b_l b_c), (.int .i64 at1), (.int .i64 n)] w R = F_ref01_Read b_a b_l b_c at1 n w R := by kernel_rfl
theorem F_ref01_Read_ok {R : Ending → World → Prop} (b_a : Option Addr) (b_l : Nat) (b_c : Nat) (at1 : Int) (n : Int) (w : World) (h : F_ref01_Read b_a b_l b_c at1 n w fun v w' => R (.returned v) w') : Calls Try.prog N_ref01_Read #[(.slice b_a b_l b_c), (.int .i64 at1), (.int .i64 n)] w R :=
  calls_of (f := 11) follows_ok Try.func11 (Eq.mpr (F_ref01_Read_eq b_a b_l b_c at1 n w _) h)

def h_bits_Write : H := (.seq .reg (.seq (.block (.cut [(11, .p .bool)] [11, 12, 13, 14, 15, 16, 17, 18, 19] .reg (.cond (.seq .reg .leaf) (.seq .reg (.cond (.seq .reg .leaf) .leaf))))) (.seq .reg (.seq .reg (.seq .reg .leaf)))))
def F_bits_Write (b_a : Option Addr) (b_l : Nat) (b_c : Nat) (at1 : Int) (n : Int) (v : Int) (w : World) (R : Value → World → Prop) : Prop :=
  (∃ J : Bool → World → Prop,
  (∀ (_junk : Env) (x : Bool) (w2 : World), J x w2 →
    (bsplit x
      (R (.tuple #[(.slice none 0 0), (.int .i64 (3 : Int))]) w2)
      ((Calls Try.prog N_bits_inside #[(.slice b_a b_l b_c), (.int .i64 at1), (.int .i64 n)] w2 fun e_1 w3 =>
      ∃ r1 : Bool, e_1 = .returned (.bool r1) ∧
      (bsplit (!r1)
        (R (.tuple #[(.slice none 0 0), (.int .i64 (5 : Int))]) w3)
        ((Calls Try.prog N_slices_Clone_Sbyte_byte #[(.slice b_a b_l b_c)] w3 fun e_2 w4 =>
        ∃ r_a : Option Addr, ∃ r_l : Nat, ∃ r_c : Nat, e_2 = .returned (.slice r_a r_l r_c) ∧
        (Calls Try.prog N_bits_set #[(.slice r_a r_l r_c), (.int .i64 at1), (.int .i64 n), (.int .i64 v)] w4 fun e_3 w5 =>
        e_3 = .returned (.tuple #[]) ∧
        R (.tuple #[(.slice r_a r_l r_c), (.int .i64 (0 : Int))]) w5)))))))) ∧
  (bsplit (decide (at1 < (0 : Int)))
    (J true w)
    ((Calls Try.prog N_bits_fits #[(.int .i64 n), (.int .i64 v)] w fun e_ w1 =>
    ∃ r : Bool, e_ = .returned (.bool r) ∧
    J (!r) w1))))
theorem F_bits_Write_eq (b_a : Option Addr) (b_l : Nat) (b_c : Nat) (at1 : Int) (n : Int) (v : Int) (w : World) (R : Value → World → Prop) : sxFn Try.prog TT h_bits_Write Try.f12 #[(.slice b_a b_l b_c), (.int .i64 at1), (.int .i64 n), (.int .i64 v)] w R = F_bits_Write b_a b_l b_c at1 n v w R := by kernel_rfl
theorem F_bits_Write_ok {R : Ending → World → Prop} (b_a : Option Addr) (b_l : Nat) (b_c : Nat) (at1 : Int) (n : Int) (v : Int) (w : World) (h : F_bits_Write b_a b_l b_c at1 n v w fun v w' => R (.returned v) w') : Calls Try.prog N_bits_Write #[(.slice b_a b_l b_c), (.int .i64 at1), (.int .i64 n), (.int .i64 v)] w R :=
  calls_of (f := 12) follows_ok Try.func12 (Eq.mpr (F_bits_Write_eq b_a b_l b_c at1 n v w _) h)

def h_ref01_Write : H := (.seq .reg (.seq (.cut [(34, .p .bool)] [14, 15, 16, 17, 18, 19, 20, 21, 22, 23, 24, 25, 26, 27, 28, 29, 30, 31, 32, 33, 34] .reg (.cond (.seq .reg .leaf) .leaf)) (.cut [] [8, 9, 35, 36, 37, 38, 39, 40, 41, 42, 43, 44, 45, 46, 47, 48] (.seq .reg (.cond (.seq .reg .leaf) .leaf)) (.seq .reg (.seq (.seq .reg (.block (.loop [(11, .p (.int .i64))] [11, 12, 13, 51, 52, 53, 54, 55, 56, 57, 58, 59, 60, 61, 62, 63, 64, 65, 66, 67, 68, 69, 70, 71, 72, 73, 74, 75, 76, 77, 78, 79, 80, 81, 82, 83, 84, 85, 86, 87, 88] (.seq (.seq .reg (.cond .leaf .leaf)) (.seq (.block (.seq .reg (.seq .reg (.seq .reg (.seq .reg (.cond .reg .leaf)))))) .reg))))) (.seq .reg .leaf))))))
def F_ref01_Write (b_a : Option Addr) (b_l : Nat) (b_c : Nat) (at1 : Int) (n : Int) (v : Int) (w : World) (R : Value → World → Prop) : Prop :=
  (∃ J : Bool → World → Prop,
  (∀ (_junk : Env) (x : Bool) (w1 : World), J x w1 →
    (bsplit x
      (R (.tuple #[(.slice none 0 0), (.int .i64 (3 : Int))]) w1)
      ((∃ J1 : World → Prop,
      (∀ (_junk : Env)  (w2 : World), J1 w2 →
        (AppP Try.prog #[Ty_S_uint8, Ty_S_uint8] Ty_S_uint8 #[(.slice none 0 0), (.slice b_a b_l b_c)] w2 fun x_a x_l x_c w3 =>
        (∃ I : Int → Nat × (World → Prop), (I (0 : Int)).2 w3 ∧
        (∀ (_junk : Env) (i : Int) (w4 : World), (I i).2 w4 →
          (bsplit (decide (i < n))
            ((let k := (IntKind.wrap .i64 (at1 + i));
            (0 ≤ (IntKind.wrap .u64 (IntKind.wrap .i64 ((7 : Int) - (Int.tmod k (8 : Int))))) ∧ (let bit := (IntKind.wrap .u8 ((1 : Int) * 2 ^ (min (IntKind.wrap .u64 (IntKind.wrap .i64 ((7 : Int) - (Int.tmod k (8 : Int))))).toNat (IntKind.bits .u8))));
            (∃ b : Addr, x_a = some b ∧ (0 ≤ (IntKind.wrap .i64 (Int.tdiv k (8 : Int))) ∧ (IntKind.wrap .i64 (Int.tdiv k (8 : Int))) < (x_l : Int)) ∧
            (∃ x1 : Int, w4.cell? (b.add ((IntKind.wrap .i64 (Int.tdiv k (8 : Int))).toNat * 1)) = some (.int .u8 x1) ∧
            (∃ b1 : Addr, x_a = some b1 ∧ (0 ≤ (IntKind.wrap .i64 (Int.tdiv k (8 : Int))) ∧ (IntKind.wrap .i64 (Int.tdiv k (8 : Int))) < (x_l : Int)) ∧
            ((∃ u, w4.cell? (b1.add ((IntKind.wrap .i64 (Int.tdiv k (8 : Int))).toNat * 1)) = some u) ∧ w4.frozen? (b1.add ((IntKind.wrap .i64 (Int.tdiv k (8 : Int))).toNat * 1)) = false ∧
            (let w5 := w4.setCell (b1.add ((IntKind.wrap .i64 (Int.tdiv k (8 : Int))).toNat * 1)) (.int .u8 (bAndNot .u8 x1 bit));
            (0 ≤ (IntKind.wrap .u64 (IntKind.wrap .i64 ((IntKind.wrap .i64 (n - (1 : Int))) - i))) ∧ (bsplit ((bAnd .i64 (Int.fdiv v (2 ^ (min (IntKind.wrap .u64 (IntKind.wrap .i64 ((IntKind.wrap .i64 (n - (1 : Int))) - i))).toNat (IntKind.bits .i64)))) (1 : Int)) == (1 : Int))
              ((∃ b2 : Addr, x_a = some b2 ∧ (0 ≤ (IntKind.wrap .i64 (Int.tdiv k (8 : Int))) ∧ (IntKind.wrap .i64 (Int.tdiv k (8 : Int))) < (x_l : Int)) ∧
              (∃ x2 : Int, w5.cell? (b2.add ((IntKind.wrap .i64 (Int.tdiv k (8 : Int))).toNat * 1)) = some (.int .u8 x2) ∧
              (∃ b3 : Addr, x_a = some b3 ∧ (0 ≤ (IntKind.wrap .i64 (Int.tdiv k (8 : Int))) ∧ (IntKind.wrap .i64 (Int.tdiv k (8 : Int))) < (x_l : Int)) ∧
              ((∃ u, w5.cell? (b3.add ((IntKind.wrap .i64 (Int.tdiv k (8 : Int))).toNat * 1)) = some u) ∧ w5.frozen? (b3.add ((IntKind.wrap .i64 (Int.tdiv k (8 : Int))).toNat * 1)) = false ∧
              (let w6 := w5.setCell (b3.add ((IntKind.wrap .i64 (Int.tdiv k (8 : Int))).toNat * 1)) (.int .u8 (bOr .u8 x2 bit));
              (let i1 := (IntKind.wrap .i64 (i + (1 : Int)));
              ((I i1).2 w6 ∧ (I i1).1 < (I i).1))))))))
              ((let i2 := (IntKind.wrap .i64 (i + (1 : Int)));
              ((I i2).2 w5 ∧ (I i2).1 < (I i).1))))))))))))))
            (R (.tuple #[(.slice x_a x_l x_c), (.int .i64 (0 : Int))]) w4)))))) ∧
      (bsplit (decide (at1 > (IntKind.wrap .i64 ((8 : Int) * (b_l : Int)))))
        (R (.tuple #[(.slice none 0 0), (.int .i64 (5 : Int))]) w1)
        ((bsplit (decide ((IntKind.wrap .i64 (at1 + n)) > (IntKind.wrap .i64 ((8 : Int) * (b_l : Int)))))
          (R (.tuple #[(.slice none 0 0), (.int .i64 (5 : Int))]) w1)
          (J1 w1)))))))) ∧
  (bsplit (decide (n < (0 : Int)))
    (J true w)
    ((bsplit (decide (n > (32 : Int)))
      (J true w)
      ((bsplit (decide (at1 < (0 : Int)))
        (J true w)
        ((bsplit (decide (v < (0 : Int)))
          (J true w)
          ((0 ≤ (IntKind.wrap .u64 n) ∧ J (decide (v ≥ (IntKind.wrap .i64 ((1 : Int) * 2 ^ (min (IntKind.wrap .u64 n).toNat (IntKind.bits .i64)))))) w))))))))))
theorem F_ref01_Write_eq (b_a : Option Addr) (b_l : Nat) (b_c : Nat) (at1 : Int) (n : Int) (v : Int) (w : World) (R : Value → World → Prop) : sxFn Try.prog TT h_ref01_Write Try.f13 #[(.slice b_a b_l b_c), (.int .i64 at1), (.int .i64 n), (.int .i64 v)] w R = F_ref01_Write b_a b_l b_c at1 n v w R := by kernel_rfl
theorem F_ref01_Write_ok {R : Ending → World → Prop} (b_a : Option Addr) (b_l : Nat) (b_c : Nat) (at1 : Int) (n : Int) (v : Int) (w : World) (h : F_ref01_Write b_a b_l b_c at1 n v w fun v w' => R (.returned v) w') : Calls Try.prog N_ref01_Write #[(.slice b_a b_l b_c), (.int .i64 at1), (.int .i64 n), (.int .i64 v)] w R :=
  calls_of (f := 13) follows_ok Try.func13 (Eq.mpr (F_ref01_Write_eq b_a b_l b_c at1 n v w _) h)

def h_ref01_Same : H := (.seq .reg (.seq .reg .leaf))
def F_ref01_Same (a_a : Option Addr) (a_l : Nat) (a_c : Nat) (b_a : Option Addr) (b_l : Nat) (b_c : Nat) (w : World) (R : Value → World → Prop) : Prop :=
  (ConvS Try.prog Ty_S_uint8 Ty_string (.slice a_a a_l a_c) w fun x =>
  (ConvS Try.prog Ty_S_uint8 Ty_string (.slice b_a b_l b_c) w fun x1 =>
  R (.bool (x == x1)) w))
theorem F_ref01_Same_eq (a_a : Option Addr) (a_l : Nat) (a_c : Nat) (b_a : Option Addr) (b_l : Nat) (b_c : Nat) (w : World) (R : Value → World → Prop) : sxFn Try.prog TT h_ref01_Same Try.f14 #[(.slice a_a a_l a_c), (.slice b_a b_l b_c)] w R = F_ref01_Same a_a a_l a_c b_a b_l b_c w R := by kernel_rfl
theorem F_ref01_Same_ok {R : Ending → World → Prop} (a_a : Option Addr) (a_l : Nat) (a_c : Nat) (b_a : Option Addr) (b_l : Nat) (b_c : Nat) (w : World) (h : F_ref01_Same a_a a_l a_c b_a b_l b_c w fun v w' => R (.returned v) w') : Calls Try.prog N_ref01_Same #[(.slice a_a a_l a_c), (.slice b_a b_l b_c)] w R :=
  calls_of (f := 14) follows_ok Try.func14 (Eq.mpr (F_ref01_Same_eq a_a a_l a_c b_a b_l b_c w _) h)

def h_bits_Pack : H := (.seq .reg (.cut [] [4, 5, 13, 14, 15, 16, 17, 18, 19, 20, 21, 22] (.seq .reg (.cond (.seq .reg .leaf) .leaf)) (.seq .reg (.seq (.seq .reg (.block (.loop [(6, .p (.int .i64)), (25, .p (.int .i64))] [4, 5, 6, 7, 8, 25, 26, 27, 28, 29, 30, 31, 32, 33, 34, 35, 36, 37, 38, 39, 40] (.seq .reg (.seq (.cond .leaf .leaf) (.seq (.block (.seq .reg (.seq (.seq .reg (.cond (.seq .reg .leaf) .leaf)) .reg))) .reg)))))) (.seq .reg (.seq .reg (.seq (.seq .reg (.block (.loop [(10, .p (.int .i64)), (47, .p (.int .i64))] [10, 11, 12, 47, 48, 49, 50, 51, 52, 53, 54, 55, 56, 57, 58, 59, 60, 61, 62, 63] (.seq .reg (.seq (.cond .leaf .leaf) (.seq (.block (.seq .reg (.seq .reg .reg))) .reg)))))) (.seq .reg .leaf))))))))
def F_bits_Pack (widths_a : Option Addr) (widths_l : Nat) (widths_c : Nat) (values_a : Option Addr) (values_l : Nat) (values_c : Nat) (w : World) (R : Value → World → Prop) : Prop :=
  (∃ J : World → Prop,
  (∀ (_junk : Env)  (w1 : World), J w1 →
    (∃ I : Int → Int → Nat × (World → Prop), (I (0 : Int) (0 : Int)).2 w1 ∧
    (∀ (_junk : Env) (total : Int) (x : Int) (w2 : World), (I total x).2 w2 →
      (bsplit (decide (x < (widths_l : Int)))
        ((∃ b : Addr, widths_a = some b ∧ (0 ≤ x ∧ x < (widths_l : Int)) ∧
        (∃ x1 : Int, w2.cell? (b.add (x.toNat * 1)) = some (.int .i64 x1) ∧
        (∃ b1 : Addr, values_a = some b1 ∧ (0 ≤ x ∧ x < (values_l : Int)) ∧
        (∃ x2 : Int, w2.cell? (b1.add (x.toNat * 1)) = some (.int .i64 x2) ∧
        (Calls Try.prog N_bits_fits #[(.int .i64 x1), (.int .i64 x2)] w2 fun e_ w3 =>
        ∃ r : Bool, e_ = .returned (.bool r) ∧
        (bsplit (!r)
          (R (.tuple #[(.slice none 0 0), (.int .i64 (3 : Int))]) w3)
          ((let total1 := (IntKind.wrap .i64 (total + x1));
          ((I total1 (IntKind.wrap .i64 (x + (1 : Int)))).2 w3 ∧ (I total1 (IntKind.wrap .i64 (x + (1 : Int)))).1 < (I total x).1))))))))))
        (((0 ≤ (IntKind.wrap .i64 (Int.tdiv (IntKind.wrap .i64 (total + (7 : Int))) (8 : Int))) ∧ (IntKind.wrap .i64 (Int.tdiv (IntKind.wrap .i64 (total + (7 : Int))) (8 : Int))) ≤ (IntKind.wrap .i64 (Int.tdiv (IntKind.wrap .i64 (total + (7 : Int))) (8 : Int))) ∧ (1 : Int) * (IntKind.wrap .i64 (Int.tdiv (IntKind.wrap .i64 (total + (7 : Int))) (8 : Int))) ≤ 281474976710656 ∧ (IntKind.wrap .i64 (Int.tdiv (IntKind.wrap .i64 (total + (7 : Int))) (8 : Int))) ≤ 9223372036854775807) ∧
        (let w4 := w2.alloc (.cells (madeCells #[(.int .u8 (0 : Int))] ((IntKind.wrap .i64 (Int.tdiv (IntKind.wrap .i64 (total + (7 : Int))) (8 : Int))).toNat * 1)) Ty_uint8);
        (∃ I1 : Int → Int → Nat × (World → Prop), (I1 (0 : Int) (0 : Int)).2 w4 ∧
        (∀ (_junk : Env) (at1 : Int) (x3 : Int) (w5 : World), (I1 at1 x3).2 w5 →
          (bsplit (decide (x3 < (widths_l : Int)))
            ((∃ b2 : Addr, widths_a = some b2 ∧ (0 ≤ x3 ∧ x3 < (widths_l : Int)) ∧
            (∃ x4 : Int, w5.cell? (b2.add (x3.toNat * 1)) = some (.int .i64 x4) ∧
            (∃ b3 : Addr, values_a = some b3 ∧ (0 ≤ x3 ∧ x3 < (values_l : Int)) ∧
            (∃ x5 : Int, w5.cell? (b3.add (x3.toNat * 1)) = some (.int .i64 x5) ∧
            (Calls Try.prog N_bits_set #[(.slice (some (nb w2)) (IntKind.wrap .i64 (Int.tdiv (IntKind.wrap .i64 (total + (7 : Int))) (8 : Int))).toNat (IntKind.wrap .i64 (Int.tdiv (IntKind.wrap .i64 (total + (7 : Int))) (8 : Int))).toNat), (.int .i64 at1), (.int .i64 x4), (.int .i64 x5)] w5 fun e_1 w6 =>
            e_1 = .returned (.tuple #[]) ∧
            (let at2 := (IntKind.wrap .i64 (at1 + x4));
            ((I1 at2 (IntKind.wrap .i64 (x3 + (1 : Int)))).2 w6 ∧ (I1 at2 (IntKind.wrap .i64 (x3 + (1 : Int)))).1 < (I1 at1 x3).1))))))))
            (R (.tuple #[(.slice (some (nb w2)) (IntKind.wrap .i64 (Int.tdiv (IntKind.wrap .i64 (total + (7 : Int))) (8 : Int))).toNat (IntKind.wrap .i64 (Int.tdiv (IntKind.wrap .i64 (total + (7 : Int))) (8 : Int))).toNat), (.int .i64 (0 : Int))]) w5))))))))))) ∧
  (bsplit ((widths_l : Int) != (values_l : Int))
    (R (.tuple #[(.slice none 0 0), (.int .i64 (2 : Int))]) w)
    ((bsplit (decide ((widths_l : Int) > (256 : Int)))
      (R (.tuple #[(.slice none 0 0), (.int .i64 (2 : Int))]) w)
      (J w)))))
theorem F_bits_Pack_eq (widths_a : Option Addr) (widths_l : Nat) (widths_c : Nat) (values_a : Option Addr) (values_l : Nat) (values_c : Nat) (w : World) (R : Value → World → Prop) : sxFn Try.prog TT h_bits_Pack Try.f15 #[(.slice widths_a widths_l widths_c), (.slice values_a values_l values_c)] w R = F_bits_Pack widths_a widths_l widths_c values_a values_l values_c w R := by kernel_rfl
theorem F_bits_Pack_ok {R : Ending → World → Prop} (widths_a : Option Addr) (widths_l : Nat) (widths_c : Nat) (values_a : Option Addr) (values_l : Nat) (values_c : Nat) (w : World) (h : F_bits_Pack widths_a widths_l widths_c values_a values_l values_c w fun v w' => R (.returned v) w') : Calls Try.prog N_bits_Pack #[(.slice widths_a widths_l widths_c), (.slice values_a values_l values_c)] w R :=
  calls_of (f := 15) follows_ok Try.func15 (Eq.mpr (F_bits_Pack_eq widths_a widths_l widths_c values_a values_l values_c w _) h)

def h_ref01_Pack : H := (.seq .reg (.cut [] [4, 5, 11, 12, 13, 14, 15, 16, 17, 18, 19, 20] (.seq .reg (.cond (.seq .reg .leaf) .leaf)) (.seq .reg (.seq (.seq .reg (.block (.loop [(6, .p (.int .i64)), (7, .p (.int .i64))] [4, 5, 6, 7, 21, 22, 23, 24, 25, 26, 27, 28, 29, 30, 31, 32, 33, 34, 35, 36, 37, 38, 39, 40, 41, 42, 43, 44, 45, 46, 47, 48, 49, 50, 51, 52, 53, 54, 55, 56, 57, 58, 59, 60, 61, 62, 63, 64] (.seq (.seq .reg (.cond .leaf .leaf)) (.seq (.block (.seq (.cut [(58, .p .bool)] [27, 28, 29, 30, 31, 32, 33, 34, 35, 36, 37, 38, 39, 40, 41, 42, 43, 44, 45, 46, 47, 48, 49, 50, 51, 52, 53, 54, 55, 56, 57, 58] (.draw false (.one 0 .stable (.one 1 .stable (.one 2 .stable (.one 3 .stable (.one 4 .stable (.one 5 .stable (.one 6 .stable (.one 7 .stable (.one 8 .stable (.one 9 .stable (.one 10 .stable (.one 11 .stable (.one 12 .stable (.one 13 .stable (.one 14 .stable (.one 15 .stable (.one 16 .stable (.one 17 .stable (.one 18 .stable (.one 19 .stable (.one 20 .stable (.one 21 .stable (.one 22 .stable (.one 23 .stable (.one 24 .stable (.one 25 .stable (.one 26 .stable (.one 27 .stable (.one 28 .stable (.one 29 .stable (.one 30 .stable (.one 31 .stable .nil))))))))))))))))))))))))))))))))) (.cond (.seq .reg .leaf) .leaf)) .reg)) .reg))))) (.seq .reg (.seq .reg (.seq (.seq .reg (.block (.loop [(8, .p .slice), (9, .p (.int .i64)), (10, .p (.int .i64))] [8, 9, 10, 69, 70, 71, 72, 73, 74, 75, 76, 77, 78, 79, 80, 81, 82, 83, 84, 85, 86, 87, 88, 89, 90, 91, 92, 93, 94] (.seq (.seq .reg (.cond .leaf .leaf)) (.seq (.block (.seq (.draw true (.one 0 .stable (.one 1 .stable (.one 2 .stable (.one 3 .stable (.one 4 .stable (.one 5 .stable (.one 6 .stable (.one 7 .stable (.one 8 .stable (.one 9 .stable (.one 10 .keep (.one 11 .stable (.one 12 .stable (.one 13 .stable (.one 14 .stable .nil)))))))))))))))) .reg)) .reg))))) (.seq .reg .leaf))))))))
def F_ref01_Pack (widths_a : Option Addr) (widths_l : Nat) (widths_c : Nat) (values_a : Option Addr) (values_l : Nat) (values_c : Nat) (w : World) (R : Value → World → Prop) : Prop :=
  (∃ J : World → Prop,
  (∀ (_junk : Env)  (w1 : World), J w1 →
    (∃ I : Int → Int → Nat × (World → Prop), (I (0 : Int) (0 : Int)).2 w1 ∧
    (∀ (_junk : Env) (n : Int) (i : Int) (w2 : World), (I n i).2 w2 →
      (bsplit (decide (i < (widths_l : Int)))
        ((∃ J1 : Bool → World → Prop,
        (∀ (_junk : Env) (x5 : Bool) (w4 : World), J1 x5 w4 →
          (bsplit x5
            (R (.tuple #[(.slice none 0 0), (.int .i64 (3 : Int))]) w4)
            ((∃ b5 : Addr, widths_a = some b5 ∧ (0 ≤ i ∧ i < (widths_l : Int)) ∧
            (∃ x6 : Int, w4.cell? (b5.add (i.toNat * 1)) = some (.int .i64 x6) ∧
            (let n1 := (IntKind.wrap .i64 (n + x6));
            (let i1 := (IntKind.wrap .i64 (i + (1 : Int)));
            ((I n1 i1).2 w4 ∧ (I n1 i1).1 < (I n i).1)))))))) ∧
        (let w3 := w2.drew;
        (∃ b : Addr, widths_a = some b ∧ (0 ≤ i ∧ i < (widths_l : Int)) ∧
        (∃ x : Int, w3.cell? (b.add (i.toNat * 1)) = some (.int .i64 x) ∧
        (bsplit (decide (x < (0 : Int)))
          (J1 true w3)
          ((∃ b1 : Addr, widths_a = some b1 ∧ (0 ≤ i ∧ i < (widths_l : Int)) ∧
          (∃ x1 : Int, w3.cell? (b1.add (i.toNat * 1)) = some (.int .i64 x1) ∧
          (bsplit (decide (x1 > (32 : Int)))
            (J1 true w3)
            ((∃ b2 : Addr, values_a = some b2 ∧ (0 ≤ i ∧ i < (values_l : Int)) ∧
            (∃ x2 : Int, w3.cell? (b2.add (i.toNat * 1)) = some (.int .i64 x2) ∧
            (bsplit (decide (x2 < (0 : Int)))
              (J1 true w3)
              ((∃ b3 : Addr, values_a = some b3 ∧ (0 ≤ i ∧ i < (values_l : Int)) ∧
              (∃ x3 : Int, w3.cell? (b3.add (i.toNat * 1)) = some (.int .i64 x3) ∧
              (∃ b4 : Addr, widths_a = some b4 ∧ (0 ≤ i ∧ i < (widths_l : Int)) ∧
              (∃ x4 : Int, w3.cell? (b4.add (i.toNat * 1)) = some (.int .i64 x4) ∧
              (0 ≤ (IntKind.wrap .u64 x4) ∧ J1 (decide (x3 ≥ (IntKind.wrap .i64 ((1 : Int) * 2 ^ (min (IntKind.wrap .u64 x4).toNat (IntKind.bits .i64)))))) w3))))))))))))))))))))
        (((0 ≤ (IntKind.wrap .i64 (Int.tdiv (IntKind.wrap .i64 (n + (7 : Int))) (8 : Int))) ∧ (IntKind.wrap .i64 (Int.tdiv (IntKind.wrap .i64 (n + (7 : Int))) (8 : Int))) ≤ (IntKind.wrap .i64 (Int.tdiv (IntKind.wrap .i64 (n + (7 : Int))) (8 : Int))) ∧ (1 : Int) * (IntKind.wrap .i64 (Int.tdiv (IntKind.wrap .i64 (n + (7 : Int))) (8 : Int))) ≤ 281474976710656 ∧ (IntKind.wrap .i64 (Int.tdiv (IntKind.wrap .i64 (n + (7 : Int))) (8 : Int))) ≤ 9223372036854775807) ∧
        (let w5 := w2.alloc (.cells (madeCells #[(.int .u8 (0 : Int))] ((IntKind.wrap .i64 (Int.tdiv (IntKind.wrap .i64 (n + (7 : Int))) (8 : Int))).toNat * 1)) Ty_uint8);
        (∃ I1 : Option Addr → Nat → Nat → Int → Int → Nat × (World → Prop), (I1 (some (nb w2)) ((IntKind.wrap .i64 (Int.tdiv (IntKind.wrap .i64 (n + (7 : Int))) (8 : Int))).toNat) ((IntKind.wrap .i64 (Int.tdiv (IntKind.wrap .i64 (n + (7 : Int))) (8 : Int))).toNat) (0 : Int) (0 : Int)).2 w5 ∧
        (∀ (_junk : Env) (out_a : Option Addr) (out_l : Nat) (out_c : Nat) (at1 : Int) (i2 : Int) (w6 : World), (I1 out_a out_l out_c at1 i2).2 w6 →
          (bsplit (decide (i2 < (widths_l : Int)))
            ((let w7 := w6.drew;
            (∃ S : Nat → Prop,
            (∃ b6 : Addr, widths_a = some b6 ∧ (0 ≤ i2 ∧ i2 < (widths_l : Int)) ∧
            (S (b6.add (i2.toNat * 1)).block ∧
            (∃ x7 : Int, w7.cell? (b6.add (i2.toNat * 1)) = some (.int .i64 x7) ∧
            (∃ b7 : Addr, values_a = some b7 ∧ (0 ≤ i2 ∧ i2 < (values_l : Int)) ∧
            (S (b7.add (i2.toNat * 1)).block ∧
            (∃ x8 : Int, w7.cell? (b7.add (i2.toNat * 1)) = some (.int .i64 x8) ∧
            (Calls Try.prog N_ref01_Write #[(.slice out_a out_l out_c), (.int .i64 at1), (.int .i64 x7), (.int .i64 x8)] w7 fun e_ w8 =>
            ∃ r_a : Option Addr, ∃ r_l : Nat, ∃ r_c : Nat, ∃ r : Int, e_ = .returned (.tuple #[(.slice r_a r_l r_c), (.int .i64 r)]) ∧
            (KeepsB S w7 w8 ∧ (∃ b8 : Addr, widths_a = some b8 ∧ (0 ≤ i2 ∧ i2 < (widths_l : Int)) ∧
            (∃ x9 : Int, w8.cell? (b8.add (i2.toNat * 1)) = some (.int .i64 x9) ∧
            (let at2 := (IntKind.wrap .i64 (at1 + x9));
            (let i3 := (IntKind.wrap .i64 (i2 + (1 : Int)));
            ((I1 r_a r_l r_c at2 i3).2 w8 ∧ (I1 r_a r_l r_c at2 i3).1 < (I1 out_a out_l out_c at1 i2).1))))))))))))))))
            (R (.tuple #[(.slice out_a out_l out_c), (.int .i64 (0 : Int))]) w6))))))))))) ∧
  (bsplit ((widths_l : Int) != (values_l : Int))
    (R (.tuple #[(.slice none 0 0), (.int .i64 (2 : Int))]) w)
    ((bsplit (decide ((widths_l : Int) > (256 : Int)))
      (R (.tuple #[(.slice none 0 0), (.int .i64 (2 : Int))]) w)
      (J w)))))
theorem F_ref01_Pack_eq (widths_a : Option Addr) (widths_l : Nat) (widths_c : Nat) (values_a : Option Addr) (values_l : Nat) (values_c : Nat) (w : World) (R : Value → World → Prop) : sxFn Try.prog TT h_ref01_Pack Try.f16 #[(.slice widths_a widths_l widths_c), (.slice values_a values_l values_c)] w R = F_ref01_Pack widths_a widths_l widths_c values_a values_l values_c w R := by kernel_rfl
theorem F_ref01_Pack_ok {R : Ending → World → Prop} (widths_a : Option Addr) (widths_l : Nat) (widths_c : Nat) (values_a : Option Addr) (values_l : Nat) (values_c : Nat) (w : World) (h : F_ref01_Pack widths_a widths_l widths_c values_a values_l values_c w fun v w' => R (.returned v) w') : Calls Try.prog N_ref01_Pack #[(.slice widths_a widths_l widths_c), (.slice values_a values_l values_c)] w R :=
  calls_of (f := 16) follows_ok Try.func16 (Eq.mpr (F_ref01_Pack_eq widths_a widths_l widths_c values_a values_l values_c w _) h)

def h_bits_Unpack : H := (.seq .reg (.seq (.seq .reg (.cond (.seq .reg .leaf) .leaf)) (.seq .reg (.seq (.seq .reg (.block (.loop [(6, .p (.int .i64)), (23, .p (.int .i64))] [4, 5, 6, 8, 23, 24, 25, 26, 27, 28, 29, 30, 31, 32, 33, 34, 35, 36] (.seq .reg (.seq (.cond .leaf .leaf) (.seq (.block (.seq .reg (.seq (.seq .reg (.cond (.seq .reg .leaf) .leaf)) .reg))) .reg)))))) (.seq (.seq .reg (.cond (.seq .reg .leaf) .leaf)) (.seq .reg (.seq (.seq .reg (.cond (.seq .reg .leaf) .leaf)) (.seq (.seq .reg (.seq .reg (.cond (.seq .reg .leaf) .leaf))) (.seq .reg (.seq .reg (.seq (.seq .reg (.block (.loop [(12, .p .slice), (13, .p (.int .i64)), (59, .p (.int .i64))] [12, 13, 15, 16, 17, 59, 60, 61, 62, 63, 64, 65, 66, 67, 68, 69, 70, 71, 72, 73, 74, 75, 76, 77] (.seq .reg (.seq (.cond .leaf .leaf) (.seq (.block (.seq .reg (.seq .reg (.seq .reg .reg)))) .reg)))))) (.seq .reg .leaf))))))))))))
def F_bits_Unpack (b_a : Option Addr) (b_l : Nat) (b_c : Nat) (widths_a : Option Addr) (widths_l : Nat) (widths_c : Nat) (w : World) (R : Value → World → Prop) : Prop :=
  (bsplit (decide ((widths_l : Int) > (256 : Int)))
    (R (.tuple #[(.slice none 0 0), (.int .i64 (2 : Int))]) w)
    ((∃ I : Int → Int → Nat × (World → Prop), (I (0 : Int) (0 : Int)).2 w ∧
    (∀ (_junk : Env) (total : Int) (x : Int) (w1 : World), (I total x).2 w1 →
      (bsplit (decide (x < (widths_l : Int)))
        ((∃ b : Addr, widths_a = some b ∧ (0 ≤ x ∧ x < (widths_l : Int)) ∧
        (∃ x1 : Int, w1.cell? (b.add (x.toNat * 1)) = some (.int .i64 x1) ∧
        (bsplit (decide (x1 < (0 : Int)))
          (R (.tuple #[(.slice none 0 0), (.int .i64 (3 : Int))]) w1)
          ((bsplit (decide (x1 > (32 : Int)))
            (R (.tuple #[(.slice none 0 0), (.int .i64 (3 : Int))]) w1)
            ((let total2 := (IntKind.wrap .i64 (total + x1));
            ((I total2 (IntKind.wrap .i64 (x + (1 : Int)))).2 w1 ∧ (I total2 (IntKind.wrap .i64 (x + (1 : Int)))).1 < (I total x).1)))))))))
        ((Calls Try.prog N_bits_inside #[(.slice b_a b_l b_c), (.int .i64 (0 : Int)), (.int .i64 total)] w1 fun e_ w2 =>
        ∃ r : Bool, e_ = .returned (.bool r) ∧
        (bsplit (!r)
          (R (.tuple #[(.slice none 0 0), (.int .i64 (5 : Int))]) w2)
          ((let rest := (IntKind.wrap .i64 ((IntKind.wrap .i64 ((8 : Int) * (b_l : Int))) - total));
          (bsplit (decide (rest ≥ (8 : Int)))
            (R (.tuple #[(.slice none 0 0), (.int .i64 (4 : Int))]) w2)
            ((Calls Try.prog N_bits_Read #[(.slice b_a b_l b_c), (.int .i64 total), (.int .i64 rest)] w2 fun e_1 w3 =>
            ∃ r1 : Int, ∃ r2 : Int, e_1 = .returned (.tuple #[(.int .i64 r1), (.int .i64 r2)]) ∧
            (bsplit (r1 != (0 : Int))
              (R (.tuple #[(.slice none 0 0), (.int .i64 (4 : Int))]) w3)
              ((∃ I1 : Option Addr → Nat → Nat → Int → Int → Nat × (World → Prop), (I1 none 0 0 (0 : Int) (0 : Int)).2 w3 ∧
              (∀ (_junk : Env) (out_a : Option Addr) (out_l : Nat) (out_c : Nat) (at1 : Int) (x2 : Int) (w4 : World), (I1 out_a out_l out_c at1 x2).2 w4 →
                (bsplit (decide (x2 < (widths_l : Int)))
                  ((∃ b1 : Addr, widths_a = some b1 ∧ (0 ≤ x2 ∧ x2 < (widths_l : Int)) ∧
                  (∃ x3 : Int, w4.cell? (b1.add (x2.toNat * 1)) = some (.int .i64 x3) ∧
                  (Calls Try.prog N_bits_Read #[(.slice b_a b_l b_c), (.int .i64 at1), (.int .i64 x3)] w4 fun e_2 w5 =>
                  ∃ r3 : Int, ∃ r4 : Int, e_2 = .returned (.tuple #[(.int .i64 r3), (.int .i64 r4)]) ∧
                  (let w6 := w5.alloc (.cells #[(.int .i64 r3)] Ty_int);
                  (AppP Try.prog #[Ty_S_int, Ty_S_int] Ty_S_int #[(.slice out_a out_l out_c), (.slice (some (nb w5)) 1 1)] w6 fun x_a x_l x_c w7 =>
                  (let at2 := (IntKind.wrap .i64 (at1 + x3));
                  ((I1 x_a x_l x_c at2 (IntKind.wrap .i64 (x2 + (1 : Int)))).2 w7 ∧ (I1 x_a x_l x_c at2 (IntKind.wrap .i64 (x2 + (1 : Int)))).1 < (I1 out_a out_l out_c at1 x2).1))))))))
                  (R (.tuple #[(.slice out_a out_l out_c), (.int .i64 (0 : Int))]) w4)))))))))))))))))))
theorem F_bits_Unpack_eq (b_a : Option Addr) (b_l : Nat) (b_c : Nat) (widths_a : Option Addr) (widths_l : Nat) (widths_c : Nat) (w : World) (R : Value → World → Prop) : sxFn Try.prog TT h_bits_Unpack Try.f17 #[(.slice b_a b_l b_c), (.slice widths_a widths_l widths_c)] w R = F_bits_Unpack b_a b_l b_c widths_a widths_l widths_c w R := by kernel_rfl
theorem F_bits_Unpack_ok {R : Ending → World → Prop} (b_a : Option Addr) (b_l : Nat) (b_c : Nat) (widths_a : Option Addr) (widths_l : Nat) (widths_c : Nat) (w : World) (h : F_bits_Unpack b_a b_l b_c widths_a widths_l widths_c w fun v w' => R (.returned v) w') : Calls Try.prog N_bits_Unpack #[(.slice b_a b_l b_c), (.slice widths_a widths_l widths_c)] w R :=
  calls_of (f := 17) follows_ok Try.func17 (Eq.mpr (F_bits_Unpack_eq b_a b_l b_c widths_a widths_l widths_c w _) h)

def h_ref01_Unpack : H := (.seq .reg (.seq (.seq .reg (.cond (.seq .reg .leaf) .leaf)) (.seq .reg (.seq (.seq .reg (.block (.loop [(6, .p (.int .i64)), (7, .p (.int .i64))] [4, 5, 6, 7, 18, 19, 20, 21, 22, 23, 24, 25, 26, 27, 28, 29, 30, 31, 32, 33, 34, 35, 36, 37, 38, 39, 40, 41] (.seq (.seq .reg (.cond .leaf .leaf)) (.seq (.block (.seq (.seq .reg (.cond (.seq .reg .leaf) .leaf)) .reg)) .reg))))) (.seq (.seq .reg (.cond (.seq .reg .leaf) .leaf)) (.seq (.seq .reg (.cond (.seq .reg .leaf) .leaf)) (.seq (.seq .reg (.seq .reg (.cond (.seq .reg .leaf) .leaf))) (.seq .reg (.seq .reg (.seq (.seq .reg (.block (.loop [(10, .p .slice), (11, .p (.int .i64)), (12, .p (.int .i64))] [10, 11, 12, 13, 14, 66, 67, 68, 69, 70, 71, 72, 73, 74, 75, 76, 77, 78, 79, 80, 81, 82, 83, 84, 85, 86, 87, 88, 89, 90, 91] (.seq (.seq .reg (.cond .leaf .leaf)) (.seq (.block (.seq .reg (.seq .reg .reg))) .reg))))) (.seq .reg .leaf)))))))))))
def F_ref01_Unpack (b_a : Option Addr) (b_l : Nat) (b_c : Nat) (widths_a : Option Addr) (widths_l : Nat) (widths_c : Nat) (w : World) (R : Value → World → Prop) : Prop :=
  (bsplit (decide ((widths_l : Int) > (256 : Int)))
    (R (.tuple #[(.slice none 0 0), (.int .i64 (2 : Int))]) w)
    ((∃ I : Int → Int → Nat × (World → Prop), (I (0 : Int) (0 : Int)).2 w ∧
    (∀ (_junk : Env) (n : Int) (i : Int) (w1 : World), (I n i).2 w1 →
      (bsplit (decide (i < (widths_l : Int)))
        ((∃ b : Addr, widths_a = some b ∧ (0 ≤ i ∧ i < (widths_l : Int)) ∧
        (∃ x : Int, w1.cell? (b.add (i.toNat * 1)) = some (.int .i64 x) ∧
        (bsplit (decide (x < (0 : Int)))
          (R (.tuple #[(.slice none 0 0), (.int .i64 (3 : Int))]) w1)
          ((∃ b2 : Addr, widths_a = some b2 ∧ (0 ≤ i ∧ i < (widths_l : Int)) ∧
          (∃ x2 : Int, w1.cell? (b2.add (i.toNat * 1)) = some (.int .i64 x2) ∧
          (bsplit (decide (x2 > (32 : Int)))
            (R (.tuple #[(.slice none 0 0), (.int .i64 (3 : Int))]) w1)
            ((∃ b3 : Addr, widths_a = some b3 ∧ (0 ≤ i ∧ i < (widths_l : Int)) ∧
            (∃ x3 : Int, w1.cell? (b3.add (i.toNat * 1)) = some (.int .i64 x3) ∧
            (let n2 := (IntKind.wrap .i64 (n + x3));
            (let i2 := (IntKind.wrap .i64 (i + (1 : Int)));
            ((I n2 i2).2 w1 ∧ (I n2 i2).1 < (I n i).1))))))))))))))
        ((bsplit (decide ((IntKind.wrap .i64 ((8 : Int) * (b_l : Int))) < n))
          (R (.tuple #[(.slice none 0 0), (.int .i64 (5 : Int))]) w1)
          ((bsplit (decide ((b_l : Int) > (IntKind.wrap .i64 (Int.tdiv (IntKind.wrap .i64 (n + (7 : Int))) (8 : Int)))))
            (R (.tuple #[(.slice none 0 0), (.int .i64 (4 : Int))]) w1)
            ((Calls Try.prog N_ref01_Read #[(.slice b_a b_l b_c), (.int .i64 n), (.int .i64 (IntKind.wrap .i64 ((IntKind.wrap .i64 ((8 : Int) * (b_l : Int))) - n)))] w1 fun e_ w2 =>
            ∃ r : Int, ∃ r1 : Int, e_ = .returned (.tuple #[(.int .i64 r), (.int .i64 r1)]) ∧
            (bsplit (r != (0 : Int))
              (R (.tuple #[(.slice none 0 0), (.int .i64 (4 : Int))]) w2)
              ((∃ I1 : Option Addr → Nat → Nat → Int → Int → Nat × (World → Prop), (I1 none 0 0 (0 : Int) (0 : Int)).2 w2 ∧
              (∀ (_junk : Env) (out_a : Option Addr) (out_l : Nat) (out_c : Nat) (at1 : Int) (i3 : Int) (w3 : World), (I1 out_a out_l out_c at1 i3).2 w3 →
                (bsplit (decide (i3 < (widths_l : Int)))
                  ((∃ b4 : Addr, widths_a = some b4 ∧ (0 ≤ i3 ∧ i3 < (widths_l : Int)) ∧
                  (∃ x4 : Int, w3.cell? (b4.add (i3.toNat * 1)) = some (.int .i64 x4) ∧
                  (Calls Try.prog N_ref01_Read #[(.slice b_a b_l b_c), (.int .i64 at1), (.int .i64 x4)] w3 fun e_1 w4 =>
                  ∃ r2 : Int, ∃ r3 : Int, e_1 = .returned (.tuple #[(.int .i64 r2), (.int .i64 r3)]) ∧
                  (let w5 := w4.alloc (.cells #[(.int .i64 r2)] Ty_int);
                  (AppP Try.prog #[Ty_S_int, Ty_S_int] Ty_S_int #[(.slice out_a out_l out_c), (.slice (some (nb w4)) 1 1)] w5 fun x_a x_l x_c w6 =>
                  (∃ b5 : Addr, widths_a = some b5 ∧ (0 ≤ i3 ∧ i3 < (widths_l : Int)) ∧
                  (∃ x5 : Int, w6.cell? (b5.add (i3.toNat * 1)) = some (.int .i64 x5) ∧
                  (let at2 := (IntKind.wrap .i64 (at1 + x5));
                  (let i4 := (IntKind.wrap .i64 (i3 + (1 : Int)));
                  ((I1 x_a x_l x_c at2 i4).2 w6 ∧ (I1 x_a x_l x_c at2 i4).1 < (I1 out_a out_l out_c at1 i3).1)))))))))))
                  (R (.tuple #[(.slice out_a out_l out_c), (.int .i64 (0 : Int))]) w3)))))))))))))))))
theorem F_ref01_Unpack_eq (b_a : Option Addr) (b_l : Nat) (b_c : Nat) (widths_a : Option Addr) (widths_l : Nat) (widths_c : Nat) (w : World) (R : Value → World → Prop) : sxFn Try.prog TT h_ref01_Unpack Try.f18 #[(.slice b_a b_l b_c), (.slice widths_a widths_l widths_c)] w R = F_ref01_Unpack b_a b_l b_c widths_a widths_l widths_c w R := by kernel_rfl
theorem F_ref01_Unpack_ok {R : Ending → World → Prop} (b_a : Option Addr) (b_l : Nat) (b_c : Nat) (widths_a : Option Addr) (widths_l : Nat) (widths_c : Nat) (w : World) (h : F_ref01_Unpack b_a b_l b_c widths_a widths_l widths_c w fun v w' => R (.returned v) w') : Calls Try.prog N_ref01_Unpack #[(.slice b_a b_l b_c), (.slice widths_a widths_l widths_c)] w R :=
  calls_of (f := 18) follows_ok Try.func18 (Eq.mpr (F_ref01_Unpack_eq b_a b_l b_c widths_a widths_l widths_c w _) h)

def h_ref01_SameInts : H := (.seq .reg (.seq (.seq .reg (.cond (.seq .reg .leaf) .leaf)) (.seq (.seq .reg (.block (.loop [(5, .p (.int .i64))] [4, 5, 11, 12, 13, 14, 15, 16, 17, 18, 19, 20, 21, 22, 23, 24, 25] (.seq (.seq .reg (.cond .leaf .leaf)) (.seq (.block (.seq (.draw false (.one 0 .stable (.one 1 .stable (.one 2 .stable (.one 3 .stable (.one 4 .stable (.one 5 .stable (.one 6 .stable (.one 7 .stable (.one 8 .stable .nil)))))))))) (.cond (.seq .reg .leaf) .leaf))) .reg))))) (.seq .reg .leaf))))
def F_ref01_SameInts (a_a : Option Addr) (a_l : Nat) (a_c : Nat) (b_a : Option Addr) (b_l : Nat) (b_c : Nat) (w : World) (R : Value → World → Prop) : Prop :=
  (bsplit ((a_l : Int) != (b_l : Int))
    (R (.bool false) w)
    ((∃ I : Int → Nat × (World → Prop), (I (0 : Int)).2 w ∧
    (∀ (_junk : Env) (i : Int) (w1 : World), (I i).2 w1 →
      (bsplit (decide (i < (a_l : Int)))
        ((let w2 := w1.drew;
        (∃ b : Addr, a_a = some b ∧ (0 ≤ i ∧ i < (a_l : Int)) ∧
        (∃ x : Int, w2.cell? (b.add (i.toNat * 1)) = some (.int .i64 x) ∧
        (∃ b1 : Addr, b_a = some b1 ∧ (0 ≤ i ∧ i < (b_l : Int)) ∧
        (∃ x1 : Int, w2.cell? (b1.add (i.toNat * 1)) = some (.int .i64 x1) ∧
        (bsplit (x != x1)
          (R (.bool false) w2)
          ((let i1 := (IntKind.wrap .i64 (i + (1 : Int)));
          ((I i1).2 w2 ∧ (I i1).1 < (I i).1))))))))))
        (R (.bool true) w1))))))
theorem F_ref01_SameInts_eq (a_a : Option Addr) (a_l : Nat) (a_c : Nat) (b_a : Option Addr) (b_l : Nat) (b_c : Nat) (w : World) (R : Value → World → Prop) : sxFn Try.prog TT h_ref01_SameInts Try.f19 #[(.slice a_a a_l a_c), (.slice b_a b_l b_c)] w R = F_ref01_SameInts a_a a_l a_c b_a b_l b_c w R := by kernel_rfl
theorem F_ref01_SameInts_ok {R : Ending → World → Prop} (a_a : Option Addr) (a_l : Nat) (a_c : Nat) (b_a : Option Addr) (b_l : Nat) (b_c : Nat) (w : World) (h : F_ref01_SameInts a_a a_l a_c b_a b_l b_c w fun v w' => R (.returned v) w') : Calls Try.prog N_ref01_SameInts #[(.slice a_a a_l a_c), (.slice b_a b_l b_c)] w R :=
  calls_of (f := 19) follows_ok Try.func19 (Eq.mpr (F_ref01_SameInts_eq a_a a_l a_c b_a b_l b_c w _) h)

def h_made_Light : H := (.seq .reg (.seq .reg .leaf))
def F_made_Light (t_a : Option Addr) (t_l : Nat) (t_c : Nat) (w : World) (R : Value → World → Prop) : Prop :=
  (let x := (decide ((t_l : Int) ≤ (400 : Int)));
  R (.bool x) w)
theorem F_made_Light_eq (t_a : Option Addr) (t_l : Nat) (t_c : Nat) (w : World) (R : Value → World → Prop) : sxFn Try.prog TT h_made_Light Try.f20 #[(.slice t_a t_l t_c)] w R = F_made_Light t_a t_l t_c w R := by kernel_rfl
theorem F_made_Light_ok {R : Ending → World → Prop} (t_a : Option Addr) (t_l : Nat) (t_c : Nat) (w : World) (h : F_made_Light t_a t_l t_c w fun v w' => R (.returned v) w') : Calls Try.prog N_made_Light #[(.slice t_a t_l t_c)] w R :=
  calls_of (f := 20) follows_ok Try.func20 (Eq.mpr (F_made_Light_eq t_a t_l t_c w _) h)

def h_made_Roll : H := (.seq .reg (.seq .reg .leaf))
def F_made_Roll (t_a : Option Addr) (t_l : Nat) (t_c : Nat) (w : World) (R : Value → World → Prop) : Prop :=
  (let w1 := w.alloc (.cells #[(.slice t_a t_l t_c), (.int .i64 (0 : Int))] Ty_radiolinkmade_Dice);
  R (.pointer (some (nb w))) w1)
theorem F_made_Roll_eq (t_a : Option Addr) (t_l : Nat) (t_c : Nat) (w : World) (R : Value → World → Prop) : sxFn Try.prog TT h_made_Roll Try.f21 #[(.slice t_a t_l t_c)] w R = F_made_Roll t_a t_l t_c w R := by kernel_rfl
theorem F_made_Roll_ok {R : Ending → World → Prop} (t_a : Option Addr) (t_l : Nat) (t_c : Nat) (w : World) (h : F_made_Roll t_a t_l t_c w fun v w' => R (.returned v) w') : Calls Try.prog N_made_Roll #[(.slice t_a t_l t_c)] w R :=
  calls_of (f := 21) follows_ok Try.func21 (Eq.mpr (F_made_Roll_eq t_a t_l t_c w _) h)

def h_made_Dice_Next : H := (.seq .reg (.seq (.seq (.draw false (.one 0 .stable (.one 1 .stable (.one 2 .stable (.one 3 .stable (.one 4 .stable (.one 5 .stable (.one 6 .stable (.one 7 .stable (.one 8 .stable (.one 9 .stable .nil))))))))))) (.cond (.seq .reg .leaf) .leaf)) (.seq .reg (.seq (.draw true (.one 0 .stable (.one 1 .stable (.one 2 .stable (.one 3 .stable (.one 4 .stable (.one 5 .stable (.one 6 .stable (.one 7 .stable (.one 8 .stable (.one 9 .stable (.one 10 .stable (.one 11 .stable (.one 12 .keep (.one 13 .stable .nil))))))))))))))) .leaf))))
def F_made_Dice_Next (d : Addr) (n : Int) (w : World) (R : Value → World → Prop) : Prop :=
  (let w1 := w.drew;
  (∃ x : Int, w1.cell? (d.add 1) = some (.int .i64 x) ∧
  (∃ x_a : Option Addr, ∃ x_l : Nat, ∃ x_c : Nat, w1.cell? d = some (.slice x_a x_l x_c) ∧
  (bsplit (decide (x ≥ (x_l : Int)))
    (R (.int .i64 (0 : Int)) w1)
    ((∃ x1 : Int, w1.cell? (d.add 1) = some (.int .i64 x1) ∧
    ((∃ u, w1.cell? (d.add 1) = some u) ∧ w1.frozen? (d.add 1) = false ∧
    (let w2 := w1.setCell (d.add 1) (.int .i64 (IntKind.wrap .i64 (x1 + (1 : Int))));
    (let w3 := w2.drew;
    (∃ S : Nat → Prop,
    (S d.block ∧
    (∃ x_a1 : Option Addr, ∃ x_l1 : Nat, ∃ x_c1 : Nat, w3.cell? d = some (.slice x_a1 x_l1 x_c1) ∧
    (S (d.add 1).block ∧
    (∃ x2 : Int, w3.cell? (d.add 1) = some (.int .i64 x2) ∧
    (∃ b : Addr, x_a1 = some b ∧ (0 ≤ (IntKind.wrap .i64 (x2 - (1 : Int))) ∧ (IntKind.wrap .i64 (x2 - (1 : Int))) < (x_l1 : Int)) ∧
    (S (b.add ((IntKind.wrap .i64 (x2 - (1 : Int))).toNat * 1)).block ∧
    (∃ x3 : Int, w3.cell? (b.add ((IntKind.wrap .i64 (x2 - (1 : Int))).toNat * 1)) = some (.int .i64 x3) ∧
    (Calls Try.prog N_made_Mod #[(.int .i64 x3), (.int .i64 n)] w3 fun e_ w4 =>
    ∃ r : Int, e_ = .returned (.int .i64 r) ∧
    (KeepsB S w3 w4 ∧ R (.int .i64 r) w4)))))))))))))))))))
theorem F_made_Dice_Next_eq (d : Addr) (n : Int) (w : World) (R : Value → World → Prop) : sxFn Try.prog TT h_made_Dice_Next Try.f22 #[(.pointer (some d)), (.int .i64 n)] w R = F_made_Dice_Next d n w R := by kernel_rfl
theorem F_made_Dice_Next_ok {R : Ending → World → Prop} (d : Addr) (n : Int) (w : World) (h : F_made_Dice_Next d n w fun v w' => R (.returned v) w') : Calls Try.prog N_made_Dice_Next #[(.pointer (some d)), (.int .i64 n)] w R :=
  calls_of (f := 22) follows_ok Try.func22 (Eq.mpr (F_made_Dice_Next_eq d n w _) h)

def h_bits_inside : H := (.seq .reg (.seq .reg .leaf))
def F_bits_inside (b_a : Option Addr) (b_l : Nat) (b_c : Nat) (at1 : Int) (n : Int) (w : World) (R : Value → World → Prop) : Prop :=
  (bsplit (decide (at1 ≤ (IntKind.wrap .i64 ((8 : Int) * (b_l : Int)))))
    ((let x := (decide (n ≤ (IntKind.wrap .i64 ((IntKind.wrap .i64 ((8 : Int) * (b_l : Int))) - at1))));
    R (.bool x) w))
    (R (.bool false) w))
theorem F_bits_inside_eq (b_a : Option Addr) (b_l : Nat) (b_c : Nat) (at1 : Int) (n : Int) (w : World) (R : Value → World → Prop) : sxFn Try.prog TT h_bits_inside Try.f23 #[(.slice b_a b_l b_c), (.int .i64 at1), (.int .i64 n)] w R = F_bits_inside b_a b_l b_c at1 n w R := by kernel_rfl
theorem F_bits_inside_ok {R : Ending → World → Prop} (b_a : Option Addr) (b_l : Nat) (b_c : Nat) (at1 : Int) (n : Int) (w : World) (h : F_bits_inside b_a b_l b_c at1 n w fun v w' => R (.returned v) w') : Calls Try.prog N_bits_inside #[(.slice b_a b_l b_c), (.int .i64 at1), (.int .i64 n)] w R :=
  calls_of (f := 23) follows_ok Try.func23 (Eq.mpr (F_bits_inside_eq b_a b_l b_c at1 n w _) h)

def h_bits_fits : H := (.seq .reg (.seq .reg .leaf))
def F_bits_fits (n : Int) (v : Int) (w : World) (R : Value → World → Prop) : Prop :=
  (bsplit (decide (n ≥ (0 : Int)))
    ((bsplit (decide (n ≤ (32 : Int)))
      ((bsplit (decide (v ≥ (0 : Int)))
        ((0 ≤ n ∧ (let x := (decide (v < (IntKind.wrap .i64 ((1 : Int) * 2 ^ (min n.toNat (IntKind.bits .i64))))));
        R (.bool x) w)))
        (R (.bool false) w)))
      (R (.bool false) w)))
    (R (.bool false) w))
theorem F_bits_fits_eq (n : Int) (v : Int) (w : World) (R : Value → World → Prop) : sxFn Try.prog TT h_bits_fits Try.f24 #[(.int .i64 n), (.int .i64 v)] w R = F_bits_fits n v w R := by kernel_rfl
theorem F_bits_fits_ok {R : Ending → World → Prop} (n : Int) (v : Int) (w : World) (h : F_bits_fits n v w fun v w' => R (.returned v) w') : Calls Try.prog N_bits_fits #[(.int .i64 n), (.int .i64 v)] w R :=
  calls_of (f := 24) follows_ok Try.func24 (Eq.mpr (F_bits_fits_eq n v w _) h)

def h_slices_Clone_Sbyte_byte : H := (.seq .reg (.seq (.seq .reg (.cond (.seq .reg .leaf) .leaf)) (.seq .reg .leaf)))
def F_slices_Clone_Sbyte_byte (s_a : Option Addr) (s_l : Nat) (s_c : Nat) (w : World) (R : Value → World → Prop) : Prop :=
  (bsplit s_a.isNone
    (R (.slice none 0 0) w)
    ((let w1 := w.alloc (.cells #[] Ty_uint8);
    (AppP Try.prog #[Ty_S_uint8, Ty_S_uint8] Ty_S_uint8 #[(.slice (some (nb w)) 0 0), (.slice s_a s_l s_c)] w1 fun x_a x_l x_c w2 =>
    R (.slice x_a x_l x_c) w2))))
theorem F_slices_Clone_Sbyte_byte_eq (s_a : Option Addr) (s_l : Nat) (s_c : Nat) (w : World) (R : Value → World → Prop) : sxFn Try.prog TT h_slices_Clone_Sbyte_byte Try.f25 #[(.slice s_a s_l s_c)] w R = F_slices_Clone_Sbyte_byte s_a s_l s_c w R := by kernel_rfl
theorem F_slices_Clone_Sbyte_byte_ok {R : Ending → World → Prop} (s_a : Option Addr) (s_l : Nat) (s_c : Nat) (w : World) (h : F_slices_Clone_Sbyte_byte s_a s_l s_c w fun v w' => R (.returned v) w') : Calls Try.prog N_slices_Clone_Sbyte_byte #[(.slice s_a s_l s_c)] w R :=
  calls_of (f := 25) follows_ok Try.func25 (Eq.mpr (F_slices_Clone_Sbyte_byte_eq s_a s_l s_c w _) h)

def h_bits_set : H := (.seq .reg (.block (.loop [(11, .p (.int .i64))] [8, 9, 11, 12, 13, 14, 15, 16, 17, 18, 19, 20, 21, 22, 23, 24, 25, 26, 27, 28, 29, 30, 31, 32, 33, 34, 35, 36, 37, 38, 39, 40, 41, 42, 43, 44, 45, 46, 47, 48] (.seq .reg (.seq (.cond .leaf .leaf) (.seq (.block (.seq .reg (.seq .reg (.seq .reg (.cond .reg .reg))))) .reg))))))
def F_bits_set (b_a : Option Addr) (b_l : Nat) (b_c : Nat) (at1 : Int) (n : Int) (v : Int) (w : World) (R : Value → World → Prop) : Prop :=
  (∃ I : Int → Nat × (World → Prop), (I (0 : Int)).2 w ∧
  (∀ (_junk : Env) (x : Int) (w1 : World), (I x).2 w1 →
    (bsplit (decide (x < n))
      ((0 ≤ (IntKind.wrap .i64 ((7 : Int) - (Int.tmod (IntKind.wrap .i64 (at1 + x)) (8 : Int)))) ∧ (let mask := (IntKind.wrap .u8 ((1 : Int) * 2 ^ (min (IntKind.wrap .i64 ((7 : Int) - (Int.tmod (IntKind.wrap .i64 (at1 + x)) (8 : Int)))).toNat (IntKind.bits .u8))));
      (0 ≤ (IntKind.wrap .i64 ((IntKind.wrap .i64 (n - (1 : Int))) - x)) ∧ (bsplit ((bAnd .i64 (Int.fdiv v (2 ^ (min (IntKind.wrap .i64 ((IntKind.wrap .i64 (n - (1 : Int))) - x)).toNat (IntKind.bits .i64)))) (1 : Int)) == (1 : Int))
        ((∃ b : Addr, b_a = some b ∧ (0 ≤ (IntKind.wrap .i64 (Int.tdiv (IntKind.wrap .i64 (at1 + x)) (8 : Int))) ∧ (IntKind.wrap .i64 (Int.tdiv (IntKind.wrap .i64 (at1 + x)) (8 : Int))) < (b_l : Int)) ∧
        (∃ x1 : Int, w1.cell? (b.add ((IntKind.wrap .i64 (Int.tdiv (IntKind.wrap .i64 (at1 + x)) (8 : Int))).toNat * 1)) = some (.int .u8 x1) ∧
        (∃ b1 : Addr, b_a = some b1 ∧ (0 ≤ (IntKind.wrap .i64 (Int.tdiv (IntKind.wrap .i64 (at1 + x)) (8 : Int))) ∧ (IntKind.wrap .i64 (Int.tdiv (IntKind.wrap .i64 (at1 + x)) (8 : Int))) < (b_l : Int)) ∧
        ((∃ u, w1.cell? (b1.add ((IntKind.wrap .i64 (Int.tdiv (IntKind.wrap .i64 (at1 + x)) (8 : Int))).toNat * 1)) = some u) ∧ w1.frozen? (b1.add ((IntKind.wrap .i64 (Int.tdiv (IntKind.wrap .i64 (at1 + x)) (8 : Int))).toNat * 1)) = false ∧
        (let w2 := w1.setCell (b1.add ((IntKind.wrap .i64 (Int.tdiv (IntKind.wrap .i64 (at1 + x)) (8 : Int))).toNat * 1)) (.int .u8 (bOr .u8 x1 mask));
        ((I (IntKind.wrap .i64 (x + (1 : Int)))).2 w2 ∧ (I (IntKind.wrap .i64 (x + (1 : Int)))).1 < (I x).1)))))))
        ((∃ b2 : Addr, b_a = some b2 ∧ (0 ≤ (IntKind.wrap .i64 (Int.tdiv (IntKind.wrap .i64 (at1 + x)) (8 : Int))) ∧ (IntKind.wrap .i64 (Int.tdiv (IntKind.wrap .i64 (at1 + x)) (8 : Int))) < (b_l : Int)) ∧
        (∃ x2 : Int, w1.cell? (b2.add ((IntKind.wrap .i64 (Int.tdiv (IntKind.wrap .i64 (at1 + x)) (8 : Int))).toNat * 1)) = some (.int .u8 x2) ∧
        (∃ b3 : Addr, b_a = some b3 ∧ (0 ≤ (IntKind.wrap .i64 (Int.tdiv (IntKind.wrap .i64 (at1 + x)) (8 : Int))) ∧ (IntKind.wrap .i64 (Int.tdiv (IntKind.wrap .i64 (at1 + x)) (8 : Int))) < (b_l : Int)) ∧
        ((∃ u, w1.cell? (b3.add ((IntKind.wrap .i64 (Int.tdiv (IntKind.wrap .i64 (at1 + x)) (8 : Int))).toNat * 1)) = some u) ∧ w1.frozen? (b3.add ((IntKind.wrap .i64 (Int.tdiv (IntKind.wrap .i64 (at1 + x)) (8 : Int))).toNat * 1)) = false ∧
        (let w3 := w1.setCell (b3.add ((IntKind.wrap .i64 (Int.tdiv (IntKind.wrap .i64 (at1 + x)) (8 : Int))).toNat * 1)) (.int .u8 (bAndNot .u8 x2 mask));
        ((I (IntKind.wrap .i64 (x + (1 : Int)))).2 w3 ∧ (I (IntKind.wrap .i64 (x + (1 : Int)))).1 < (I x).1))))))))))))
      (R (.tuple #[]) w1))))
theorem F_bits_set_eq (b_a : Option Addr) (b_l : Nat) (b_c : Nat) (at1 : Int) (n : Int) (v : Int) (w : World) (R : Value → World → Prop) : sxFn Try.prog TT h_bits_set Try.f26 #[(.slice b_a b_l b_c), (.int .i64 at1), (.int .i64 n), (.int .i64 v)] w R = F_bits_set b_a b_l b_c at1 n v w R := by kernel_rfl
theorem F_bits_set_ok {R : Ending → World → Prop} (b_a : Option Addr) (b_l : Nat) (b_c : Nat) (at1 : Int) (n : Int) (v : Int) (w : World) (h : F_bits_set b_a b_l b_c at1 n v w fun v w' => R (.returned v) w') : Calls Try.prog N_bits_set #[(.slice b_a b_l b_c), (.int .i64 at1), (.int .i64 n), (.int .i64 v)] w R :=
  calls_of (f := 26) follows_ok Try.func26 (Eq.mpr (F_bits_set_eq b_a b_l b_c at1 n v w _) h)

end Go.Proofs.Yteoogdpjidbapaa
