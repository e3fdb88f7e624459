import Derived.Test.YtblfbanfepocnaaDoorBase
import Derived.KernelRfl
namespace Go.Proofs.YtblfbanfepocnaaDoor
open Go.Sx Go.RowKit
set_option maxRecDepth 100000

def h_law13_StreamQuarter : H := (.seq .reg (.cut [(5, .p .addr), (6, .p .addr)] [5, 6, 9, 10, 11, 12] (.draw true (.one 0 .stable (.one 2 .stable (.alt 1 (.alt 3 (.alt 4 (.one 5 .keep (.one 6 .keep (.one 7 .last .nil))) (.alt 5 (.one 4 .keep (.one 6 .keep (.one 7 .last .nil))) .endAlt)) (.alt 4 (.alt 3 (.one 5 .keep (.one 6 .keep (.one 7 .last .nil))) (.alt 5 (.one 3 .keep (.one 6 .keep (.one 7 .last .nil))) .endAlt)) (.alt 5 (.alt 3 (.one 4 .keep (.one 6 .keep (.one 7 .last .nil))) (.alt 4 (.one 3 .keep (.one 6 .keep (.one 7 .last .nil))) .endAlt)) .endAlt))) (.alt 4 (.alt 1 (.alt 3 (.one 5 .keep (.one 6 .keep (.one 7 .last .nil))) (.alt 5 (.one 3 .keep (.one 6 .keep (.one 7 .last .nil))) .endAlt)) (.alt 5 (.one 1 .keep (.one 3 .keep (.one 6 .keep (.one 7 .last .nil)))) .endAlt)) (.alt 5 (.alt 1 (.alt 3 (.one 4 .keep (.one 6 .keep (.one 7 .last .nil))) (.alt 4 (.one 3 .keep (.one 6 .keep (.one 7 .last .nil))) .endAlt)) (.alt 4 (.one 1 .keep (.one 3 .keep (.one 6 .keep (.one 7 .last .nil)))) .endAlt)) .endAlt)))))) (.seq .reg (.seq (.seq .reg (.block (.loop [(7, .p .bool), (8, .p (.int .i64))] [4, 7, 8, 13, 14, 15, 16, 17, 18, 19, 20, 21, 22, 23, 24, 25, 26, 27, 28, 29, 30, 31, 32, 33, 34, 35, 36, 37, 38] (.seq (.seq .reg (.cond .leaf .leaf)) (.seq (.block (.cut [(7, .p .bool)] [7, 17, 18, 19, 20, 21, 22, 23, 24, 25, 26, 27, 28] (.draw true (.one 0 .stable (.one 1 .pre (.one 2 .stable (.one 3 .stable (.one 4 .stable (.one 6 .stable (.one 7 .stable (.one 8 .stable (.one 5 .keep (.one 9 .keep (.one 10 .stable (.one 11 .stable (.one 12 .stable .nil)))))))))))))) (.seq .reg (.cond (.seq .reg .leaf) .leaf)))) .reg))))) (.seq .reg (.seq (.draw true (.one 0 .keep (.one 1 .stable (.one 2 .stable (.one 3 .stable (.one 4 .stable (.one 5 .stable (.one 6 .stable (.one 7 .stable (.one 8 .stable (.one 9 .stable (.one 11 .stable (.one 10 .keep (.one 12 .stable (.one 13 .stable (.one 14 .stable .nil)))))))))))))))) .leaf))))))
def F_law13_StreamQuarter (x_0 : Int) (x_1 : Int) (x_2 : Int) (x_3 : Int) (y_0 : Int) (y_1 : Int) (y_2 : Int) (y_3 : Int) (w : World) (R : Value → World → Prop) : Prop :=
  (let w1 := w.alloc (.cells #[(.int .i64 x_0), (.int .i64 x_1), (.int .i64 x_2), (.int .i64 x_3)] Ty_4_int);
  (let w2 := w1.alloc (.cells #[(.int .i64 y_0), (.int .i64 y_1), (.int .i64 y_2), (.int .i64 y_3)] Ty_4_int);
  (∃ J : Addr → Addr → World → Prop,
  (∀ (_junk : Env) (a : Addr) (b : Addr) (w62 : World), J a b w62 →
    (∃ I : Bool → Int → Nat × (World → Prop), (I true (0 : Int)).2 w62 ∧
    (∀ (_junk : Env) (same : Bool) (i : Int) (w63 : World), (I same i).2 w63 →
      (bsplit (decide (i < (4 : Int)))
        ((∃ J1 : Bool → World → Prop,
        (∀ (_junk : Env) (same1 : Bool) (w67 : World), J1 same1 w67 →
          ((0 ≤ i ∧ i < (4 : Int)) ∧
          (∃ x2 : Int, w67.cell? (a.add (i.toNat * 1)) = some (.int .i64 x2) ∧
          (bsplit (decide (x2 < (0 : Int)))
            (R (.bool false) w67)
            (((0 ≤ i ∧ i < (4 : Int)) ∧
            (∃ x3 : Int, w67.cell? (a.add (i.toNat * 1)) = some (.int .i64 x3) ∧
            (bsplit (decide (x3 ≥ (4294967296 : Int)))
              (R (.bool false) w67)
              ((let i2 := (IntKind.wrap .i64 (i + (1 : Int)));
              ((I same1 i2).2 w67 ∧ (I same1 i2).1 < (I same i).1))))))))))) ∧
        (let w64 := w63.drew;
        (∃ S1 : Nat → Prop,
        (bsplit same
          (((0 ≤ i ∧ i < (4 : Int)) ∧
          (S1 ((nb w).add (i.toNat * 1)).block ∧
          (∃ x : Int, w64.cell? ((nb w).add (i.toNat * 1)) = some (.int .i64 x) ∧
          ((0 ≤ i ∧ i < (4 : Int)) ∧
          (S1 ((nb w1).add (i.toNat * 1)).block ∧
          (∃ x1 : Int, w64.cell? ((nb w1).add (i.toNat * 1)) = some (.int .i64 x1) ∧
          (Calls Tryd.prog N_made_Mod #[(.int .i64 x), (.int .i64 (4294967296 : Int))] w64 fun e_16 w65 =>
          ∃ r : Int, e_16 = .returned (.int .i64 r) ∧
          (KeepsB S1 w64 w65 ∧ (Calls Tryd.prog N_made_Mod #[(.int .i64 x1), (.int .i64 (4294967296 : Int))] w65 fun e_17 w66 =>
          ∃ r1 : Int, e_17 = .returned (.int .i64 r1) ∧
          (KeepsB S1 w64 w66 ∧ J1 (r == r1) w66)))))))))))
          (J1 false w64))))))
        ((∃ x4 : Int, w63.cell? (nb w) = some (.int .i64 x4) ∧
        ((∃ u, w63.cell? (nb w) = some u) ∧ w63.frozen? (nb w) = false ∧
        (let w68 := w63.setCell (nb w) (.int .i64 (IntKind.wrap .i64 (x4 + (4294967296 : Int))));
        (let w69 := w68.drew;
        (∃ S2 : Nat → Prop,
        (Calls Tryd.prog N_law13_awake #[] w69 fun e_18 w70 =>
        ∃ r2 : Bool, e_18 = .returned (.bool r2) ∧
        (KeepsB S2 w69 w70 ∧ (bsplit r2
          ((S2 a.block ∧
          (∃ x_03 : Int, ∃ x_13 : Int, ∃ x_23 : Int, ∃ x_33 : Int, cellsAt w69 a 0 [(.int .i64 x_03), (.int .i64 x_13), (.int .i64 x_23), (.int .i64 x_33)] ∧
          (S2 b.block ∧
          (∃ x_04 : Int, ∃ x_14 : Int, ∃ x_24 : Int, ∃ x_34 : Int, cellsAt w69 b 0 [(.int .i64 x_04), (.int .i64 x_14), (.int .i64 x_24), (.int .i64 x_34)] ∧
          (EqP Tryd.prog .eql Ty_4_int (.tmp 45) (.tmp 46) (.agg #[.int .i64 x_03, .int .i64 x_13, .int .i64 x_23, .int .i64 x_33]) (.agg #[.int .i64 x_04, .int .i64 x_14, .int .i64 x_24, .int .i64 x_34]) fun r3 =>
          (bsplit (r3 == same)
            ((S2 (nb w).block ∧
            (∃ x_05 : Int, ∃ x_15 : Int, ∃ x_25 : Int, ∃ x_35 : Int, cellsAt w69 (nb w) 0 [(.int .i64 x_05), (.int .i64 x_15), (.int .i64 x_25), (.int .i64 x_35)] ∧
            (S2 a.block ∧
            (∃ x_06 : Int, ∃ x_16 : Int, ∃ x_26 : Int, ∃ x_36 : Int, cellsAt w69 a 0 [(.int .i64 x_06), (.int .i64 x_16), (.int .i64 x_26), (.int .i64 x_36)] ∧
            (Calls Tryd.prog N_stream_Quarter #[(.agg #[.int .i64 x_05, .int .i64 x_15, .int .i64 x_25, .int .i64 x_35])] w70 fun e_19 w71 =>
            ∃ r_016 : Int, ∃ r_116 : Int, ∃ r_216 : Int, ∃ r_316 : Int, e_19 = .returned (.agg #[.int .i64 r_016, .int .i64 r_116, .int .i64 r_216, .int .i64 r_316]) ∧
            (KeepsB S2 w69 w71 ∧ (EqP Tryd.prog .eql Ty_4_int (.tmp 53) (.tmp 54) (.agg #[.int .i64 r_016, .int .i64 r_116, .int .i64 r_216, .int .i64 r_316]) (.agg #[.int .i64 x_06, .int .i64 x_16, .int .i64 x_26, .int .i64 x_36]) fun r4 =>
            R (.bool r4) w71))))))))
            (R (.bool false) w70))))))))
          (R (.bool false) w70)))))))))))))) ∧
  (let w3 := w2.drew;
  (∃ S : Nat → Prop,
  (S (nb w).block ∧
  (∃ x_01 : Int, ∃ x_11 : Int, ∃ x_21 : Int, ∃ x_31 : Int, cellsAt w3 (nb w) 0 [(.int .i64 x_01), (.int .i64 x_11), (.int .i64 x_21), (.int .i64 x_31)] ∧
  (S (nb w1).block ∧
  (∃ x_02 : Int, ∃ x_12 : Int, ∃ x_22 : Int, ∃ x_32 : Int, cellsAt w3 (nb w1) 0 [(.int .i64 x_02), (.int .i64 x_12), (.int .i64 x_22), (.int .i64 x_32)] ∧
  ((Calls Tryd.prog N_stream_Quarter #[(.agg #[.int .i64 x_01, .int .i64 x_11, .int .i64 x_21, .int .i64 x_31])] w3 fun e_10 w34 =>
  ∃ r_010 : Int, ∃ r_110 : Int, ∃ r_210 : Int, ∃ r_310 : Int, e_10 = .returned (.agg #[.int .i64 r_010, .int .i64 r_110, .int .i64 r_210, .int .i64 r_310]) ∧
  (KeepsB S w3 w34 ∧ ((Calls Tryd.prog N_stream_Quarter #[(.agg #[.int .i64 x_02, .int .i64 x_12, .int .i64 x_22, .int .i64 x_32])] w34 fun e_15 w53 =>
  ∃ r_015 : Int, ∃ r_115 : Int, ∃ r_215 : Int, ∃ r_315 : Int, e_15 = .returned (.agg #[.int .i64 r_015, .int .i64 r_115, .int .i64 r_215, .int .i64 r_315]) ∧
  (KeepsB S w3 w53 ∧ ((let w58 := w53.alloc (.cells #[.int .i64 (0 : Int), .int .i64 (0 : Int), .int .i64 (0 : Int), .int .i64 (0 : Int)] Ty_4_int);
  (KeepsB S w3 w58 ∧ (let w59 := w58.alloc (.cells #[.int .i64 (0 : Int), .int .i64 (0 : Int), .int .i64 (0 : Int), .int .i64 (0 : Int)] Ty_4_int);
  (KeepsB S w3 w59 ∧ (sxStore w59 (nb w53) 0 [(.int .i64 r_010), (.int .i64 r_110), (.int .i64 r_210), (.int .i64 r_310)] fun w60 =>
  (KeepsB S w3 w60 ∧ (sxStore w60 (nb w58) 0 [(.int .i64 r_015), (.int .i64 r_115), (.int .i64 r_215), (.int .i64 r_315)] fun w61 =>
  J (nb w53) (nb w58) w61))))))) ∧
  ((let w54 := w53.alloc (.cells #[.int .i64 (0 : Int), .int .i64 (0 : Int), .int .i64 (0 : Int), .int .i64 (0 : Int)] Ty_4_int);
  (KeepsB S w3 w54 ∧ (let w55 := w54.alloc (.cells #[.int .i64 (0 : Int), .int .i64 (0 : Int), .int .i64 (0 : Int), .int .i64 (0 : Int)] Ty_4_int);
  (KeepsB S w3 w55 ∧ (sxStore w55 (nb w54) 0 [(.int .i64 r_010), (.int .i64 r_110), (.int .i64 r_210), (.int .i64 r_310)] fun w56 =>
  (KeepsB S w3 w56 ∧ (sxStore w56 (nb w53) 0 [(.int .i64 r_015), (.int .i64 r_115), (.int .i64 r_215), (.int .i64 r_315)] fun w57 =>
  J (nb w54) (nb w53) w57))))))) ∧
  True)))) ∧
  ((let w44 := w34.alloc (.cells #[.int .i64 (0 : Int), .int .i64 (0 : Int), .int .i64 (0 : Int), .int .i64 (0 : Int)] Ty_4_int);
  (KeepsB S w3 w44 ∧ ((Calls Tryd.prog N_stream_Quarter #[(.agg #[.int .i64 x_02, .int .i64 x_12, .int .i64 x_22, .int .i64 x_32])] w44 fun e_14 w49 =>
  ∃ r_014 : Int, ∃ r_114 : Int, ∃ r_214 : Int, ∃ r_314 : Int, e_14 = .returned (.agg #[.int .i64 r_014, .int .i64 r_114, .int .i64 r_214, .int .i64 r_314]) ∧
  (KeepsB S w3 w49 ∧ (let w50 := w49.alloc (.cells #[.int .i64 (0 : Int), .int .i64 (0 : Int), .int .i64 (0 : Int), .int .i64 (0 : Int)] Ty_4_int);
  (KeepsB S w3 w50 ∧ (sxStore w50 (nb w34) 0 [(.int .i64 r_010), (.int .i64 r_110), (.int .i64 r_210), (.int .i64 r_310)] fun w51 =>
  (KeepsB S w3 w51 ∧ (sxStore w51 (nb w49) 0 [(.int .i64 r_014), (.int .i64 r_114), (.int .i64 r_214), (.int .i64 r_314)] fun w52 =>
  J (nb w34) (nb w49) w52))))))) ∧
  ((let w45 := w44.alloc (.cells #[.int .i64 (0 : Int), .int .i64 (0 : Int), .int .i64 (0 : Int), .int .i64 (0 : Int)] Ty_4_int);
  (KeepsB S w3 w45 ∧ (Calls Tryd.prog N_stream_Quarter #[(.agg #[.int .i64 x_02, .int .i64 x_12, .int .i64 x_22, .int .i64 x_32])] w45 fun e_13 w46 =>
  ∃ r_013 : Int, ∃ r_113 : Int, ∃ r_213 : Int, ∃ r_313 : Int, e_13 = .returned (.agg #[.int .i64 r_013, .int .i64 r_113, .int .i64 r_213, .int .i64 r_313]) ∧
  (KeepsB S w3 w46 ∧ (sxStore w46 (nb w34) 0 [(.int .i64 r_010), (.int .i64 r_110), (.int .i64 r_210), (.int .i64 r_310)] fun w47 =>
  (KeepsB S w3 w47 ∧ (sxStore w47 (nb w44) 0 [(.int .i64 r_013), (.int .i64 r_113), (.int .i64 r_213), (.int .i64 r_313)] fun w48 =>
  J (nb w34) (nb w44) w48))))))) ∧
  True)))) ∧
  ((let w35 := w34.alloc (.cells #[.int .i64 (0 : Int), .int .i64 (0 : Int), .int .i64 (0 : Int), .int .i64 (0 : Int)] Ty_4_int);
  (KeepsB S w3 w35 ∧ ((Calls Tryd.prog N_stream_Quarter #[(.agg #[.int .i64 x_02, .int .i64 x_12, .int .i64 x_22, .int .i64 x_32])] w35 fun e_12 w40 =>
  ∃ r_012 : Int, ∃ r_112 : Int, ∃ r_212 : Int, ∃ r_312 : Int, e_12 = .returned (.agg #[.int .i64 r_012, .int .i64 r_112, .int .i64 r_212, .int .i64 r_312]) ∧
  (KeepsB S w3 w40 ∧ (let w41 := w40.alloc (.cells #[.int .i64 (0 : Int), .int .i64 (0 : Int), .int .i64 (0 : Int), .int .i64 (0 : Int)] Ty_4_int);
  (KeepsB S w3 w41 ∧ (sxStore w41 (nb w40) 0 [(.int .i64 r_010), (.int .i64 r_110), (.int .i64 r_210), (.int .i64 r_310)] fun w42 =>
  (KeepsB S w3 w42 ∧ (sxStore w42 (nb w34) 0 [(.int .i64 r_012), (.int .i64 r_112), (.int .i64 r_212), (.int .i64 r_312)] fun w43 =>
  J (nb w40) (nb w34) w43))))))) ∧
  ((let w36 := w35.alloc (.cells #[.int .i64 (0 : Int), .int .i64 (0 : Int), .int .i64 (0 : Int), .int .i64 (0 : Int)] Ty_4_int);
  (KeepsB S w3 w36 ∧ (Calls Tryd.prog N_stream_Quarter #[(.agg #[.int .i64 x_02, .int .i64 x_12, .int .i64 x_22, .int .i64 x_32])] w36 fun e_11 w37 =>
  ∃ r_011 : Int, ∃ r_111 : Int, ∃ r_211 : Int, ∃ r_311 : Int, e_11 = .returned (.agg #[.int .i64 r_011, .int .i64 r_111, .int .i64 r_211, .int .i64 r_311]) ∧
  (KeepsB S w3 w37 ∧ (sxStore w37 (nb w35) 0 [(.int .i64 r_010), (.int .i64 r_110), (.int .i64 r_210), (.int .i64 r_310)] fun w38 =>
  (KeepsB S w3 w38 ∧ (sxStore w38 (nb w34) 0 [(.int .i64 r_011), (.int .i64 r_111), (.int .i64 r_211), (.int .i64 r_311)] fun w39 =>
  J (nb w35) (nb w34) w39))))))) ∧
  True)))) ∧
  True))))) ∧
  ((let w19 := w3.alloc (.cells #[.int .i64 (0 : Int), .int .i64 (0 : Int), .int .i64 (0 : Int), .int .i64 (0 : Int)] Ty_4_int);
  (KeepsB S w3 w19 ∧ ((Calls Tryd.prog N_stream_Quarter #[(.agg #[.int .i64 x_01, .int .i64 x_11, .int .i64 x_21, .int .i64 x_31])] w19 fun e_7 w25 =>
  ∃ r_07 : Int, ∃ r_17 : Int, ∃ r_27 : Int, ∃ r_37 : Int, e_7 = .returned (.agg #[.int .i64 r_07, .int .i64 r_17, .int .i64 r_27, .int .i64 r_37]) ∧
  (KeepsB S w3 w25 ∧ ((Calls Tryd.prog N_stream_Quarter #[(.agg #[.int .i64 x_02, .int .i64 x_12, .int .i64 x_22, .int .i64 x_32])] w25 fun e_9 w30 =>
  ∃ r_09 : Int, ∃ r_19 : Int, ∃ r_29 : Int, ∃ r_39 : Int, e_9 = .returned (.agg #[.int .i64 r_09, .int .i64 r_19, .int .i64 r_29, .int .i64 r_39]) ∧
  (KeepsB S w3 w30 ∧ (let w31 := w30.alloc (.cells #[.int .i64 (0 : Int), .int .i64 (0 : Int), .int .i64 (0 : Int), .int .i64 (0 : Int)] Ty_4_int);
  (KeepsB S w3 w31 ∧ (sxStore w31 (nb w3) 0 [(.int .i64 r_07), (.int .i64 r_17), (.int .i64 r_27), (.int .i64 r_37)] fun w32 =>
  (KeepsB S w3 w32 ∧ (sxStore w32 (nb w30) 0 [(.int .i64 r_09), (.int .i64 r_19), (.int .i64 r_29), (.int .i64 r_39)] fun w33 =>
  J (nb w3) (nb w30) w33))))))) ∧
  ((let w26 := w25.alloc (.cells #[.int .i64 (0 : Int), .int .i64 (0 : Int), .int .i64 (0 : Int), .int .i64 (0 : Int)] Ty_4_int);
  (KeepsB S w3 w26 ∧ (Calls Tryd.prog N_stream_Quarter #[(.agg #[.int .i64 x_02, .int .i64 x_12, .int .i64 x_22, .int .i64 x_32])] w26 fun e_8 w27 =>
  ∃ r_08 : Int, ∃ r_18 : Int, ∃ r_28 : Int, ∃ r_38 : Int, e_8 = .returned (.agg #[.int .i64 r_08, .int .i64 r_18, .int .i64 r_28, .int .i64 r_38]) ∧
  (KeepsB S w3 w27 ∧ (sxStore w27 (nb w3) 0 [(.int .i64 r_07), (.int .i64 r_17), (.int .i64 r_27), (.int .i64 r_37)] fun w28 =>
  (KeepsB S w3 w28 ∧ (sxStore w28 (nb w25) 0 [(.int .i64 r_08), (.int .i64 r_18), (.int .i64 r_28), (.int .i64 r_38)] fun w29 =>
  J (nb w3) (nb w25) w29))))))) ∧
  True)))) ∧
  ((let w20 := w19.alloc (.cells #[.int .i64 (0 : Int), .int .i64 (0 : Int), .int .i64 (0 : Int), .int .i64 (0 : Int)] Ty_4_int);
  (KeepsB S w3 w20 ∧ (Calls Tryd.prog N_stream_Quarter #[(.agg #[.int .i64 x_01, .int .i64 x_11, .int .i64 x_21, .int .i64 x_31])] w20 fun e_5 w21 =>
  ∃ r_05 : Int, ∃ r_15 : Int, ∃ r_25 : Int, ∃ r_35 : Int, e_5 = .returned (.agg #[.int .i64 r_05, .int .i64 r_15, .int .i64 r_25, .int .i64 r_35]) ∧
  (KeepsB S w3 w21 ∧ (Calls Tryd.prog N_stream_Quarter #[(.agg #[.int .i64 x_02, .int .i64 x_12, .int .i64 x_22, .int .i64 x_32])] w21 fun e_6 w22 =>
  ∃ r_06 : Int, ∃ r_16 : Int, ∃ r_26 : Int, ∃ r_36 : Int, e_6 = .returned (.agg #[.int .i64 r_06, .int .i64 r_16, .int .i64 r_26, .int .i64 r_36]) ∧
  (KeepsB S w3 w22 ∧ (sxStore w22 (nb w3) 0 [(.int .i64 r_05), (.int .i64 r_15), (.int .i64 r_25), (.int .i64 r_35)] fun w23 =>
  (KeepsB S w3 w23 ∧ (sxStore w23 (nb w19) 0 [(.int .i64 r_06), (.int .i64 r_16), (.int .i64 r_26), (.int .i64 r_36)] fun w24 =>
  J (nb w3) (nb w19) w24))))))))) ∧
  True)))) ∧
  ((let w4 := w3.alloc (.cells #[.int .i64 (0 : Int), .int .i64 (0 : Int), .int .i64 (0 : Int), .int .i64 (0 : Int)] Ty_4_int);
  (KeepsB S w3 w4 ∧ ((Calls Tryd.prog N_stream_Quarter #[(.agg #[.int .i64 x_01, .int .i64 x_11, .int .i64 x_21, .int .i64 x_31])] w4 fun e_2 w10 =>
  ∃ r_02 : Int, ∃ r_12 : Int, ∃ r_22 : Int, ∃ r_32 : Int, e_2 = .returned (.agg #[.int .i64 r_02, .int .i64 r_12, .int .i64 r_22, .int .i64 r_32]) ∧
  (KeepsB S w3 w10 ∧ ((Calls Tryd.prog N_stream_Quarter #[(.agg #[.int .i64 x_02, .int .i64 x_12, .int .i64 x_22, .int .i64 x_32])] w10 fun e_4 w15 =>
  ∃ r_04 : Int, ∃ r_14 : Int, ∃ r_24 : Int, ∃ r_34 : Int, e_4 = .returned (.agg #[.int .i64 r_04, .int .i64 r_14, .int .i64 r_24, .int .i64 r_34]) ∧
  (KeepsB S w3 w15 ∧ (let w16 := w15.alloc (.cells #[.int .i64 (0 : Int), .int .i64 (0 : Int), .int .i64 (0 : Int), .int .i64 (0 : Int)] Ty_4_int);
  (KeepsB S w3 w16 ∧ (sxStore w16 (nb w15) 0 [(.int .i64 r_02), (.int .i64 r_12), (.int .i64 r_22), (.int .i64 r_32)] fun w17 =>
  (KeepsB S w3 w17 ∧ (sxStore w17 (nb w3) 0 [(.int .i64 r_04), (.int .i64 r_14), (.int .i64 r_24), (.int .i64 r_34)] fun w18 =>
  J (nb w15) (nb w3) w18))))))) ∧
  ((let w11 := w10.alloc (.cells #[.int .i64 (0 : Int), .int .i64 (0 : Int), .int .i64 (0 : Int), .int .i64 (0 : Int)] Ty_4_int);
  (KeepsB S w3 w11 ∧ (Calls Tryd.prog N_stream_Quarter #[(.agg #[.int .i64 x_02, .int .i64 x_12, .int .i64 x_22, .int .i64 x_32])] w11 fun e_3 w12 =>
  ∃ r_03 : Int, ∃ r_13 : Int, ∃ r_23 : Int, ∃ r_33 : Int, e_3 = .returned (.agg #[.int .i64 r_03, .int .i64 r_13, .int .i64 r_23, .int .i64 r_33]) ∧
  (KeepsB S w3 w12 ∧ (sxStore w12 (nb w10) 0 [(.int .i64 r_02), (.int .i64 r_12), (.int .i64 r_22), (.int .i64 r_32)] fun w13 =>
  (KeepsB S w3 w13 ∧ (sxStore w13 (nb w3) 0 [(.int .i64 r_03), (.int .i64 r_13), (.int .i64 r_23), (.int .i64 r_33)] fun w14 =>
  J (nb w10) (nb w3) w14))))))) ∧
  True)))) ∧
  ((let w5 := w4.alloc (.cells #[.int .i64 (0 : Int), .int .i64 (0 : Int), .int .i64 (0 : Int), .int .i64 (0 : Int)] Ty_4_int);
  (KeepsB S w3 w5 ∧ (Calls Tryd.prog N_stream_Quarter #[(.agg #[.int .i64 x_01, .int .i64 x_11, .int .i64 x_21, .int .i64 x_31])] w5 fun e_ w6 =>
  ∃ r_0 : Int, ∃ r_1 : Int, ∃ r_2 : Int, ∃ r_3 : Int, e_ = .returned (.agg #[.int .i64 r_0, .int .i64 r_1, .int .i64 r_2, .int .i64 r_3]) ∧
  (KeepsB S w3 w6 ∧ (Calls Tryd.prog N_stream_Quarter #[(.agg #[.int .i64 x_02, .int .i64 x_12, .int .i64 x_22, .int .i64 x_32])] w6 fun e_1 w7 =>
  ∃ r_01 : Int, ∃ r_11 : Int, ∃ r_21 : Int, ∃ r_31 : Int, e_1 = .returned (.agg #[.int .i64 r_01, .int .i64 r_11, .int .i64 r_21, .int .i64 r_31]) ∧
  (KeepsB S w3 w7 ∧ (sxStore w7 (nb w4) 0 [(.int .i64 r_0), (.int .i64 r_1), (.int .i64 r_2), (.int .i64 r_3)] fun w8 =>
  (KeepsB S w3 w8 ∧ (sxStore w8 (nb w3) 0 [(.int .i64 r_01), (.int .i64 r_11), (.int .i64 r_21), (.int .i64 r_31)] fun w9 =>
  J (nb w4) (nb w3) w9))))))))) ∧
  True)))) ∧
  True))))))))))))
theorem F_law13_StreamQuarter_eq (x_0 : Int) (x_1 : Int) (x_2 : Int) (x_3 : Int) (y_0 : Int) (y_1 : Int) (y_2 : Int) (y_3 : Int) (w : World) (R : Value → World → Prop) : sxFn Tryd.prog TT h_law13_StreamQuarter Tryd.f3 #[(.agg #[.int .i64 x_0, .int .i64 x_1, .int .i64 x_2, .int .i64 x_3]), (.agg #[.int .i64 y_0, .int .i64 y_1, .int .i64 y_2, .int .i64 y_3])] w R = F_law13_StreamQuarter x_0 x_1 x_2 x_3 y_0 y_1 y_2 y_3 w R := by kernel_rfl
theorem F_law13_StreamQuarter_ok {R : Ending → World → Prop} (x_0 : Int) (x_1 : Int) (x_2 : Int) (x_3 : Int) (y_0 : Int) (y_1 : Int) (y_2 : Int) (y_3 : Int) (w : World) (h : F_law13_StreamQuarter x_0 x_1 x_2 x_3 y_0 y_1 y_2 y_3 w fun v w' => R (.returned v) w') : Calls Tryd.prog N_law13_StreamQuarter #[(.agg #[.int .i64 x_0, .int .i64 x_1, .int .i64 x_2, .int .i64 x_3]), (.agg #[.int .i64 y_0, .int .i64 y_1, .int .i64 y_2, .int .i64 y_3])] w R :=
  calls_of (f := 3) follows_ok Tryd.func3 (Eq.mpr (F_law13_StreamQuarter_eq x_0 x_1 x_2 x_3 y_0 y_1 y_2 y_3 w _) h)

def h_law13_StreamExact : H := (.seq .reg (.seq (.seq .reg (.cond (.seq .reg .leaf) .leaf)) (.seq (.draw true (.one 0 .stable (.one 1 .stable (.one 3 .stable (.one 4 .stable (.one 2 .keep (.one 5 .keep (.one 6 .stable (.one 7 .stable .nil))))))))) (.seq .reg (.seq .reg (.seq (.seq .reg (.block (.loop [(11, .p (.int .i64))] [6, 11, 12, 13, 14, 15, 16, 17, 18, 19, 20, 47, 48, 49, 50, 51, 52, 53, 54, 55, 56, 57, 58, 59, 60, 61, 62, 63, 64, 65, 66, 67, 68, 69, 70, 71, 72, 73, 74, 75, 76, 77, 78, 79, 80, 81, 82, 83, 84, 85, 86, 87, 88, 89, 90, 91, 92, 93, 94, 95, 96, 97, 98, 99, 100, 101, 102, 103, 104, 105, 106, 107, 108, 109, 110, 111, 112, 113] (.seq (.seq .reg (.cond .leaf .leaf)) (.seq (.block (.seq .reg (.cut [(12, .p (.int .i64))] [12, 53, 54, 55, 56, 57] (.seq .reg (.cond .reg .leaf)) (.seq .reg (.seq .reg (.seq .reg (.seq .reg (.seq .reg (.cond (.seq .reg .leaf) .leaf))))))))) .reg))))) (.seq .reg (.seq .reg (.seq (.draw true (.one 0 .keep (.one 1 .stable (.one 2 .stable (.one 3 .stable (.one 4 .stable (.one 5 .stable (.one 6 .stable (.one 7 .stable (.one 9 .stable (.one 8 .keep (.one 10 .keep (.one 11 .stable (.one 12 .stable (.one 13 .stable .nil))))))))))))))) .leaf)))))))))
def F_law13_StreamExact (key_a : Option Addr) (key_l : Nat) (key_c : Nat) (b_a : Option Addr) (b_l : Nat) (b_c : Nat) (n_0 : Int) (n_1 : Int) (n_2 : Int) (n_3 : Int) (n_4 : Int) (w : World) (R : Value → World → Prop) : Prop :=
  (let w1 := w.alloc (.cells #[(.int .i64 n_0), (.int .i64 n_1), (.int .i64 n_2), (.int .i64 n_3), (.int .i64 n_4)] Ty_5_int);
  (bsplit (decide ((b_l : Int) > (5000 : Int)))
    ((Calls Tryd.prog N_law13_awake #[] w1 fun e_ w2 =>
    ∃ r : Bool, e_ = .returned (.bool r) ∧
    R (.bool r) w2))
    ((let w3 := w1.drew;
    (∃ S : Nat → Prop,
    (S (nb w).block ∧
    (∃ x : Int, w3.cell? (nb w) = some (.int .i64 x) ∧
    (S ((nb w).add 1).block ∧
    (∃ x1 : Int, w3.cell? ((nb w).add 1) = some (.int .i64 x1) ∧
    (Calls Tryd.prog N_made_Filled #[(.int .i64 (32 : Int)), (.int .i64 x)] w3 fun e_1 w4 =>
    ∃ r_a : Option Addr, ∃ r_l : Nat, ∃ r_c : Nat, e_1 = .returned (.slice r_a r_l r_c) ∧
    (KeepsB S w3 w4 ∧ (Calls Tryd.prog N_made_Filled #[(.int .i64 (12 : Int)), (.int .i64 x1)] w4 fun e_2 w5 =>
    ∃ r_a1 : Option Addr, ∃ r_l1 : Nat, ∃ r_c1 : Nat, e_2 = .returned (.slice r_a1 r_l1 r_c1) ∧
    (KeepsB S w3 w5 ∧ (∃ x2 : Int, w5.cell? ((nb w).add 1) = some (.int .i64 x2) ∧
    (∃ x3 : Int, w5.cell? ((nb w).add 2) = some (.int .i64 x3) ∧
    (∃ x4 : Int, w5.cell? ((nb w).add 3) = some (.int .i64 x4) ∧
    (∃ x5 : Int, w5.cell? ((nb w).add 4) = some (.int .i64 x5) ∧
    (let w6 := w5.alloc (.cells #[.int .i64 (0 : Int), .int .i64 (0 : Int), .int .i64 (0 : Int), .int .i64 (0 : Int)] Ty_4_int);
    (sxStore w6 (nb w5) 0 [(.int .i64 x2), (.int .i64 x3), (.int .i64 x4), (.int .i64 x5)] fun w7 =>
    (let w8 := w7.alloc (.cells #[.slice none 0 0, .slice none 0 0] Ty_2_S_uint8);
    (sxStore w8 (nb w7) 0 [(.slice key_a key_l key_c), (.slice r_a r_l r_c)] fun w9 =>
    (∃ I : Int → Nat × (World → Prop), (I (0 : Int)).2 w9 ∧
    (∀ (_junk : Env) (i : Int) (w10 : World), (I i).2 w10 →
      (bsplit (decide (i < (2 : Int)))
        ((∃ x6 : Int, w10.cell? ((nb w).add 2) = some (.int .i64 x6) ∧
        (∃ J : Int → World → Prop,
        (∀ (_junk : Env) (c : Int) (w12 : World), J c w12 →
          ((0 ≤ i ∧ i < (2 : Int)) ∧
          (∃ x_a : Option Addr, ∃ x_l : Nat, ∃ x_c : Nat, w12.cell? ((nb w7).add (i.toNat * 1)) = some (.slice x_a x_l x_c) ∧
          (Calls Tryd.prog N_stream_Block #[(.slice x_a x_l x_c), (.int .i64 c), (.slice r_a1 r_l1 r_c1)] w12 fun e_4 w13 =>
          ∃ r_a2 : Option Addr, ∃ r_l2 : Nat, ∃ r_c2 : Nat, ∃ r2 : Int, e_4 = .returned (.tuple #[(.slice r_a2 r_l2 r_c2), (.int .i64 r2)]) ∧
          ((0 ≤ i ∧ i < (2 : Int)) ∧
          (∃ x_a1 : Option Addr, ∃ x_l1 : Nat, ∃ x_c1 : Nat, w13.cell? ((nb w7).add (i.toNat * 1)) = some (.slice x_a1 x_l1 x_c1) ∧
          (Calls Tryd.prog N_ref13_Block #[(.slice x_a1 x_l1 x_c1), (.int .i64 c), (.slice r_a1 r_l1 r_c1)] w13 fun e_5 w14 =>
          ∃ r_a3 : Option Addr, ∃ r_l3 : Nat, ∃ r_c3 : Nat, ∃ r3 : Int, e_5 = .returned (.tuple #[(.slice r_a3 r_l3 r_c3), (.int .i64 r3)]) ∧
          ((0 ≤ i ∧ i < (2 : Int)) ∧
          (∃ x_a2 : Option Addr, ∃ x_l2 : Nat, ∃ x_c2 : Nat, w14.cell? ((nb w7).add (i.toNat * 1)) = some (.slice x_a2 x_l2 x_c2) ∧
          (Calls Tryd.prog N_stream_Xor #[(.slice x_a2 x_l2 x_c2), (.slice r_a1 r_l1 r_c1), (.slice b_a b_l b_c)] w14 fun e_6 w15 =>
          ∃ r_a4 : Option Addr, ∃ r_l4 : Nat, ∃ r_c4 : Nat, ∃ r4 : Int, e_6 = .returned (.tuple #[(.slice r_a4 r_l4 r_c4), (.int .i64 r4)]) ∧
          ((0 ≤ i ∧ i < (2 : Int)) ∧
          (∃ x_a3 : Option Addr, ∃ x_l3 : Nat, ∃ x_c3 : Nat, w15.cell? ((nb w7).add (i.toNat * 1)) = some (.slice x_a3 x_l3 x_c3) ∧
          (Calls Tryd.prog N_ref13_Xor #[(.slice x_a3 x_l3 x_c3), (.slice r_a1 r_l1 r_c1), (.slice b_a b_l b_c)] w15 fun e_7 w16 =>
          ∃ r_a5 : Option Addr, ∃ r_l5 : Nat, ∃ r_c5 : Nat, ∃ r5 : Int, e_7 = .returned (.tuple #[(.slice r_a5 r_l5 r_c5), (.int .i64 r5)]) ∧
          (bsplit (r2 != r3)
            (R (.bool false) w16)
            ((Calls Tryd.prog N_ref01_Same #[(.slice r_a2 r_l2 r_c2), (.slice r_a3 r_l3 r_c3)] w16 fun e_8 w17 =>
            ∃ r6 : Bool, e_8 = .returned (.bool r6) ∧
            (bsplit (!r6)
              (R (.bool false) w17)
              ((bsplit (r4 != r5)
                (R (.bool false) w17)
                ((Calls Tryd.prog N_ref01_Same #[(.slice r_a4 r_l4 r_c4), (.slice r_a5 r_l5 r_c5)] w17 fun e_9 w18 =>
                ∃ r7 : Bool, e_9 = .returned (.bool r7) ∧
                (bsplit (!r7)
                  (R (.bool false) w18)
                  ((let i4 := (IntKind.wrap .i64 (i + (1 : Int)));
                  ((I i4).2 w18 ∧ (I i4).1 < (I i).1))))))))))))))))))))))))) ∧
        (bsplit (i == (1 : Int))
          ((∃ x7 : Int, w10.cell? ((nb w).add 2) = some (.int .i64 x7) ∧
          (Calls Tryd.prog N_made_Mod #[(.int .i64 x7), (.int .i64 (4294967296 : Int))] w10 fun e_3 w11 =>
          ∃ r1 : Int, e_3 = .returned (.int .i64 r1) ∧
          J r1 w11)))
          (J x6 w10)))))
        ((Calls Tryd.prog N_stream_Xor #[(.slice r_a r_l r_c), (.slice key_a key_l key_c), (.slice b_a b_l b_c)] w10 fun e_10 w19 =>
        ∃ r_a6 : Option Addr, ∃ r_l6 : Nat, ∃ r_c6 : Nat, ∃ r8 : Int, e_10 = .returned (.tuple #[(.slice r_a6 r_l6 r_c6), (.int .i64 r8)]) ∧
        (Calls Tryd.prog N_ref13_Xor #[(.slice r_a r_l r_c), (.slice key_a key_l key_c), (.slice b_a b_l b_c)] w19 fun e_11 w20 =>
        ∃ r_a7 : Option Addr, ∃ r_l7 : Nat, ∃ r_c7 : Nat, ∃ r9 : Int, e_11 = .returned (.tuple #[(.slice r_a7 r_l7 r_c7), (.int .i64 r9)]) ∧
        (let w21 := w20.drew;
        (∃ S1 : Nat → Prop,
        (Calls Tryd.prog N_law13_awake #[] w21 fun e_12 w22 =>
        ∃ r10 : Bool, e_12 = .returned (.bool r10) ∧
        (KeepsB S1 w21 w22 ∧ (bsplit r10
          ((bsplit (r8 == r9)
            ((S1 (nb w5).block ∧
            (∃ x_0 : Int, ∃ x_1 : Int, ∃ x_2 : Int, ∃ x_3 : Int, cellsAt w21 (nb w5) 0 [(.int .i64 x_0), (.int .i64 x_1), (.int .i64 x_2), (.int .i64 x_3)] ∧
            (S1 (nb w5).block ∧
            (∃ x_01 : Int, ∃ x_11 : Int, ∃ x_21 : Int, ∃ x_31 : Int, cellsAt w21 (nb w5) 0 [(.int .i64 x_01), (.int .i64 x_11), (.int .i64 x_21), (.int .i64 x_31)] ∧
            (Calls Tryd.prog N_stream_Quarter #[(.agg #[.int .i64 x_0, .int .i64 x_1, .int .i64 x_2, .int .i64 x_3])] w22 fun e_13 w23 =>
            ∃ r_0 : Int, ∃ r_1 : Int, ∃ r_2 : Int, ∃ r_3 : Int, e_13 = .returned (.agg #[.int .i64 r_0, .int .i64 r_1, .int .i64 r_2, .int .i64 r_3]) ∧
            (KeepsB S1 w21 w23 ∧ (Calls Tryd.prog N_ref13_Quarter #[(.agg #[.int .i64 x_01, .int .i64 x_11, .int .i64 x_21, .int .i64 x_31])] w23 fun e_14 w24 =>
            ∃ r_01 : Int, ∃ r_11 : Int, ∃ r_21 : Int, ∃ r_31 : Int, e_14 = .returned (.agg #[.int .i64 r_01, .int .i64 r_11, .int .i64 r_21, .int .i64 r_31]) ∧
            (KeepsB S1 w21 w24 ∧ (EqP Tryd.prog .eql Ty_4_int (.tmp 136) (.tmp 138) (.agg #[.int .i64 r_0, .int .i64 r_1, .int .i64 r_2, .int .i64 r_3]) (.agg #[.int .i64 r_01, .int .i64 r_11, .int .i64 r_21, .int .i64 r_31]) fun r11 =>
            R (.bool r11) w24))))))))))
            (R (.bool false) w22)))
          (R (.bool false) w22)))))))))))))))))))))))))))))))))
theorem F_law13_StreamExact_eq (key_a : Option Addr) (key_l : Nat) (key_c : Nat) (b_a : Option Addr) (b_l : Nat) (b_c : Nat) (n_0 : Int) (n_1 : Int) (n_2 : Int) (n_3 : Int) (n_4 : Int) (w : World) (R : Value → World → Prop) : sxFn Tryd.prog TT h_law13_StreamExact Tryd.f4 #[(.slice key_a key_l key_c), (.slice b_a b_l b_c), (.agg #[.int .i64 n_0, .int .i64 n_1, .int .i64 n_2, .int .i64 n_3, .int .i64 n_4])] w R = F_law13_StreamExact key_a key_l key_c b_a b_l b_c n_0 n_1 n_2 n_3 n_4 w R := by kernel_rfl
theorem F_law13_StreamExact_ok {R : Ending → World → Prop} (key_a : Option Addr) (key_l : Nat) (key_c : Nat) (b_a : Option Addr) (b_l : Nat) (b_c : Nat) (n_0 : Int) (n_1 : Int) (n_2 : Int) (n_3 : Int) (n_4 : Int) (w : World) (h : F_law13_StreamExact key_a key_l key_c b_a b_l b_c n_0 n_1 n_2 n_3 n_4 w fun v w' => R (.returned v) w') : Calls Tryd.prog N_law13_StreamExact #[(.slice key_a key_l key_c), (.slice b_a b_l b_c), (.agg #[.int .i64 n_0, .int .i64 n_1, .int .i64 n_2, .int .i64 n_3, .int .i64 n_4])] w R :=
  calls_of (f := 4) follows_ok Tryd.func4 (Eq.mpr (F_law13_StreamExact_eq key_a key_l key_c b_a b_l b_c n_0 n_1 n_2 n_3 n_4 w _) h)

def h_law13_StreamLimits : H := (.seq .reg (.seq .reg (.seq .reg (.seq .reg (.seq .reg (.seq .reg (.seq .reg (.seq .reg .leaf))))))))
def F_law13_StreamLimits (size : Int) (counter : Int) (w : World) (R : Value → World → Prop) : Prop :=
  (Calls Tryd.prog N_made_Filled #[(.int .i64 (32 : Int)), (.int .i64 size)] w fun e_ w1 =>
  ∃ r_a : Option Addr, ∃ r_l : Nat, ∃ r_c : Nat, e_ = .returned (.slice r_a r_l r_c) ∧
  (Calls Tryd.prog N_made_Filled #[(.int .i64 (12 : Int)), (.int .i64 counter)] w1 fun e_1 w2 =>
  ∃ r_a1 : Option Addr, ∃ r_l1 : Nat, ∃ r_c1 : Nat, e_1 = .returned (.slice r_a1 r_l1 r_c1) ∧
  (Calls Tryd.prog N_made_Mod #[(.int .i64 size), (.int .i64 (5 : Int))] w2 fun e_2 w3 =>
  ∃ r : Int, e_2 = .returned (.int .i64 r) ∧
  (let n := (IntKind.wrap .i64 ((4094 : Int) + r));
  (Calls Tryd.prog N_made_Mod #[(.int .i64 counter), (.int .i64 (4 : Int))] w3 fun e_3 w4 =>
  ∃ r1 : Int, e_3 = .returned (.int .i64 r1) ∧
  ((0 ≤ r1 ∧ r1 < (4 : Int)) ∧ ∃ x : Int, (#[(.int .i64 (-1 : Int)), (.int .i64 (0 : Int)), (.int .i64 (4294967295 : Int)), (.int .i64 (4294967296 : Int))] : Array Value)[r1.toNat * 1]? = some (.int .i64 x) ∧
  ((0 ≤ n ∧ n ≤ n ∧ (1 : Int) * n ≤ 281474976710656 ∧ n ≤ 9223372036854775807) ∧
  (let w5 := w4.alloc (.cells (madeCells #[(.int .u8 (0 : Int))] (n.toNat * 1)) Ty_uint8);
  (Calls Tryd.prog N_stream_Xor #[(.slice r_a r_l r_c), (.slice r_a1 r_l1 r_c1), (.slice (some (nb w4)) n.toNat n.toNat)] w5 fun e_4 w6 =>
  ∃ r_a2 : Option Addr, ∃ r_l2 : Nat, ∃ r_c2 : Nat, ∃ r2 : Int, e_4 = .returned (.tuple #[(.slice r_a2 r_l2 r_c2), (.int .i64 r2)]) ∧
  (Calls Tryd.prog N_stream_Block #[(.slice r_a r_l r_c), (.int .i64 x), (.slice r_a1 r_l1 r_c1)] w6 fun e_5 w7 =>
  ∃ r_a3 : Option Addr, ∃ r_l3 : Nat, ∃ r_c3 : Nat, ∃ r3 : Int, e_5 = .returned (.tuple #[(.slice r_a3 r_l3 r_c3), (.int .i64 r3)]) ∧
  (Calls Tryd.prog N_ref13_Block #[(.slice r_a r_l r_c), (.int .i64 x), (.slice r_a1 r_l1 r_c1)] w7 fun e_6 w8 =>
  ∃ r_a4 : Option Addr, ∃ r_l4 : Nat, ∃ r_c4 : Nat, ∃ r4 : Int, e_6 = .returned (.tuple #[(.slice r_a4 r_l4 r_c4), (.int .i64 r4)]) ∧
  (Calls Tryd.prog N_law13_awake #[] w8 fun e_7 w9 =>
  ∃ r5 : Bool, e_7 = .returned (.bool r5) ∧
  (bsplit r5
    ((bsplit ((r2 == (0 : Int)) == (decide (n ≤ (4096 : Int))))
      ((bsplit ((r2 == (0 : Int)) == ((r_l2 : Int) == n))
        ((bsplit (r3 == r4)
          ((Calls Tryd.prog N_ref01_Same #[(.slice r_a3 r_l3 r_c3), (.slice r_a4 r_l4 r_c4)] w9 fun e_8 w10 =>
          ∃ r6 : Bool, e_8 = .returned (.bool r6) ∧
          R (.bool r6) w10))
          (R (.bool false) w9)))
        (R (.bool false) w9)))
      (R (.bool false) w9)))
    (R (.bool false) w9))))))))))))))
theorem F_law13_StreamLimits_eq (size : Int) (counter : Int) (w : World) (R : Value → World → Prop) : sxFn Tryd.prog TT h_law13_StreamLimits Tryd.f5 #[(.int .i64 size), (.int .i64 counter)] w R = F_law13_StreamLimits size counter w R := by kernel_rfl
theorem F_law13_StreamLimits_ok {R : Ending → World → Prop} (size : Int) (counter : Int) (w : World) (h : F_law13_StreamLimits size counter w fun v w' => R (.returned v) w') : Calls Tryd.prog N_law13_StreamLimits #[(.int .i64 size), (.int .i64 counter)] w R :=
  calls_of (f := 5) follows_ok Tryd.func5 (Eq.mpr (F_law13_StreamLimits_eq size counter w _) h)

def h_law13_StreamTwice : H := (.seq .reg (.seq (.seq .reg (.cond (.seq .reg .leaf) .leaf)) (.seq (.draw true (.one 0 .stable (.one 1 .stable (.one 3 .stable (.one 4 .stable (.one 2 .keep (.one 5 .keep (.one 6 .stable (.one 7 .stable .nil))))))))) (.seq .reg (.seq .reg (.seq .reg (.seq .reg (.seq .reg .leaf))))))))
def F_law13_StreamTwice (b_a : Option Addr) (b_l : Nat) (b_c : Nat) (n_0 : Int) (n_1 : Int) (n_2 : Int) (w : World) (R : Value → World → Prop) : Prop :=
  (let w1 := w.alloc (.cells #[(.int .i64 n_0), (.int .i64 n_1), (.int .i64 n_2)] Ty_3_int);
  (bsplit (decide ((b_l : Int) > (3000 : Int)))
    ((Calls Tryd.prog N_law13_awake #[] w1 fun e_ w2 =>
    ∃ r : Bool, e_ = .returned (.bool r) ∧
    R (.bool r) w2))
    ((let w3 := w1.drew;
    (∃ S : Nat → Prop,
    (S (nb w).block ∧
    (∃ x : Int, w3.cell? (nb w) = some (.int .i64 x) ∧
    (S ((nb w).add 1).block ∧
    (∃ x1 : Int, w3.cell? ((nb w).add 1) = some (.int .i64 x1) ∧
    (Calls Tryd.prog N_made_Filled #[(.int .i64 (32 : Int)), (.int .i64 x)] w3 fun e_1 w4 =>
    ∃ r_a : Option Addr, ∃ r_l : Nat, ∃ r_c : Nat, e_1 = .returned (.slice r_a r_l r_c) ∧
    (KeepsB S w3 w4 ∧ (Calls Tryd.prog N_made_Filled #[(.int .i64 (12 : Int)), (.int .i64 x1)] w4 fun e_2 w5 =>
    ∃ r_a1 : Option Addr, ∃ r_l1 : Nat, ∃ r_c1 : Nat, e_2 = .returned (.slice r_a1 r_l1 r_c1) ∧
    (KeepsB S w3 w5 ∧ (Calls Tryd.prog N_stream_Xor #[(.slice r_a r_l r_c), (.slice r_a1 r_l1 r_c1), (.slice b_a b_l b_c)] w5 fun e_3 w6 =>
    ∃ r_a2 : Option Addr, ∃ r_l2 : Nat, ∃ r_c2 : Nat, ∃ r1 : Int, e_3 = .returned (.tuple #[(.slice r_a2 r_l2 r_c2), (.int .i64 r1)]) ∧
    (Calls Tryd.prog N_stream_Xor #[(.slice r_a r_l r_c), (.slice r_a1 r_l1 r_c1), (.slice r_a2 r_l2 r_c2)] w6 fun e_4 w7 =>
    ∃ r_a3 : Option Addr, ∃ r_l3 : Nat, ∃ r_c3 : Nat, ∃ r2 : Int, e_4 = .returned (.tuple #[(.slice r_a3 r_l3 r_c3), (.int .i64 r2)]) ∧
    (∃ x2 : Int, w7.cell? ((nb w).add 2) = some (.int .i64 x2) ∧
    (Calls Tryd.prog N_made_Mod #[(.int .i64 x2), (.int .i64 (IntKind.wrap .i64 ((b_l : Int) + (1 : Int))))] w7 fun e_5 w8 =>
    ∃ r3 : Int, e_5 = .returned (.int .i64 r3) ∧
    ((0 ≤ r3 ∧ r3 ≤ ((b_c : Nat) : Int)) ∧ (Calls Tryd.prog N_stream_Xor #[(.slice r_a r_l r_c), (.slice r_a1 r_l1 r_c1), (.slice (slAddr b_c 0 1 b_a) (r3.toNat - 0) (b_c - 0))] w8 fun e_6 w9 =>
    ∃ r_a4 : Option Addr, ∃ r_l4 : Nat, ∃ r_c4 : Nat, ∃ r4 : Int, e_6 = .returned (.tuple #[(.slice r_a4 r_l4 r_c4), (.int .i64 r4)]) ∧
    (Calls Tryd.prog N_law13_awake #[] w9 fun e_7 w10 =>
    ∃ r5 : Bool, e_7 = .returned (.bool r5) ∧
    (bsplit r5
      ((bsplit (r1 == (0 : Int))
        ((bsplit (r2 == (0 : Int))
          ((bsplit (r4 == (0 : Int))
            ((Calls Tryd.prog N_ref01_Same #[(.slice r_a3 r_l3 r_c3), (.slice b_a b_l b_c)] w10 fun e_8 w11 =>
            ∃ r6 : Bool, e_8 = .returned (.bool r6) ∧
            (bsplit r6
              ((bsplit ((r_l2 : Int) == (b_l : Int))
                (((0 ≤ r3 ∧ r3 ≤ ((r_c2 : Nat) : Int)) ∧ (Calls Tryd.prog N_ref01_Same #[(.slice r_a4 r_l4 r_c4), (.slice (slAddr r_c2 0 1 r_a2) (r3.toNat - 0) (r_c2 - 0))] w11 fun e_9 w12 =>
                ∃ r7 : Bool, e_9 = .returned (.bool r7) ∧
                R (.bool r7) w12)))
                (R (.bool false) w11)))
              (R (.bool false) w11))))
            (R (.bool false) w10)))
          (R (.bool false) w10)))
        (R (.bool false) w10)))
      (R (.bool false) w10))))))))))))))))))))))
theorem F_law13_StreamTwice_eq (b_a : Option Addr) (b_l : Nat) (b_c : Nat) (n_0 : Int) (n_1 : Int) (n_2 : Int) (w : World) (R : Value → World → Prop) : sxFn Tryd.prog TT h_law13_StreamTwice Tryd.f6 #[(.slice b_a b_l b_c), (.agg #[.int .i64 n_0, .int .i64 n_1, .int .i64 n_2])] w R = F_law13_StreamTwice b_a b_l b_c n_0 n_1 n_2 w R := by kernel_rfl
theorem F_law13_StreamTwice_ok {R : Ending → World → Prop} (b_a : Option Addr) (b_l : Nat) (b_c : Nat) (n_0 : Int) (n_1 : Int) (n_2 : Int) (w : World) (h : F_law13_StreamTwice b_a b_l b_c n_0 n_1 n_2 w fun v w' => R (.returned v) w') : Calls Tryd.prog N_law13_StreamTwice #[(.slice b_a b_l b_c), (.agg #[.int .i64 n_0, .int .i64 n_1, .int .i64 n_2])] w R :=
  calls_of (f := 6) follows_ok Tryd.func6 (Eq.mpr (F_law13_StreamTwice_eq b_a b_l b_c n_0 n_1 n_2 w _) h)

def h_law13_StreamBlocks : H := (.seq .reg (.seq (.draw true (.one 0 .stable (.one 1 .stable (.one 3 .stable (.one 4 .stable (.one 2 .keep (.one 5 .keep (.one 6 .stable (.one 7 .stable .nil))))))))) (.seq .reg (.seq .reg (.seq .reg (.seq .reg .leaf))))))
def F_law13_StreamBlocks (n_0 : Int) (n_1 : Int) (n_2 : Int) (w : World) (R : Value → World → Prop) : Prop :=
  (let w1 := w.alloc (.cells #[(.int .i64 n_0), (.int .i64 n_1), (.int .i64 n_2)] Ty_3_int);
  (let w2 := w1.drew;
  (∃ S : Nat → Prop,
  (S (nb w).block ∧
  (∃ x : Int, w2.cell? (nb w) = some (.int .i64 x) ∧
  (S ((nb w).add 1).block ∧
  (∃ x1 : Int, w2.cell? ((nb w).add 1) = some (.int .i64 x1) ∧
  (Calls Tryd.prog N_made_Filled #[(.int .i64 (32 : Int)), (.int .i64 x)] w2 fun e_ w3 =>
  ∃ r_a : Option Addr, ∃ r_l : Nat, ∃ r_c : Nat, e_ = .returned (.slice r_a r_l r_c) ∧
  (KeepsB S w2 w3 ∧ (Calls Tryd.prog N_made_Filled #[(.int .i64 (12 : Int)), (.int .i64 x1)] w3 fun e_1 w4 =>
  ∃ r_a1 : Option Addr, ∃ r_l1 : Nat, ∃ r_c1 : Nat, e_1 = .returned (.slice r_a1 r_l1 r_c1) ∧
  (KeepsB S w2 w4 ∧ ((0 ≤ (256 : Int) ∧ (256 : Int) ≤ (256 : Int) ∧ (1 : Int) * (256 : Int) ≤ 281474976710656 ∧ (256 : Int) ≤ 9223372036854775807) ∧
  (let w5 := w4.alloc (.cells (madeCells #[(.int .u8 (0 : Int))] ((256 : Int).toNat * 1)) Ty_uint8);
  (Calls Tryd.prog N_stream_Xor #[(.slice r_a r_l r_c), (.slice r_a1 r_l1 r_c1), (.slice (some (nb w4)) (256 : Int).toNat (256 : Int).toNat)] w5 fun e_2 w6 =>
  ∃ r_a2 : Option Addr, ∃ r_l2 : Nat, ∃ r_c2 : Nat, ∃ r : Int, e_2 = .returned (.tuple #[(.slice r_a2 r_l2 r_c2), (.int .i64 r)]) ∧
  (∃ x2 : Int, w6.cell? ((nb w).add 2) = some (.int .i64 x2) ∧
  (Calls Tryd.prog N_made_Mod #[(.int .i64 x2), (.int .i64 (4 : Int))] w6 fun e_3 w7 =>
  ∃ r1 : Int, e_3 = .returned (.int .i64 r1) ∧
  (Calls Tryd.prog N_stream_Block #[(.slice r_a r_l r_c), (.int .i64 r1), (.slice r_a1 r_l1 r_c1)] w7 fun e_4 w8 =>
  ∃ r_a3 : Option Addr, ∃ r_l3 : Nat, ∃ r_c3 : Nat, ∃ r2 : Int, e_4 = .returned (.tuple #[(.slice r_a3 r_l3 r_c3), (.int .i64 r2)]) ∧
  (Calls Tryd.prog N_law13_awake #[] w8 fun e_5 w9 =>
  ∃ r3 : Bool, e_5 = .returned (.bool r3) ∧
  (bsplit r3
    ((bsplit (r == (0 : Int))
      ((bsplit (r2 == (0 : Int))
        ((bsplit ((r_l2 : Int) == (256 : Int))
          (((0 ≤ (IntKind.wrap .i64 ((IntKind.wrap .i64 ((64 : Int) * r1)) + (64 : Int))) ∧ (IntKind.wrap .i64 ((IntKind.wrap .i64 ((64 : Int) * r1)) + (64 : Int))) ≤ ((r_c2 : Nat) : Int)) ∧ ((0 ≤ (IntKind.wrap .i64 ((64 : Int) * r1)) ∧ (IntKind.wrap .i64 ((64 : Int) * r1)) ≤ (((IntKind.wrap .i64 ((IntKind.wrap .i64 ((64 : Int) * r1)) + (64 : Int))).toNat : Nat) : Int)) ∧ (Calls Tryd.prog N_ref01_Same #[(.slice (slAddr r_c2 ((IntKind.wrap .i64 ((64 : Int) * r1)).toNat) 1 r_a2) ((IntKind.wrap .i64 ((IntKind.wrap .i64 ((64 : Int) * r1)) + (64 : Int))).toNat - (IntKind.wrap .i64 ((64 : Int) * r1)).toNat) (r_c2 - (IntKind.wrap .i64 ((64 : Int) * r1)).toNat)), (.slice r_a3 r_l3 r_c3)] w9 fun e_6 w10 =>
          ∃ r4 : Bool, e_6 = .returned (.bool r4) ∧
          R (.bool r4) w10))))
          (R (.bool false) w9)))
        (R (.bool false) w9)))
      (R (.bool false) w9)))
    (R (.bool false) w9))))))))))))))))))))
theorem F_law13_StreamBlocks_eq (n_0 : Int) (n_1 : Int) (n_2 : Int) (w : World) (R : Value → World → Prop) : sxFn Tryd.prog TT h_law13_StreamBlocks Tryd.f7 #[(.agg #[.int .i64 n_0, .int .i64 n_1, .int .i64 n_2])] w R = F_law13_StreamBlocks n_0 n_1 n_2 w R := by kernel_rfl
theorem F_law13_StreamBlocks_ok {R : Ending → World → Prop} (n_0 : Int) (n_1 : Int) (n_2 : Int) (w : World) (h : F_law13_StreamBlocks n_0 n_1 n_2 w fun v w' => R (.returned v) w') : Calls Tryd.prog N_law13_StreamBlocks #[(.agg #[.int .i64 n_0, .int .i64 n_1, .int .i64 n_2])] w R :=
  calls_of (f := 7) follows_ok Tryd.func7 (Eq.mpr (F_law13_StreamBlocks_eq n_0 n_1 n_2 w _) h)

def h_stream_Quarter : H := (.seq .reg (.seq .reg (.seq .reg .leaf)))
def F_stream_Quarter (x_0 : Int) (x_1 : Int) (x_2 : Int) (x_3 : Int) (w : World) (R : Value → World → Prop) : Prop :=
  (let w1 := w.alloc (.cells #[(.int .i64 x_0), (.int .i64 x_1), (.int .i64 x_2), (.int .i64 x_3)] Ty_4_int);
  (let w2 := w1.alloc (.cells #[.int .i64 (0 : Int), .int .i64 (0 : Int), .int .i64 (0 : Int), .int .i64 (0 : Int)] Ty_4_int);
  (∃ x : Int, w2.cell? (nb w) = some (.int .i64 x) ∧
  (∃ x1 : Int, w2.cell? ((nb w).add 1) = some (.int .i64 x1) ∧
  (∃ x2 : Int, w2.cell? ((nb w).add 2) = some (.int .i64 x2) ∧
  (∃ x3 : Int, w2.cell? ((nb w).add 3) = some (.int .i64 x3) ∧
  (Calls Tryd.prog N_stream_quarter #[(.int .u32 (IntKind.wrap .u32 x)), (.int .u32 (IntKind.wrap .u32 x1)), (.int .u32 (IntKind.wrap .u32 x2)), (.int .u32 (IntKind.wrap .u32 x3))] w2 fun e_ w3 =>
  ∃ r : Int, ∃ r1 : Int, ∃ r2 : Int, ∃ r3 : Int, e_ = .returned (.tuple #[(.int .u32 r), (.int .u32 r1), (.int .u32 r2), (.int .u32 r3)]) ∧
  (sxStore w3 (nb w1) 0 [(.int .i64 (IntKind.wrap .i64 r)), (.int .i64 (IntKind.wrap .i64 r1)), (.int .i64 (IntKind.wrap .i64 r2)), (.int .i64 (IntKind.wrap .i64 r3))] fun w4 =>
  (∃ r_0 : Int, ∃ r_1 : Int, ∃ r_2 : Int, ∃ r_3 : Int, cellsAt w4 (nb w1) 0 [(.int .i64 r_0), (.int .i64 r_1), (.int .i64 r_2), (.int .i64 r_3)] ∧
  R (.agg #[.int .i64 r_0, .int .i64 r_1, .int .i64 r_2, .int .i64 r_3]) w4)))))))))
theorem F_stream_Quarter_eq (x_0 : Int) (x_1 : Int) (x_2 : Int) (x_3 : Int) (w : World) (R : Value → World → Prop) : sxFn Tryd.prog TT h_stream_Quarter Tryd.f8 #[(.agg #[.int .i64 x_0, .int .i64 x_1, .int .i64 x_2, .int .i64 x_3])] w R = F_stream_Quarter x_0 x_1 x_2 x_3 w R := by kernel_rfl
theorem F_stream_Quarter_ok {R : Ending → World → Prop} (x_0 : Int) (x_1 : Int) (x_2 : Int) (x_3 : Int) (w : World) (h : F_stream_Quarter x_0 x_1 x_2 x_3 w fun v w' => R (.returned v) w') : Calls Tryd.prog N_stream_Quarter #[(.agg #[.int .i64 x_0, .int .i64 x_1, .int .i64 x_2, .int .i64 x_3])] w R :=
  calls_of (f := 8) follows_ok Tryd.func8 (Eq.mpr (F_stream_Quarter_eq x_0 x_1 x_2 x_3 w _) h)

def h_made_Mod : H := (.seq .reg (.seq (.seq .reg (.cond (.seq .reg .leaf) .leaf)) (.seq .reg (.seq (.seq .reg (.cond .reg .leaf)) (.seq .reg .leaf)))))
def F_made_Mod (n : Int) (m : Int) (w : World) (R : Value → World → Prop) : Prop :=
  (bsplit (decide (m < (1 : Int)))
    (R (.int .i64 (0 : Int)) w)
    ((m ≠ 0 ∧ (bsplit (decide ((Int.tmod n m) < (0 : Int)))
      ((let n1 := (IntKind.wrap .i64 ((Int.tmod n m) + m));
      R (.int .i64 n1) w))
      (R (.int .i64 (Int.tmod n m)) w)))))
theorem F_made_Mod_eq (n : Int) (m : Int) (w : World) (R : Value → World → Prop) : sxFn Tryd.prog TT h_made_Mod Tryd.f9 #[(.int .i64 n), (.int .i64 m)] w R = F_made_Mod n m w R := by kernel_rfl
theorem F_made_Mod_ok {R : Ending → World → Prop} (n : Int) (m : Int) (w : World) (h : F_made_Mod n m w fun v w' => R (.returned v) w') : Calls Tryd.prog N_made_Mod #[(.int .i64 n), (.int .i64 m)] w R :=
  calls_of (f := 9) follows_ok Tryd.func9 (Eq.mpr (F_made_Mod_eq n m w _) h)

def h_law13_awake : H := (.seq .reg (.cut [(1, .p .slice), (2, .p (.int .i64))] [1, 2, 4, 5, 6, 7, 8, 9] (.draw true (.alt 0 (.one 1 .keep (.one 2 .keep (.one 3 .stable (.one 4 .stable (.one 5 .stable (.one 6 .stable (.one 7 .stable .nil))))))) (.alt 1 (.one 0 .keep (.one 2 .keep (.one 3 .stable (.one 4 .stable (.one 5 .stable (.one 6 .stable (.one 7 .stable .nil))))))) .endAlt))) (.seq .reg (.seq (.draw true (.one 0 .stable (.one 1 .stable (.one 2 .stable (.one 3 .stable (.one 4 .stable (.one 5 .stable (.one 6 .stable (.one 7 .pre (.one 8 .stable (.one 9 .pre (.one 10 .stable (.one 11 .pre (.one 12 .keep (.one 13 .stable (.one 14 .stable (.one 15 .stable (.one 16 .stable (.one 17 .stable (.one 18 .stable (.one 19 .stable (.one 20 .stable .nil)))))))))))))))))))))) .leaf))))
def F_law13_awake  (w : World) (R : Value → World → Prop) : Prop :=
  (∃ J : Option Addr → Nat → Nat → Int → World → Prop,
  (∀ (_junk : Env) (b_a : Option Addr) (b_l : Nat) (b_c : Nat) (e1 : Int) (w8 : World), J b_a b_l b_c e1 w8 →
    (Calls Tryd.prog N_stream_Quarter #[(.agg #[.int .i64 (1 : Int), .int .i64 (0 : Int), .int .i64 (0 : Int), .int .i64 (0 : Int)])] w8 fun e_2 w9 =>
    ∃ r_0 : Int, ∃ r_1 : Int, ∃ r_2 : Int, ∃ r_3 : Int, e_2 = .returned (.agg #[.int .i64 r_0, .int .i64 r_1, .int .i64 r_2, .int .i64 r_3]) ∧
    (let w10 := w9.alloc (.cells #[.int .i64 (0 : Int), .int .i64 (0 : Int), .int .i64 (0 : Int), .int .i64 (0 : Int)] Ty_4_int);
    (sxStore w10 (nb w9) 0 [(.int .i64 r_0), (.int .i64 r_1), (.int .i64 r_2), (.int .i64 r_3)] fun w11 =>
    (let w12 := w11.drew;
    (∃ S1 : Nat → Prop,
    (bsplit (e1 == (0 : Int))
      ((bsplit ((b_l : Int) == (64 : Int))
        (((0 ≤ (32 : Int) ∧ (32 : Int) ≤ ((b_c : Nat) : Int)) ∧ ((0 ≤ (32 : Int) ∧ (32 : Int) ≤ ((b_l : Nat) : Int)) ∧ (Calls Tryd.prog N_ref01_Same #[(.slice (slAddr b_c 0 1 b_a) ((32 : Int).toNat - 0) (b_c - 0)), (.slice (slAddr b_c ((32 : Int).toNat) 1 b_a) (b_l - (32 : Int).toNat) (b_c - (32 : Int).toNat))] w12 fun e_3 w13 =>
        ∃ r2 : Bool, e_3 = .returned (.bool r2) ∧
        (KeepsB S1 w12 w13 ∧ (bsplit (!r2)
          ((S1 (nb w9).block ∧
          (∃ x : Int, w12.cell? (nb w9) = some (.int .i64 x) ∧
          (let x1 := (x == (268435457 : Int));
          R (.bool x1) w13))))
          (R (.bool false) w13)))))))
        (R (.bool false) w12)))
      (R (.bool false) w12)))))))) ∧
  (let w1 := w.drew;
  (∃ S : Nat → Prop,
  (((0 ≤ (32 : Int) ∧ (32 : Int) ≤ (32 : Int) ∧ (1 : Int) * (32 : Int) ≤ 281474976710656 ∧ (32 : Int) ≤ 9223372036854775807) ∧
  (let w5 := w1.alloc (.cells (madeCells #[(.int .u8 (0 : Int))] ((32 : Int).toNat * 1)) Ty_uint8);
  (KeepsB S w1 w5 ∧ ((0 ≤ (12 : Int) ∧ (12 : Int) ≤ (12 : Int) ∧ (1 : Int) * (12 : Int) ≤ 281474976710656 ∧ (12 : Int) ≤ 9223372036854775807) ∧
  (let w6 := w5.alloc (.cells (madeCells #[(.int .u8 (0 : Int))] ((12 : Int).toNat * 1)) Ty_uint8);
  (KeepsB S w1 w6 ∧ (Calls Tryd.prog N_stream_Block #[(.slice (some (nb w1)) (32 : Int).toNat (32 : Int).toNat), (.int .i64 (0 : Int)), (.slice (some (nb w5)) (12 : Int).toNat (12 : Int).toNat)] w6 fun e_1 w7 =>
  ∃ r_a1 : Option Addr, ∃ r_l1 : Nat, ∃ r_c1 : Nat, ∃ r1 : Int, e_1 = .returned (.tuple #[(.slice r_a1 r_l1 r_c1), (.int .i64 r1)]) ∧
  (KeepsB S w1 w7 ∧ J r_a1 r_l1 r_c1 r1 w7)))))))) ∧
  (((0 ≤ (12 : Int) ∧ (12 : Int) ≤ (12 : Int) ∧ (1 : Int) * (12 : Int) ≤ 281474976710656 ∧ (12 : Int) ≤ 9223372036854775807) ∧
  (let w2 := w1.alloc (.cells (madeCells #[(.int .u8 (0 : Int))] ((12 : Int).toNat * 1)) Ty_uint8);
  (KeepsB S w1 w2 ∧ ((0 ≤ (32 : Int) ∧ (32 : Int) ≤ (32 : Int) ∧ (1 : Int) * (32 : Int) ≤ 281474976710656 ∧ (32 : Int) ≤ 9223372036854775807) ∧
  (let w3 := w2.alloc (.cells (madeCells #[(.int .u8 (0 : Int))] ((32 : Int).toNat * 1)) Ty_uint8);
  (KeepsB S w1 w3 ∧ (Calls Tryd.prog N_stream_Block #[(.slice (some (nb w2)) (32 : Int).toNat (32 : Int).toNat), (.int .i64 (0 : Int)), (.slice (some (nb w1)) (12 : Int).toNat (12 : Int).toNat)] w3 fun e_ w4 =>
  ∃ r_a : Option Addr, ∃ r_l : Nat, ∃ r_c : Nat, ∃ r : Int, e_ = .returned (.tuple #[(.slice r_a r_l r_c), (.int .i64 r)]) ∧
  (KeepsB S w1 w4 ∧ J r_a r_l r_c r w4)))))))) ∧
  True)))))
theorem F_law13_awake_eq  (w : World) (R : Value → World → Prop) : sxFn Tryd.prog TT h_law13_awake Tryd.f10 #[] w R = F_law13_awake  w R := by kernel_rfl
theorem F_law13_awake_ok {R : Ending → World → Prop}  (w : World) (h : F_law13_awake  w fun v w' => R (.returned v) w') : Calls Tryd.prog N_law13_awake #[] w R :=
  calls_of (f := 10) follows_ok Tryd.func10 (Eq.mpr (F_law13_awake_eq  w _) h)

def h_made_Filled : H := (.seq .reg (.seq .reg (.seq (.seq .reg (.block (.loop [(5, .p .slice), (6, .p (.int .i64))] [5, 6, 7, 8, 9, 10, 11, 12, 13, 14, 15, 16, 17, 18, 19, 20, 21, 22] (.seq (.seq .reg (.cond .leaf .leaf)) (.seq (.block .reg) .reg))))) (.seq .reg .leaf))))
def F_made_Filled (n : Int) (seed : Int) (w : World) (R : Value → World → Prop) : Prop :=
  (∃ I : Option Addr → Nat → Nat → Int → Nat × (World → Prop), (I none 0 0 (0 : Int)).2 w ∧
  (∀ (_junk : Env) (b_a : Option Addr) (b_l : Nat) (b_c : Nat) (i : Int) (w1 : World), (I b_a b_l b_c i).2 w1 →
    (bsplit (decide (i < n))
      ((let w2 := w1.alloc (.cells #[(.int .u8 (IntKind.wrap .u8 (IntKind.wrap .i64 ((IntKind.wrap .i64 (seed + (IntKind.wrap .i64 ((7 : Int) * i)))) + (IntKind.wrap .i64 (Int.tdiv i (16 : Int)))))))] Ty_uint8);
      (AppP Tryd.prog #[Ty_S_uint8, Ty_S_uint8] Ty_S_uint8 #[(.slice b_a b_l b_c), (.slice (some (nb w1)) 1 1)] w2 fun x_a x_l x_c w3 =>
      (let i1 := (IntKind.wrap .i64 (i + (1 : Int)));
      ((I x_a x_l x_c i1).2 w3 ∧ (I x_a x_l x_c i1).1 < (I b_a b_l b_c i).1)))))
      (R (.slice b_a b_l b_c) w1))))
theorem F_made_Filled_eq (n : Int) (seed : Int) (w : World) (R : Value → World → Prop) : sxFn Tryd.prog TT h_made_Filled Tryd.f11 #[(.int .i64 n), (.int .i64 seed)] w R = F_made_Filled n seed w R := by kernel_rfl
theorem F_made_Filled_ok {R : Ending → World → Prop} (n : Int) (seed : Int) (w : World) (h : F_made_Filled n seed w fun v w' => R (.returned v) w') : Calls Tryd.prog N_made_Filled #[(.int .i64 n), (.int .i64 seed)] w R :=
  calls_of (f := 11) follows_ok Tryd.func11 (Eq.mpr (F_made_Filled_eq n seed w _) h)

def h_stream_Block : H := (.seq .reg (.seq (.seq .reg (.seq .reg (.cond (.seq .reg .leaf) .leaf))) (.seq (.seq .reg (.cond (.seq .reg .leaf) .leaf)) (.seq .reg .leaf))))
def F_stream_Block (key_a : Option Addr) (key_l : Nat) (key_c : Nat) (counter : Int) (nonce_a : Option Addr) (nonce_l : Nat) (nonce_c : Nat) (w : World) (R : Value → World → Prop) : Prop :=
  (Calls Tryd.prog N_stream_sized #[(.slice key_a key_l key_c), (.slice nonce_a nonce_l nonce_c)] w fun e_ w1 =>
  ∃ r : Int, e_ = .returned (.int .i64 r) ∧
  (bsplit (r != (0 : Int))
    (R (.tuple #[(.slice none 0 0), (.int .i64 r)]) w1)
    ((bsplit (decide (counter < (0 : Int)))
      (R (.tuple #[(.slice none 0 0), (.int .i64 (3 : Int))]) w1)
      ((bsplit (decide (counter > (4294967295 : Int)))
        (R (.tuple #[(.slice none 0 0), (.int .i64 (3 : Int))]) w1)
        ((Calls Tryd.prog N_stream_block #[(.slice key_a key_l key_c), (.int .i64 counter), (.slice nonce_a nonce_l nonce_c)] w1 fun e_2 w3 =>
        ∃ r_a1 : Option Addr, ∃ r_l1 : Nat, ∃ r_c1 : Nat, e_2 = .returned (.slice r_a1 r_l1 r_c1) ∧
        R (.tuple #[(.slice r_a1 r_l1 r_c1), (.int .i64 (0 : Int))]) w3))))))))
theorem F_stream_Block_eq (key_a : Option Addr) (key_l : Nat) (key_c : Nat) (counter : Int) (nonce_a : Option Addr) (nonce_l : Nat) (nonce_c : Nat) (w : World) (R : Value → World → Prop) : sxFn Tryd.prog TT h_stream_Block Tryd.f12 #[(.slice key_a key_l key_c), (.int .i64 counter), (.slice nonce_a nonce_l nonce_c)] w R = F_stream_Block key_a key_l key_c counter nonce_a nonce_l nonce_c w R := by kernel_rfl
theorem F_stream_Block_ok {R : Ending → World → Prop} (key_a : Option Addr) (key_l : Nat) (key_c : Nat) (counter : Int) (nonce_a : Option Addr) (nonce_l : Nat) (nonce_c : Nat) (w : World) (h : F_stream_Block key_a key_l key_c counter nonce_a nonce_l nonce_c w fun v w' => R (.returned v) w') : Calls Tryd.prog N_stream_Block #[(.slice key_a key_l key_c), (.int .i64 counter), (.slice nonce_a nonce_l nonce_c)] w R :=
  calls_of (f := 12) follows_ok Tryd.func12 (Eq.mpr (F_stream_Block_eq key_a key_l key_c counter nonce_a nonce_l nonce_c w _) h)

def h_ref13_Block : H := (.seq .reg (.seq (.seq .reg (.cond (.seq .reg .leaf) .leaf)) (.seq (.seq .reg (.cond (.seq .reg .leaf) .leaf)) (.cut [] [6, 7, 25, 26, 27, 28, 29, 30] (.seq .reg (.cond (.seq .reg .leaf) .leaf)) (.seq .reg (.seq (.seq .reg (.block (.loop [(9, .p (.int .i64))] [9, 32, 33, 34, 35, 36, 37, 38, 39, 40, 41, 42, 43, 44, 45, 46] (.seq (.seq .reg (.cond .leaf .leaf)) (.seq (.block .reg) .reg))))) (.seq .reg (.seq (.seq .reg (.block (.loop [(10, .p (.int .i64))] [10, 50, 51, 52, 53, 54, 55, 56, 57, 58, 59, 60, 61, 62, 63, 64] (.seq (.seq .reg (.cond .leaf .leaf)) (.seq (.block .reg) .reg))))) (.seq .reg (.seq .reg (.seq (.seq .reg (.block (.loop [(13, .p (.int .i64))] [13, 14, 15, 75, 76, 77, 78, 79, 80, 81, 82, 83, 84, 85, 86, 87, 88, 89, 90, 91, 92, 93, 94, 95, 96, 97, 98, 99, 100, 101, 102, 103, 104, 105, 106, 107, 108, 109, 110, 111, 112, 113, 114, 115, 116, 117, 118, 119] (.seq (.seq .reg (.cond .leaf .leaf)) (.seq (.block (.seq .reg (.block (.loop [(14, .p (.int .i64))] [14, 15, 79, 80, 81, 82, 83, 84, 85, 86, 87, 88, 89, 90, 91, 92, 93, 94, 95, 96, 97, 98, 99, 100, 101, 102, 103, 104, 105, 106, 107, 108, 109, 110, 111, 112, 113, 114, 115, 116, 117, 118, 119] (.seq (.seq .reg (.cond .leaf .leaf)) (.seq (.block (.seq .reg (.draw true (.one 0 .stable (.one 1 .stable (.one 2 .stable (.one 3 .stable (.one 4 .stable (.one 5 .stable (.one 6 .stable (.one 7 .stable (.one 8 .stable (.one 9 .stable (.one 10 .stable (.one 11 .pre (.one 12 .stable (.one 13 .stable (.one 14 .stable (.one 15 .pre (.one 16 .stable (.one 17 .stable (.one 18 .stable (.one 19 .pre (.one 20 .stable (.one 21 .stable (.one 22 .stable (.one 23 .pre (.one 24 .keep (.one 25 .stable (.one 26 .stable (.one 27 .stable (.one 28 .stable (.one 29 .stable (.one 30 .stable (.one 31 .keep (.one 32 .stable (.one 33 .keep (.one 34 .stable (.one 35 .keep (.one 36 .stable (.one 37 .last .nil))))))))))))))))))))))))))))))))))))))))) .reg)))))) .reg))))) (.seq .reg (.seq (.seq .reg (.block (.loop [(16, .p .slice), (17, .p (.int .i64))] [16, 17, 18, 120, 121, 122, 123, 124, 125, 126, 127, 128, 129, 130, 131, 132, 133, 134, 135, 136, 137, 138, 139, 140, 141, 142, 143, 144] (.seq (.seq .reg (.cond .leaf .leaf)) (.seq (.block (.seq (.draw false (.one 0 .stable (.one 1 .stable (.one 2 .stable (.one 3 .stable (.one 4 .stable (.one 5 .stable (.one 6 .stable (.one 7 .stable .nil))))))))) .reg)) .reg))))) (.seq .reg .leaf))))))))))))))
def F_ref13_Block (key_a : Option Addr) (key_l : Nat) (key_c : Nat) (counter : Int) (nonce_a : Option Addr) (nonce_l : Nat) (nonce_c : Nat) (w : World) (R : Value → World → Prop) : Prop :=
  (bsplit ((key_l : Int) != (32 : Int))
    (R (.tuple #[(.slice none 0 0), (.int .i64 (9 : Int))]) w)
    ((bsplit ((nonce_l : Int) != (12 : Int))
      (R (.tuple #[(.slice none 0 0), (.int .i64 (2 : Int))]) w)
      ((∃ J : World → Prop,
      (∀ (_junk : Env)  (w1 : World), J w1 →
        (let w2 := w1.alloc (.cells #[.int .u32 (0 : Int), .int .u32 (0 : Int), .int .u32 (0 : Int), .int .u32 (0 : Int), .int .u32 (0 : Int), .int .u32 (0 : Int), .int .u32 (0 : Int), .int .u32 (0 : Int), .int .u32 (0 : Int), .int .u32 (0 : Int), .int .u32 (0 : Int), .int .u32 (0 : Int), .int .u32 (0 : Int), .int .u32 (0 : Int), .int .u32 (0 : Int), .int .u32 (0 : Int)] Ty_16_uint32);
        (sxStore w2 (nb w1) 0 [(.int .u32 (1634760805 : Int)), (.int .u32 (857760878 : Int)), (.int .u32 (2036477234 : Int)), (.int .u32 (1797285236 : Int)), (.int .u32 (0 : Int)), (.int .u32 (0 : Int)), (.int .u32 (0 : Int)), (.int .u32 (0 : Int)), (.int .u32 (0 : Int)), (.int .u32 (0 : Int)), (.int .u32 (0 : Int)), (.int .u32 (0 : Int)), (.int .u32 (0 : Int)), (.int .u32 (0 : Int)), (.int .u32 (0 : Int)), (.int .u32 (0 : Int))] fun w3 =>
        (∃ I : Int → Nat × (World → Prop), (I (0 : Int)).2 w3 ∧
        (∀ (_junk : Env) (i : Int) (w4 : World), (I i).2 w4 →
          (bsplit (decide (i < (8 : Int)))
            (((0 ≤ (IntKind.wrap .i64 ((IntKind.wrap .i64 ((4 : Int) * i)) + (4 : Int))) ∧ (IntKind.wrap .i64 ((IntKind.wrap .i64 ((4 : Int) * i)) + (4 : Int))) ≤ ((key_c : Nat) : Int)) ∧ ((0 ≤ (IntKind.wrap .i64 ((4 : Int) * i)) ∧ (IntKind.wrap .i64 ((4 : Int) * i)) ≤ (((IntKind.wrap .i64 ((IntKind.wrap .i64 ((4 : Int) * i)) + (4 : Int))).toNat : Nat) : Int)) ∧ (Calls Tryd.prog N_ref13_word #[(.slice (slAddr key_c ((IntKind.wrap .i64 ((4 : Int) * i)).toNat) 1 key_a) ((IntKind.wrap .i64 ((IntKind.wrap .i64 ((4 : Int) * i)) + (4 : Int))).toNat - (IntKind.wrap .i64 ((4 : Int) * i)).toNat) (key_c - (IntKind.wrap .i64 ((4 : Int) * i)).toNat))] w4 fun e_ w5 =>
            ∃ r : Int, e_ = .returned (.int .u32 r) ∧
            ((0 ≤ (IntKind.wrap .i64 ((4 : Int) + i)) ∧ (IntKind.wrap .i64 ((4 : Int) + i)) < (16 : Int)) ∧
            ((∃ u, w5.cell? ((nb w1).add ((IntKind.wrap .i64 ((4 : Int) + i)).toNat * 1)) = some u) ∧ w5.frozen? ((nb w1).add ((IntKind.wrap .i64 ((4 : Int) + i)).toNat * 1)) = false ∧
            (let w6 := w5.setCell ((nb w1).add ((IntKind.wrap .i64 ((4 : Int) + i)).toNat * 1)) (.int .u32 r);
            (let i1 := (IntKind.wrap .i64 (i + (1 : Int)));
            ((I i1).2 w6 ∧ (I i1).1 < (I i).1)))))))))
            (((∃ u, w4.cell? ((nb w1).add 12) = some u) ∧ w4.frozen? ((nb w1).add 12) = false ∧
            (let w7 := w4.setCell ((nb w1).add 12) (.int .u32 (IntKind.wrap .u32 counter));
            (∃ I1 : Int → Nat × (World → Prop), (I1 (0 : Int)).2 w7 ∧
            (∀ (_junk : Env) (i2 : Int) (w8 : World), (I1 i2).2 w8 →
              (bsplit (decide (i2 < (3 : Int)))
                (((0 ≤ (IntKind.wrap .i64 ((IntKind.wrap .i64 ((4 : Int) * i2)) + (4 : Int))) ∧ (IntKind.wrap .i64 ((IntKind.wrap .i64 ((4 : Int) * i2)) + (4 : Int))) ≤ ((nonce_c : Nat) : Int)) ∧ ((0 ≤ (IntKind.wrap .i64 ((4 : Int) * i2)) ∧ (IntKind.wrap .i64 ((4 : Int) * i2)) ≤ (((IntKind.wrap .i64 ((IntKind.wrap .i64 ((4 : Int) * i2)) + (4 : Int))).toNat : Nat) : Int)) ∧ (Calls Tryd.prog N_ref13_word #[(.slice (slAddr nonce_c ((IntKind.wrap .i64 ((4 : Int) * i2)).toNat) 1 nonce_a) ((IntKind.wrap .i64 ((IntKind.wrap .i64 ((4 : Int) * i2)) + (4 : Int))).toNat - (IntKind.wrap .i64 ((4 : Int) * i2)).toNat) (nonce_c - (IntKind.wrap .i64 ((4 : Int) * i2)).toNat))] w8 fun e_1 w9 =>
                ∃ r1 : Int, e_1 = .returned (.int .u32 r1) ∧
                ((0 ≤ (IntKind.wrap .i64 ((13 : Int) + i2)) ∧ (IntKind.wrap .i64 ((13 : Int) + i2)) < (16 : Int)) ∧
                ((∃ u, w9.cell? ((nb w1).add ((IntKind.wrap .i64 ((13 : Int) + i2)).toNat * 1)) = some u) ∧ w9.frozen? ((nb w1).add ((IntKind.wrap .i64 ((13 : Int) + i2)).toNat * 1)) = false ∧
                (let w10 := w9.setCell ((nb w1).add ((IntKind.wrap .i64 ((13 : Int) + i2)).toNat * 1)) (.int .u32 r1);
                (let i3 := (IntKind.wrap .i64 (i2 + (1 : Int)));
                ((I1 i3).2 w10 ∧ (I1 i3).1 < (I1 i2).1)))))))))
                ((∃ x : Array Value, x.size = 16 ∧ cellsAt w8 (nb w1) 0 x.toList ∧
                (let w11 := w8.alloc (.cells #[.int .u32 (0 : Int), .int .u32 (0 : Int), .int .u32 (0 : Int), .int .u32 (0 : Int), .int .u32 (0 : Int), .int .u32 (0 : Int), .int .u32 (0 : Int), .int .u32 (0 : Int), .int .u32 (0 : Int), .int .u32 (0 : Int), .int .u32 (0 : Int), .int .u32 (0 : Int), .int .u32 (0 : Int), .int .u32 (0 : Int), .int .u32 (0 : Int), .int .u32 (0 : Int)] Ty_16_uint32);
                (bcond (Nat.beq x.size 16) (sxStore w11 (nb w8) 0 x.toList fun w12 =>
                (let w13 := w12.alloc (.cells #[.int .i64 (0 : Int), .int .i64 (0 : Int), .int .i64 (0 : Int), .int .i64 (0 : Int), .int .i64 (0 : Int), .int .i64 (0 : Int), .int .i64 (0 : Int), .int .i64 (0 : Int), .int .i64 (0 : Int), .int .i64 (0 : Int), .int .i64 (0 : Int), .int .i64 (0 : Int), .int .i64 (0 : Int), .int .i64 (0 : Int), .int .i64 (0 : Int), .int .i64 (0 : Int), .int .i64 (0 : Int), .int .i64 (0 : Int), .int .i64 (0 : Int), .int .i64 (0 : Int), .int .i64 (0 : Int), .int .i64 (0 : Int), .int .i64 (0 : Int), .int .i64 (0 : Int), .int .i64 (0 : Int), .int .i64 (0 : Int), .int .i64 (0 : Int), .int .i64 (0 : Int), .int .i64 (0 : Int), .int .i64 (0 : Int), .int .i64 (0 : Int), .int .i64 (0 : Int)] Ty_8_4_int);
                (sxStore w13 (nb w12) 0 [(.int .i64 (0 : Int)), (.int .i64 (4 : Int)), (.int .i64 (8 : Int)), (.int .i64 (12 : Int)), (.int .i64 (1 : Int)), (.int .i64 (5 : Int)), (.int .i64 (9 : Int)), (.int .i64 (13 : Int)), (.int .i64 (2 : Int)), (.int .i64 (6 : Int)), (.int .i64 (10 : Int)), (.int .i64 (14 : Int)), (.int .i64 (3 : Int)), (.int .i64 (7 : Int)), (.int .i64 (11 : Int)), (.int .i64 (15 : Int)), (.int .i64 (0 : Int)), (.int .i64 (5 : Int)), (.int .i64 (10 : Int)), (.int .i64 (15 : Int)), (.int .i64 (1 : Int)), (.int .i64 (6 : Int)), (.int .i64 (11 : Int)), (.int .i64 (12 : Int)), (.int .i64 (2 : Int)), (.int .i64 (7 : Int)), (.int .i64 (8 : Int)), (.int .i64 (13 : Int)), (.int .i64 (3 : Int)), (.int .i64 (4 : Int)), (.int .i64 (9 : Int)), (.int .i64 (14 : Int))] fun w14 =>
                (∃ I2 : Int → Nat × (World → Prop), (I2 (0 : Int)).2 w14 ∧
                (∀ (_junk : Env) (r2 : Int) (w15 : World), (I2 r2).2 w15 →
                  (bsplit (decide (r2 < (10 : Int)))
                    ((∃ I3 : Int → Nat × (World → Prop), (I3 (0 : Int)).2 w15 ∧
                    (∀ (_junk : Env) (i4 : Int) (w16 : World), (I3 i4).2 w16 →
                      (bsplit (decide (i4 < (8 : Int)))
                        (((0 ≤ i4 ∧ i4 < (8 : Int)) ∧
                        (∃ x_0 : Int, ∃ x_1 : Int, ∃ x_2 : Int, ∃ x_3 : Int, cellsAt w16 ((nb w12).add (i4.toNat * 4)) 0 [(.int .i64 x_0), (.int .i64 x_1), (.int .i64 x_2), (.int .i64 x_3)] ∧
                        (let w17 := w16.alloc (.cells #[.int .i64 (0 : Int), .int .i64 (0 : Int), .int .i64 (0 : Int), .int .i64 (0 : Int)] Ty_4_int);
                        (sxStore w17 (nb w16) 0 [(.int .i64 x_0), (.int .i64 x_1), (.int .i64 x_2), (.int .i64 x_3)] fun w18 =>
                        (let w19 := w18.drew;
                        (∃ S : Nat → Prop,
                        (S (nb w16).block ∧
                        (∃ x1 : Int, w19.cell? (nb w16) = some (.int .i64 x1) ∧
                        (S ((nb w16).add 1).block ∧
                        (∃ x2 : Int, w19.cell? ((nb w16).add 1) = some (.int .i64 x2) ∧
                        (S ((nb w16).add 2).block ∧
                        (∃ x3 : Int, w19.cell? ((nb w16).add 2) = some (.int .i64 x3) ∧
                        (S ((nb w16).add 3).block ∧
                        (∃ x4 : Int, w19.cell? ((nb w16).add 3) = some (.int .i64 x4) ∧
                        (S (nb w16).block ∧
                        (∃ x5 : Int, w19.cell? (nb w16) = some (.int .i64 x5) ∧
                        ((0 ≤ x5 ∧ x5 < (16 : Int)) ∧
                        (∃ x6 : Int, w19.cell? ((nb w8).add (x5.toNat * 1)) = some (.int .u32 x6) ∧
                        (S ((nb w16).add 1).block ∧
                        (∃ x7 : Int, w19.cell? ((nb w16).add 1) = some (.int .i64 x7) ∧
                        ((0 ≤ x7 ∧ x7 < (16 : Int)) ∧
                        (∃ x8 : Int, w19.cell? ((nb w8).add (x7.toNat * 1)) = some (.int .u32 x8) ∧
                        (S ((nb w16).add 2).block ∧
                        (∃ x9 : Int, w19.cell? ((nb w16).add 2) = some (.int .i64 x9) ∧
                        ((0 ≤ x9 ∧ x9 < (16 : Int)) ∧
                        (∃ x10 : Int, w19.cell? ((nb w8).add (x9.toNat * 1)) = some (.int .u32 x10) ∧
                        (S ((nb w16).add 3).block ∧
                        (∃ x11 : Int, w19.cell? ((nb w16).add 3) = some (.int .i64 x11) ∧
                        ((0 ≤ x11 ∧ x11 < (16 : Int)) ∧
                        (∃ x12 : Int, w19.cell? ((nb w8).add (x11.toNat * 1)) = some (.int .u32 x12) ∧
                        (Calls Tryd.prog N_ref13_quarter #[(.int .u32 x6), (.int .u32 x8), (.int .u32 x10), (.int .u32 x12)] w19 fun e_2 w20 =>
                        ∃ r3 : Int, ∃ r4 : Int, ∃ r5 : Int, ∃ r6 : Int, e_2 = .returned (.tuple #[(.int .u32 r3), (.int .u32 r4), (.int .u32 r5), (.int .u32 r6)]) ∧
                        (KeepsB S w19 w20 ∧ ((0 ≤ x1 ∧ x1 < (16 : Int)) ∧
                        ((∃ u, w20.cell? ((nb w8).add (x1.toNat * 1)) = some u) ∧ w20.frozen? ((nb w8).add (x1.toNat * 1)) = false ∧
                        (let w21 := w20.setCell ((nb w8).add (x1.toNat * 1)) (.int .u32 r3);
                        (KeepsB S w19 w21 ∧ ((0 ≤ x2 ∧ x2 < (16 : Int)) ∧
                        ((∃ u, w21.cell? ((nb w8).add (x2.toNat * 1)) = some u) ∧ w21.frozen? ((nb w8).add (x2.toNat * 1)) = false ∧
                        (let w22 := w21.setCell ((nb w8).add (x2.toNat * 1)) (.int .u32 r4);
                        (KeepsB S w19 w22 ∧ ((0 ≤ x3 ∧ x3 < (16 : Int)) ∧
                        ((∃ u, w22.cell? ((nb w8).add (x3.toNat * 1)) = some u) ∧ w22.frozen? ((nb w8).add (x3.toNat * 1)) = false ∧
                        (let w23 := w22.setCell ((nb w8).add (x3.toNat * 1)) (.int .u32 r5);
                        (KeepsB S w19 w23 ∧ ((0 ≤ x4 ∧ x4 < (16 : Int)) ∧
                        ((∃ u, w23.cell? ((nb w8).add (x4.toNat * 1)) = some u) ∧ w23.frozen? ((nb w8).add (x4.toNat * 1)) = false ∧
                        (let w24 := w23.setCell ((nb w8).add (x4.toNat * 1)) (.int .u32 r6);
                        (let i5 := (IntKind.wrap .i64 (i4 + (1 : Int)));
                        ((I3 i5).2 w24 ∧ (I3 i5).1 < (I3 i4).1))))))))))))))))))))))))))))))))))))))))))))))))))
                        ((let r7 := (IntKind.wrap .i64 (r2 + (1 : Int)));
                        ((I2 r7).2 w16 ∧ (I2 r7).1 < (I2 r2).1)))))))
                    ((∃ I4 : Option Addr → Nat → Nat → Int → Nat × (World → Prop), (I4 none 0 0 (0 : Int)).2 w15 ∧
                    (∀ (_junk : Env) (out_a : Option Addr) (out_l : Nat) (out_c : Nat) (i6 : Int) (w25 : World), (I4 out_a out_l out_c i6).2 w25 →
                      (bsplit (decide (i6 < (16 : Int)))
                        ((let w26 := w25.drew;
                        ((0 ≤ i6 ∧ i6 < (16 : Int)) ∧
                        (∃ x13 : Int, w26.cell? ((nb w8).add (i6.toNat * 1)) = some (.int .u32 x13) ∧
                        ((0 ≤ i6 ∧ i6 < (16 : Int)) ∧
                        (∃ x14 : Int, w26.cell? ((nb w1).add (i6.toNat * 1)) = some (.int .u32 x14) ∧
                        (let v := (IntKind.wrap .u32 (x13 + x14));
                        (let w27 := w26.alloc (.cells #[(.int .u8 (IntKind.wrap .u8 v)), (.int .u8 (IntKind.wrap .u8 (Int.fdiv v (2 ^ 8)))), (.int .u8 (IntKind.wrap .u8 (Int.fdiv v (2 ^ 16)))), (.int .u8 (IntKind.wrap .u8 (Int.fdiv v (2 ^ 24))))] Ty_uint8);
                        (AppP Tryd.prog #[Ty_S_uint8, Ty_S_uint8] Ty_S_uint8 #[(.slice out_a out_l out_c), (.slice (some (nb w26)) 4 4)] w27 fun x_a x_l x_c w28 =>
                        (let i7 := (IntKind.wrap .i64 (i6 + (1 : Int)));
                        ((I4 x_a x_l x_c i7).2 w28 ∧ (I4 x_a x_l x_c i7).1 < (I4 out_a out_l out_c i6).1)))))))))))
                        (R (.tuple #[(.slice out_a out_l out_c), (.int .i64 (0 : Int))]) w25))))))))))))))))))))))))))) ∧
      (bsplit (decide (counter < (0 : Int)))
        (R (.tuple #[(.slice none 0 0), (.int .i64 (3 : Int))]) w)
        ((bsplit (decide (counter > (4294967295 : Int)))
          (R (.tuple #[(.slice none 0 0), (.int .i64 (3 : Int))]) w)
          (J w)))))))))
theorem F_ref13_Block_eq (key_a : Option Addr) (key_l : Nat) (key_c : Nat) (counter : Int) (nonce_a : Option Addr) (nonce_l : Nat) (nonce_c : Nat) (w : World) (R : Value → World → Prop) : sxFn Tryd.prog TT h_ref13_Block Tryd.f13 #[(.slice key_a key_l key_c), (.int .i64 counter), (.slice nonce_a nonce_l nonce_c)] w R = F_ref13_Block key_a key_l key_c counter nonce_a nonce_l nonce_c w R := by kernel_rfl
theorem F_ref13_Block_ok {R : Ending → World → Prop} (key_a : Option Addr) (key_l : Nat) (key_c : Nat) (counter : Int) (nonce_a : Option Addr) (nonce_l : Nat) (nonce_c : Nat) (w : World) (h : F_ref13_Block key_a key_l key_c counter nonce_a nonce_l nonce_c w fun v w' => R (.returned v) w') : Calls Tryd.prog N_ref13_Block #[(.slice key_a key_l key_c), (.int .i64 counter), (.slice nonce_a nonce_l nonce_c)] w R :=
  calls_of (f := 13) follows_ok Tryd.func13 (Eq.mpr (F_ref13_Block_eq key_a key_l key_c counter nonce_a nonce_l nonce_c w _) h)

def h_stream_Xor : H := (.seq .reg (.seq (.seq .reg (.seq .reg (.cond (.seq .reg .leaf) .leaf))) (.seq (.seq .reg (.cond (.seq .reg .leaf) .leaf)) (.seq .reg (.seq .reg (.seq (.seq .reg (.block (.loop [(10, .p .slice), (27, .p (.int .i64))] [10, 11, 12, 27, 28, 29, 30, 31, 32, 33, 34, 35, 36, 37, 38, 39, 40, 41, 42, 43, 44, 45, 46, 47, 48, 49, 50] (.seq .reg (.seq (.cond .leaf .leaf) (.seq (.block (.seq .reg (.seq (.seq .reg (.cond .reg .leaf)) .reg))) .reg)))))) (.seq .reg .leaf)))))))
def F_stream_Xor (key_a : Option Addr) (key_l : Nat) (key_c : Nat) (nonce_a : Option Addr) (nonce_l : Nat) (nonce_c : Nat) (b_a : Option Addr) (b_l : Nat) (b_c : Nat) (w : World) (R : Value → World → Prop) : Prop :=
  (Calls Tryd.prog N_stream_sized #[(.slice key_a key_l key_c), (.slice nonce_a nonce_l nonce_c)] w fun e_ w1 =>
  ∃ r : Int, e_ = .returned (.int .i64 r) ∧
  (bsplit (r != (0 : Int))
    (R (.tuple #[(.slice none 0 0), (.int .i64 r)]) w1)
    ((bsplit (decide ((b_l : Int) > (4096 : Int)))
      (R (.tuple #[(.slice none 0 0), (.int .i64 (2 : Int))]) w1)
      (((0 ≤ (b_l : Int) ∧ (b_l : Int) ≤ (b_l : Int) ∧ (1 : Int) * (b_l : Int) ≤ 281474976710656 ∧ (b_l : Int) ≤ 9223372036854775807) ∧
      (let w2 := w1.alloc (.cells (madeCells #[(.int .u8 (0 : Int))] ((b_l : Int).toNat * 1)) Ty_uint8);
      (∃ I : Option Addr → Nat → Nat → Int → Nat × (World → Prop), (I none 0 0 (0 : Int)).2 w2 ∧
      (∀ (_junk : Env) (now_a : Option Addr) (now_l : Nat) (now_c : Nat) (x : Int) (w3 : World), (I now_a now_l now_c x).2 w3 →
        (bsplit (decide (x < (b_l : Int)))
          ((∃ b : Addr, b_a = some b ∧ (0 ≤ x ∧ x < (b_l : Int)) ∧
          (∃ x1 : Int, w3.cell? (b.add (x.toNat * 1)) = some (.int .u8 x1) ∧
          (bsplit ((Int.tmod x (64 : Int)) == (0 : Int))
            ((Calls Tryd.prog N_stream_block #[(.slice key_a key_l key_c), (.int .i64 (IntKind.wrap .i64 (Int.tdiv x (64 : Int)))), (.slice nonce_a nonce_l nonce_c)] w3 fun e_1 w4 =>
            ∃ r_a : Option Addr, ∃ r_l : Nat, ∃ r_c : Nat, e_1 = .returned (.slice r_a r_l r_c) ∧
            (∃ b1 : Addr, r_a = some b1 ∧ (0 ≤ (Int.tmod x (64 : Int)) ∧ (Int.tmod x (64 : Int)) < (r_l : Int)) ∧
            (∃ x2 : Int, w4.cell? (b1.add ((Int.tmod x (64 : Int)).toNat * 1)) = some (.int .u8 x2) ∧
            (∃ b2 : Addr, (some (nb w1)) = some b2 ∧ (0 ≤ x ∧ x < ((b_l : Int).toNat : Int)) ∧
            ((∃ u, w4.cell? (b2.add (x.toNat * 1)) = some u) ∧ w4.frozen? (b2.add (x.toNat * 1)) = false ∧
            (let w5 := w4.setCell (b2.add (x.toNat * 1)) (.int .u8 (bXor .u8 x1 x2));
            ((I r_a r_l r_c (IntKind.wrap .i64 (x + (1 : Int)))).2 w5 ∧ (I r_a r_l r_c (IntKind.wrap .i64 (x + (1 : Int)))).1 < (I now_a now_l now_c x).1))))))))
            ((∃ b3 : Addr, now_a = some b3 ∧ (0 ≤ (Int.tmod x (64 : Int)) ∧ (Int.tmod x (64 : Int)) < (now_l : Int)) ∧
            (∃ x3 : Int, w3.cell? (b3.add ((Int.tmod x (64 : Int)).toNat * 1)) = some (.int .u8 x3) ∧
            (∃ b4 : Addr, (some (nb w1)) = some b4 ∧ (0 ≤ x ∧ x < ((b_l : Int).toNat : Int)) ∧
            ((∃ u, w3.cell? (b4.add (x.toNat * 1)) = some u) ∧ w3.frozen? (b4.add (x.toNat * 1)) = false ∧
            (let w6 := w3.setCell (b4.add (x.toNat * 1)) (.int .u8 (bXor .u8 x1 x3));
            ((I now_a now_l now_c (IntKind.wrap .i64 (x + (1 : Int)))).2 w6 ∧ (I now_a now_l now_c (IntKind.wrap .i64 (x + (1 : Int)))).1 < (I now_a now_l now_c x).1)))))))))))
          (R (.tuple #[(.slice (some (nb w1)) (b_l : Int).toNat (b_l : Int).toNat), (.int .i64 (0 : Int))]) w3)))))))))))
theorem F_stream_Xor_eq (key_a : Option Addr) (key_l : Nat) (key_c : Nat) (nonce_a : Option Addr) (nonce_l : Nat) (nonce_c : Nat) (b_a : Option Addr) (b_l : Nat) (b_c : Nat) (w : World) (R : Value → World → Prop) : sxFn Tryd.prog TT h_stream_Xor Tryd.f14 #[(.slice key_a key_l key_c), (.slice nonce_a nonce_l nonce_c), (.slice b_a b_l b_c)] w R = F_stream_Xor key_a key_l key_c nonce_a nonce_l nonce_c b_a b_l b_c w R := by kernel_rfl
theorem F_stream_Xor_ok {R : Ending → World → Prop} (key_a : Option Addr) (key_l : Nat) (key_c : Nat) (nonce_a : Option Addr) (nonce_l : Nat) (nonce_c : Nat) (b_a : Option Addr) (b_l : Nat) (b_c : Nat) (w : World) (h : F_stream_Xor key_a key_l key_c nonce_a nonce_l nonce_c b_a b_l b_c w fun v w' => R (.returned v) w') : Calls Tryd.prog N_stream_Xor #[(.slice key_a key_l key_c), (.slice nonce_a nonce_l nonce_c), (.slice b_a b_l b_c)] w R :=
  calls_of (f := 14) follows_ok Tryd.func14 (Eq.mpr (F_stream_Xor_eq key_a key_l key_c nonce_a nonce_l nonce_c b_a b_l b_c w _) h)

def h_ref13_Xor : H := (.seq .reg (.seq (.seq .reg (.cond (.seq .reg .leaf) .leaf)) (.cut [] [6, 7, 14, 15, 16, 17, 18, 19, 20, 21] (.seq .reg (.cond (.seq .reg .leaf) .leaf)) (.seq .reg (.seq (.seq .reg (.block (.loop [(8, .p .slice), (9, .p .slice), (10, .p (.int .i64))] [8, 9, 10, 22, 23, 24, 25, 26, 27, 28, 29, 30, 31, 32, 33, 34, 35, 36, 37, 38, 39, 40, 41, 42, 43, 44, 45, 46, 47, 48, 49, 50, 51] (.seq (.seq .reg (.cond .leaf .leaf)) (.seq (.block (.cut [(9, .p .slice)] [9, 28, 29, 30, 31, 32, 33, 34, 35, 36, 37, 38] (.seq .reg (.cond .reg .leaf)) (.draw true (.one 0 .stable (.one 1 .stable (.one 2 .stable (.one 3 .stable (.one 4 .stable (.one 5 .stable (.one 6 .stable (.one 7 .stable (.one 8 .stable (.one 9 .stable (.one 10 .stable (.one 11 .keep (.one 12 .keep (.one 13 .stable .nil))))))))))))))))) .reg))))) (.seq .reg .leaf))))))
def F_ref13_Xor (key_a : Option Addr) (key_l : Nat) (key_c : Nat) (nonce_a : Option Addr) (nonce_l : Nat) (nonce_c : Nat) (b_a : Option Addr) (b_l : Nat) (b_c : Nat) (w : World) (R : Value → World → Prop) : Prop :=
  (bsplit ((key_l : Int) != (32 : Int))
    (R (.tuple #[(.slice none 0 0), (.int .i64 (9 : Int))]) w)
    ((∃ J : World → Prop,
    (∀ (_junk : Env)  (w1 : World), J w1 →
      (∃ I : Option Addr → Nat → Nat → Option Addr → Nat → Nat → Int → Nat × (World → Prop), (I none 0 0 none 0 0 (0 : Int)).2 w1 ∧
      (∀ (_junk : Env) (out_a : Option Addr) (out_l : Nat) (out_c : Nat) (block_a : Option Addr) (block_l : Nat) (block_c : Nat) (i : Int) (w2 : World), (I out_a out_l out_c block_a block_l block_c i).2 w2 →
        (bsplit (decide (i < (b_l : Int)))
          ((∃ J1 : Option Addr → Nat → Nat → World → Prop,
          (∀ (_junk : Env) (block_a1 : Option Addr) (block_l1 : Nat) (block_c1 : Nat) (w4 : World), J1 block_a1 block_l1 block_c1 w4 →
            (let w5 := w4.drew;
            (∃ S : Nat → Prop,
            (∃ b : Addr, b_a = some b ∧ (0 ≤ i ∧ i < (b_l : Int)) ∧
            (S (b.add (i.toNat * 1)).block ∧
            (∃ x : Int, w5.cell? (b.add (i.toNat * 1)) = some (.int .u8 x) ∧
            (∃ b1 : Addr, block_a1 = some b1 ∧ (0 ≤ (Int.tmod i (64 : Int)) ∧ (Int.tmod i (64 : Int)) < (block_l1 : Int)) ∧
            (S (b1.add ((Int.tmod i (64 : Int)).toNat * 1)).block ∧
            (∃ x1 : Int, w5.cell? (b1.add ((Int.tmod i (64 : Int)).toNat * 1)) = some (.int .u8 x1) ∧
            (let w6 := w5.alloc (.cells #[(.int .u8 (bXor .u8 x x1))] Ty_uint8);
            (KeepsB S w5 w6 ∧ (AppP Tryd.prog #[Ty_S_uint8, Ty_S_uint8] Ty_S_uint8 #[(.slice out_a out_l out_c), (.slice (some (nb w5)) 1 1)] w6 fun x_a x_l x_c w7 =>
            (KeepsB S w5 w7 ∧ (let i1 := (IntKind.wrap .i64 (i + (1 : Int)));
            ((I x_a x_l x_c block_a1 block_l1 block_c1 i1).2 w7 ∧ (I x_a x_l x_c block_a1 block_l1 block_c1 i1).1 < (I out_a out_l out_c block_a block_l block_c i).1))))))))))))))) ∧
          (bsplit ((Int.tmod i (64 : Int)) == (0 : Int))
            ((Calls Tryd.prog N_ref13_Block #[(.slice key_a key_l key_c), (.int .i64 (IntKind.wrap .i64 (Int.tdiv i (64 : Int)))), (.slice nonce_a nonce_l nonce_c)] w2 fun e_ w3 =>
            ∃ r_a : Option Addr, ∃ r_l : Nat, ∃ r_c : Nat, ∃ r : Int, e_ = .returned (.tuple #[(.slice r_a r_l r_c), (.int .i64 r)]) ∧
            J1 r_a r_l r_c w3))
            (J1 block_a block_l block_c w2))))
          (R (.tuple #[(.slice out_a out_l out_c), (.int .i64 (0 : Int))]) w2))))) ∧
    (bsplit ((nonce_l : Int) != (12 : Int))
      (R (.tuple #[(.slice none 0 0), (.int .i64 (2 : Int))]) w)
      ((bsplit (decide ((b_l : Int) > (4096 : Int)))
        (R (.tuple #[(.slice none 0 0), (.int .i64 (2 : Int))]) w)
        (J w)))))))
theorem F_ref13_Xor_eq (key_a : Option Addr) (key_l : Nat) (key_c : Nat) (nonce_a : Option Addr) (nonce_l : Nat) (nonce_c : Nat) (b_a : Option Addr) (b_l : Nat) (b_c : Nat) (w : World) (R : Value → World → Prop) : sxFn Tryd.prog TT h_ref13_Xor Tryd.f15 #[(.slice key_a key_l key_c), (.slice nonce_a nonce_l nonce_c), (.slice b_a b_l b_c)] w R = F_ref13_Xor key_a key_l key_c nonce_a nonce_l nonce_c b_a b_l b_c w R := by kernel_rfl
theorem F_ref13_Xor_ok {R : Ending → World → Prop} (key_a : Option Addr) (key_l : Nat) (key_c : Nat) (nonce_a : Option Addr) (nonce_l : Nat) (nonce_c : Nat) (b_a : Option Addr) (b_l : Nat) (b_c : Nat) (w : World) (h : F_ref13_Xor key_a key_l key_c nonce_a nonce_l nonce_c b_a b_l b_c w fun v w' => R (.returned v) w') : Calls Tryd.prog N_ref13_Xor #[(.slice key_a key_l key_c), (.slice nonce_a nonce_l nonce_c), (.slice b_a b_l b_c)] w R :=
  calls_of (f := 15) follows_ok Tryd.func15 (Eq.mpr (F_ref13_Xor_eq key_a key_l key_c nonce_a nonce_l nonce_c b_a b_l b_c w _) h)

def h_ref01_Same : H := (.seq .reg (.seq .reg .leaf))
def F_ref01_Same (a_a : Option Addr) (a_l : Nat) (a_c : Nat) (b_a : Option Addr) (b_l : Nat) (b_c : Nat) (w : World) (R : Value → World → Prop) : Prop :=
  (ConvS Tryd.prog Ty_S_uint8 Ty_string (.slice a_a a_l a_c) w fun x =>
  (ConvS Tryd.prog Ty_S_uint8 Ty_string (.slice b_a b_l b_c) w fun x1 =>
  R (.bool (x == x1)) w))
theorem F_ref01_Same_eq (a_a : Option Addr) (a_l : Nat) (a_c : Nat) (b_a : Option Addr) (b_l : Nat) (b_c : Nat) (w : World) (R : Value → World → Prop) : sxFn Tryd.prog TT h_ref01_Same Tryd.f16 #[(.slice a_a a_l a_c), (.slice b_a b_l b_c)] w R = F_ref01_Same a_a a_l a_c b_a b_l b_c w R := by kernel_rfl
theorem F_ref01_Same_ok {R : Ending → World → Prop} (a_a : Option Addr) (a_l : Nat) (a_c : Nat) (b_a : Option Addr) (b_l : Nat) (b_c : Nat) (w : World) (h : F_ref01_Same a_a a_l a_c b_a b_l b_c w fun v w' => R (.returned v) w') : Calls Tryd.prog N_ref01_Same #[(.slice a_a a_l a_c), (.slice b_a b_l b_c)] w R :=
  calls_of (f := 16) follows_ok Tryd.func16 (Eq.mpr (F_ref01_Same_eq a_a a_l a_c b_a b_l b_c w _) h)

def h_ref13_Quarter : H := (.seq .reg (.seq .reg (.seq .reg .leaf)))
def F_ref13_Quarter (x_0 : Int) (x_1 : Int) (x_2 : Int) (x_3 : Int) (w : World) (R : Value → World → Prop) : Prop :=
  (let w1 := w.alloc (.cells #[(.int .i64 x_0), (.int .i64 x_1), (.int .i64 x_2), (.int .i64 x_3)] Ty_4_int);
  (let w2 := w1.alloc (.cells #[.int .i64 (0 : Int), .int .i64 (0 : Int), .int .i64 (0 : Int), .int .i64 (0 : Int)] Ty_4_int);
  (∃ x : Int, w2.cell? (nb w) = some (.int .i64 x) ∧
  (∃ x1 : Int, w2.cell? ((nb w).add 1) = some (.int .i64 x1) ∧
  (∃ x2 : Int, w2.cell? ((nb w).add 2) = some (.int .i64 x2) ∧
  (∃ x3 : Int, w2.cell? ((nb w).add 3) = some (.int .i64 x3) ∧
  (Calls Tryd.prog N_ref13_quarter #[(.int .u32 (IntKind.wrap .u32 x)), (.int .u32 (IntKind.wrap .u32 x1)), (.int .u32 (IntKind.wrap .u32 x2)), (.int .u32 (IntKind.wrap .u32 x3))] w2 fun e_ w3 =>
  ∃ r : Int, ∃ r1 : Int, ∃ r2 : Int, ∃ r3 : Int, e_ = .returned (.tuple #[(.int .u32 r), (.int .u32 r1), (.int .u32 r2), (.int .u32 r3)]) ∧
  (sxStore w3 (nb w1) 0 [(.int .i64 (IntKind.wrap .i64 r)), (.int .i64 (IntKind.wrap .i64 r1)), (.int .i64 (IntKind.wrap .i64 r2)), (.int .i64 (IntKind.wrap .i64 r3))] fun w4 =>
  (∃ r_0 : Int, ∃ r_1 : Int, ∃ r_2 : Int, ∃ r_3 : Int, cellsAt w4 (nb w1) 0 [(.int .i64 r_0), (.int .i64 r_1), (.int .i64 r_2), (.int .i64 r_3)] ∧
  R (.agg #[.int .i64 r_0, .int .i64 r_1, .int .i64 r_2, .int .i64 r_3]) w4)))))))))
theorem F_ref13_Quarter_eq (x_0 : Int) (x_1 : Int) (x_2 : Int) (x_3 : Int) (w : World) (R : Value → World → Prop) : sxFn Tryd.prog TT h_ref13_Quarter Tryd.f17 #[(.agg #[.int .i64 x_0, .int .i64 x_1, .int .i64 x_2, .int .i64 x_3])] w R = F_ref13_Quarter x_0 x_1 x_2 x_3 w R := by kernel_rfl
theorem F_ref13_Quarter_ok {R : Ending → World → Prop} (x_0 : Int) (x_1 : Int) (x_2 : Int) (x_3 : Int) (w : World) (h : F_ref13_Quarter x_0 x_1 x_2 x_3 w fun v w' => R (.returned v) w') : Calls Tryd.prog N_ref13_Quarter #[(.agg #[.int .i64 x_0, .int .i64 x_1, .int .i64 x_2, .int .i64 x_3])] w R :=
  calls_of (f := 17) follows_ok Tryd.func17 (Eq.mpr (F_ref13_Quarter_eq x_0 x_1 x_2 x_3 w _) h)

def h_stream_quarter : H := (.seq .reg (.seq .reg (.seq .reg (.seq .reg (.seq .reg (.seq .reg (.seq .reg (.seq .reg (.seq .reg (.seq .reg .leaf))))))))))
def F_stream_quarter (a : Int) (b : Int) (c : Int) (d : Int) (w : World) (R : Value → World → Prop) : Prop :=
  (let a1 := (IntKind.wrap .u32 (a + b));
  (Calls Tryd.prog N_math_bits_RotateLeft32 #[(.int .u32 (bXor .u32 d a1)), (.int .i64 (16 : Int))] w fun e_ w1 =>
  ∃ r : Int, e_ = .returned (.int .u32 r) ∧
  (let c1 := (IntKind.wrap .u32 (c + r));
  (Calls Tryd.prog N_math_bits_RotateLeft32 #[(.int .u32 (bXor .u32 b c1)), (.int .i64 (12 : Int))] w1 fun e_1 w2 =>
  ∃ r1 : Int, e_1 = .returned (.int .u32 r1) ∧
  (let a2 := (IntKind.wrap .u32 (a1 + r1));
  (Calls Tryd.prog N_math_bits_RotateLeft32 #[(.int .u32 (bXor .u32 r a2)), (.int .i64 (8 : Int))] w2 fun e_2 w3 =>
  ∃ r2 : Int, e_2 = .returned (.int .u32 r2) ∧
  (let c2 := (IntKind.wrap .u32 (c1 + r2));
  (Calls Tryd.prog N_math_bits_RotateLeft32 #[(.int .u32 (bXor .u32 r1 c2)), (.int .i64 (7 : Int))] w3 fun e_3 w4 =>
  ∃ r3 : Int, e_3 = .returned (.int .u32 r3) ∧
  R (.tuple #[(.int .u32 a2), (.int .u32 r3), (.int .u32 c2), (.int .u32 r2)]) w4))))))))
theorem F_stream_quarter_eq (a : Int) (b : Int) (c : Int) (d : Int) (w : World) (R : Value → World → Prop) : sxFn Tryd.prog TT h_stream_quarter Tryd.f18 #[(.int .u32 a), (.int .u32 b), (.int .u32 c), (.int .u32 d)] w R = F_stream_quarter a b c d w R := by kernel_rfl
theorem F_stream_quarter_ok {R : Ending → World → Prop} (a : Int) (b : Int) (c : Int) (d : Int) (w : World) (h : F_stream_quarter a b c d w fun v w' => R (.returned v) w') : Calls Tryd.prog N_stream_quarter #[(.int .u32 a), (.int .u32 b), (.int .u32 c), (.int .u32 d)] w R :=
  calls_of (f := 18) follows_ok Tryd.func18 (Eq.mpr (F_stream_quarter_eq a b c d w _) h)

def h_stream_sized : H := (.seq .reg (.seq (.block (.seq .reg (.cond (.seq .reg .leaf) (.seq .reg (.cond (.seq .reg .leaf) .leaf))))) (.seq .reg .leaf)))
def F_stream_sized (key_a : Option Addr) (key_l : Nat) (key_c : Nat) (nonce_a : Option Addr) (nonce_l : Nat) (nonce_c : Nat) (w : World) (R : Value → World → Prop) : Prop :=
  (let x := ((key_l : Int) != (32 : Int));
  (bsplit x
    (R (.int .i64 (9 : Int)) w)
    ((let x1 := ((nonce_l : Int) != (12 : Int));
    (bsplit x1
      (R (.int .i64 (2 : Int)) w)
      (R (.int .i64 (0 : Int)) w))))))
theorem F_stream_sized_eq (key_a : Option Addr) (key_l : Nat) (key_c : Nat) (nonce_a : Option Addr) (nonce_l : Nat) (nonce_c : Nat) (w : World) (R : Value → World → Prop) : sxFn Tryd.prog TT h_stream_sized Tryd.f19 #[(.slice key_a key_l key_c), (.slice nonce_a nonce_l nonce_c)] w R = F_stream_sized key_a key_l key_c nonce_a nonce_l nonce_c w R := by kernel_rfl
theorem F_stream_sized_ok {R : Ending → World → Prop} (key_a : Option Addr) (key_l : Nat) (key_c : Nat) (nonce_a : Option Addr) (nonce_l : Nat) (nonce_c : Nat) (w : World) (h : F_stream_sized key_a key_l key_c nonce_a nonce_l nonce_c w fun v w' => R (.returned v) w') : Calls Tryd.prog N_stream_sized #[(.slice key_a key_l key_c), (.slice nonce_a nonce_l nonce_c)] w R :=
  calls_of (f := 19) follows_ok Tryd.func19 (Eq.mpr (F_stream_sized_eq key_a key_l key_c nonce_a nonce_l nonce_c w _) h)

def h_stream_block : H := (.seq .reg (.seq .reg (.seq .reg (.seq (.draw false (.one 0 .pre (.one 1 .pre (.one 2 .last .nil)))) (.seq (.seq .reg (.block (.loop [(21, .p (.int .i64))] [9, 21, 22, 23, 24, 25, 26, 27, 28, 29, 30, 31, 32] (.seq .reg (.seq (.cond .leaf .leaf) (.seq (.block (.seq .reg .reg)) .reg)))))) (.seq .reg (.seq (.seq .reg (.block (.loop [(36, .p (.int .i64))] [10, 36, 37, 38, 39, 40, 41, 42, 43, 44, 45, 46, 47] (.seq .reg (.seq (.cond .leaf .leaf) (.seq (.block (.seq .reg .reg)) .reg)))))) (.seq .reg (.seq (.seq .reg (.block (.loop [(49, .p (.int .i64))] [13, 49, 50, 51, 52, 53, 54, 55, 56, 57, 58, 59, 60, 61, 62, 63, 64, 65, 66, 67, 68, 69, 70, 71, 72, 73, 74, 75, 76, 77, 78, 79, 80, 81, 82, 83, 84, 85, 86, 87, 88, 89, 90] (.seq .reg (.seq (.cond .leaf .leaf) (.seq (.block (.seq .reg (.block (.loop [(52, .p (.int .i64))] [13, 52, 53, 54, 55, 56, 57, 58, 59, 60, 61, 62, 63, 64, 65, 66, 67, 68, 69, 70, 71, 72, 73, 74, 75, 76, 77, 78, 79, 80, 81, 82, 83, 84, 85, 86, 87, 88, 89] (.seq .reg (.seq (.cond .leaf .leaf) (.seq (.block (.seq .reg (.draw true (.one 0 .stable (.one 1 .stable (.one 2 .stable (.one 3 .stable (.one 4 .stable (.one 5 .stable (.one 6 .stable (.one 7 .stable (.one 8 .stable (.one 9 .stable (.one 10 .stable (.one 11 .pre (.one 12 .stable (.one 13 .stable (.one 14 .stable (.one 15 .pre (.one 16 .stable (.one 17 .stable (.one 18 .stable (.one 19 .pre (.one 20 .stable (.one 21 .stable (.one 22 .stable (.one 23 .pre (.one 24 .keep (.one 25 .stable (.one 26 .stable (.one 27 .stable (.one 28 .stable (.one 29 .stable (.one 30 .stable (.one 31 .keep (.one 32 .stable (.one 33 .keep (.one 34 .stable (.one 35 .keep (.one 36 .stable (.one 37 .last .nil))))))))))))))))))))))))))))))))))))))))) .reg))))))) .reg)))))) (.seq .reg (.seq (.seq .reg (.block (.loop [(14, .p .slice), (92, .p (.int .i64))] [14, 15, 16, 92, 93, 94, 95, 96, 97, 98, 99, 100, 101, 102, 103] (.seq .reg (.seq (.cond .leaf .leaf) (.seq (.block (.seq .reg .reg)) .reg)))))) (.seq .reg .leaf))))))))))))
def F_stream_block (key_a : Option Addr) (key_l : Nat) (key_c : Nat) (counter : Int) (nonce_a : Option Addr) (nonce_l : Nat) (nonce_c : Nat) (w : World) (R : Value → World → Prop) : Prop :=
  (let w1 := w.alloc (.cells #[.int .u32 (0 : Int), .int .u32 (0 : Int), .int .u32 (0 : Int), .int .u32 (0 : Int), .int .u32 (0 : Int), .int .u32 (0 : Int), .int .u32 (0 : Int), .int .u32 (0 : Int), .int .u32 (0 : Int), .int .u32 (0 : Int), .int .u32 (0 : Int), .int .u32 (0 : Int), .int .u32 (0 : Int), .int .u32 (0 : Int), .int .u32 (0 : Int), .int .u32 (0 : Int)] Ty_16_uint32);
  (Calls Tryd.prog N_stream_first #[] w1 fun e_ w2 =>
  ∃ r_0 : Int, ∃ r_1 : Int, ∃ r_2 : Int, ∃ r_3 : Int, e_ = .returned (.agg #[.int .u32 r_0, .int .u32 r_1, .int .u32 r_2, .int .u32 r_3]) ∧
  (let w3 := w2.alloc (.cells #[.int .u32 (0 : Int), .int .u32 (0 : Int), .int .u32 (0 : Int), .int .u32 (0 : Int)] Ty_4_uint32);
  (sxStore w3 (nb w2) 0 [(.int .u32 r_0), (.int .u32 r_1), (.int .u32 r_2), (.int .u32 r_3)] fun w4 =>
  (let w5 := w4.drew;
  (CopyP Tryd.prog #[Ty_S_uint32, Ty_S_uint32] Ty_int #[(.slice (slAddr 16 0 1 (some (nb w))) (16 - 0) (16 - 0)), (.slice (slAddr 4 0 1 (some (nb w2))) (4 - 0) (4 - 0))] w5 fun k w6 =>
  (∃ I : Int → Nat × (World → Prop), (I (0 : Int)).2 w6 ∧
  (∀ (_junk : Env) (x : Int) (w7 : World), (I x).2 w7 →
    (bsplit (decide (x < (8 : Int)))
      (((0 ≤ (IntKind.wrap .i64 ((4 : Int) * x)) ∧ (IntKind.wrap .i64 ((4 : Int) * x)) ≤ ((key_l : Nat) : Int)) ∧ (Calls Tryd.prog N_stream_load #[(.slice (slAddr key_c ((IntKind.wrap .i64 ((4 : Int) * x)).toNat) 1 key_a) (key_l - (IntKind.wrap .i64 ((4 : Int) * x)).toNat) (key_c - (IntKind.wrap .i64 ((4 : Int) * x)).toNat))] w7 fun e_1 w8 =>
      ∃ r : Int, e_1 = .returned (.int .u32 r) ∧
      ((0 ≤ (IntKind.wrap .i64 ((4 : Int) + x)) ∧ (IntKind.wrap .i64 ((4 : Int) + x)) < (16 : Int)) ∧
      ((∃ u, w8.cell? ((nb w).add ((IntKind.wrap .i64 ((4 : Int) + x)).toNat * 1)) = some u) ∧ w8.frozen? ((nb w).add ((IntKind.wrap .i64 ((4 : Int) + x)).toNat * 1)) = false ∧
      (let w9 := w8.setCell ((nb w).add ((IntKind.wrap .i64 ((4 : Int) + x)).toNat * 1)) (.int .u32 r);
      ((I (IntKind.wrap .i64 (x + (1 : Int)))).2 w9 ∧ (I (IntKind.wrap .i64 (x + (1 : Int)))).1 < (I x).1)))))))
      (((∃ u, w7.cell? ((nb w).add 12) = some u) ∧ w7.frozen? ((nb w).add 12) = false ∧
      (let w10 := w7.setCell ((nb w).add 12) (.int .u32 (IntKind.wrap .u32 counter));
      (∃ I1 : Int → Nat × (World → Prop), (I1 (0 : Int)).2 w10 ∧
      (∀ (_junk : Env) (x1 : Int) (w11 : World), (I1 x1).2 w11 →
        (bsplit (decide (x1 < (3 : Int)))
          (((0 ≤ (IntKind.wrap .i64 ((4 : Int) * x1)) ∧ (IntKind.wrap .i64 ((4 : Int) * x1)) ≤ ((nonce_l : Nat) : Int)) ∧ (Calls Tryd.prog N_stream_load #[(.slice (slAddr nonce_c ((IntKind.wrap .i64 ((4 : Int) * x1)).toNat) 1 nonce_a) (nonce_l - (IntKind.wrap .i64 ((4 : Int) * x1)).toNat) (nonce_c - (IntKind.wrap .i64 ((4 : Int) * x1)).toNat))] w11 fun e_2 w12 =>
          ∃ r1 : Int, e_2 = .returned (.int .u32 r1) ∧
          ((0 ≤ (IntKind.wrap .i64 ((13 : Int) + x1)) ∧ (IntKind.wrap .i64 ((13 : Int) + x1)) < (16 : Int)) ∧
          ((∃ u, w12.cell? ((nb w).add ((IntKind.wrap .i64 ((13 : Int) + x1)).toNat * 1)) = some u) ∧ w12.frozen? ((nb w).add ((IntKind.wrap .i64 ((13 : Int) + x1)).toNat * 1)) = false ∧
          (let w13 := w12.setCell ((nb w).add ((IntKind.wrap .i64 ((13 : Int) + x1)).toNat * 1)) (.int .u32 r1);
          ((I1 (IntKind.wrap .i64 (x1 + (1 : Int)))).2 w13 ∧ (I1 (IntKind.wrap .i64 (x1 + (1 : Int)))).1 < (I1 x1).1)))))))
          ((∃ x2 : Array Value, x2.size = 16 ∧ cellsAt w11 (nb w) 0 x2.toList ∧
          (let w14 := w11.alloc (.cells #[.int .u32 (0 : Int), .int .u32 (0 : Int), .int .u32 (0 : Int), .int .u32 (0 : Int), .int .u32 (0 : Int), .int .u32 (0 : Int), .int .u32 (0 : Int), .int .u32 (0 : Int), .int .u32 (0 : Int), .int .u32 (0 : Int), .int .u32 (0 : Int), .int .u32 (0 : Int), .int .u32 (0 : Int), .int .u32 (0 : Int), .int .u32 (0 : Int), .int .u32 (0 : Int)] Ty_16_uint32);
          (bcond (Nat.beq x2.size 16) (sxStore w14 (nb w11) 0 x2.toList fun w15 =>
          (∃ I2 : Int → Nat × (World → Prop), (I2 (0 : Int)).2 w15 ∧
          (∀ (_junk : Env) (x3 : Int) (w16 : World), (I2 x3).2 w16 →
            (bsplit (decide (x3 < (10 : Int)))
              ((∃ x_0 : Int, ∃ x_1 : Int, ∃ x_2 : Int, ∃ x_3 : Int, ∃ x_4 : Int, ∃ x_5 : Int, ∃ x_6 : Int, ∃ x_7 : Int, ∃ x_8 : Int, ∃ x_9 : Int, ∃ x_10 : Int, ∃ x_11 : Int, ∃ x_12 : Int, ∃ x_13 : Int, ∃ x_14 : Int, ∃ x_15 : Int, ∃ x_16 : Int, ∃ x_17 : Int, ∃ x_18 : Int, ∃ x_19 : Int, ∃ x_20 : Int, ∃ x_21 : Int, ∃ x_22 : Int, ∃ x_23 : Int, ∃ x_24 : Int, ∃ x_25 : Int, ∃ x_26 : Int, ∃ x_27 : Int, ∃ x_28 : Int, ∃ x_29 : Int, ∃ x_30 : Int, ∃ x_31 : Int, cellsAt w16 (⟨0, 0, none⟩) 0 [(.int .i64 x_0), (.int .i64 x_1), (.int .i64 x_2), (.int .i64 x_3), (.int .i64 x_4), (.int .i64 x_5), (.int .i64 x_6), (.int .i64 x_7), (.int .i64 x_8), (.int .i64 x_9), (.int .i64 x_10), (.int .i64 x_11), (.int .i64 x_12), (.int .i64 x_13), (.int .i64 x_14), (.int .i64 x_15), (.int .i64 x_16), (.int .i64 x_17), (.int .i64 x_18), (.int .i64 x_19), (.int .i64 x_20), (.int .i64 x_21), (.int .i64 x_22), (.int .i64 x_23), (.int .i64 x_24), (.int .i64 x_25), (.int .i64 x_26), (.int .i64 x_27), (.int .i64 x_28), (.int .i64 x_29), (.int .i64 x_30), (.int .i64 x_31)] ∧
              (∃ I3 : Int → Nat × (World → Prop), (I3 (0 : Int)).2 w16 ∧
              (∀ (_junk : Env) (x4 : Int) (w17 : World), (I3 x4).2 w17 →
                (bsplit (decide (x4 < (8 : Int)))
                  (((0 ≤ x4 ∧ x4 < (8 : Int)) ∧ ∃ x_01 : Int, ∃ x_110 : Int, ∃ x_210 : Int, ∃ x_32 : Int, (#[(.int .i64 x_0), (.int .i64 x_1), (.int .i64 x_2), (.int .i64 x_3), (.int .i64 x_4), (.int .i64 x_5), (.int .i64 x_6), (.int .i64 x_7), (.int .i64 x_8), (.int .i64 x_9), (.int .i64 x_10), (.int .i64 x_11), (.int .i64 x_12), (.int .i64 x_13), (.int .i64 x_14), (.int .i64 x_15), (.int .i64 x_16), (.int .i64 x_17), (.int .i64 x_18), (.int .i64 x_19), (.int .i64 x_20), (.int .i64 x_21), (.int .i64 x_22), (.int .i64 x_23), (.int .i64 x_24), (.int .i64 x_25), (.int .i64 x_26), (.int .i64 x_27), (.int .i64 x_28), (.int .i64 x_29), (.int .i64 x_30), (.int .i64 x_31)] : Array Value).extract (x4.toNat * 4) (x4.toNat * 4 + 4) = #[(.int .i64 x_01), (.int .i64 x_110), (.int .i64 x_210), (.int .i64 x_32)] ∧
                  (let w18 := w17.alloc (.cells #[.int .i64 (0 : Int), .int .i64 (0 : Int), .int .i64 (0 : Int), .int .i64 (0 : Int)] Ty_4_int);
                  (sxStore w18 (nb w17) 0 [(.int .i64 x_01), (.int .i64 x_110), (.int .i64 x_210), (.int .i64 x_32)] fun w19 =>
                  (let w20 := w19.drew;
                  (∃ S : Nat → Prop,
                  (S (nb w17).block ∧
                  (∃ x5 : Int, w20.cell? (nb w17) = some (.int .i64 x5) ∧
                  (S ((nb w17).add 1).block ∧
                  (∃ x6 : Int, w20.cell? ((nb w17).add 1) = some (.int .i64 x6) ∧
                  (S ((nb w17).add 2).block ∧
                  (∃ x7 : Int, w20.cell? ((nb w17).add 2) = some (.int .i64 x7) ∧
                  (S ((nb w17).add 3).block ∧
                  (∃ x8 : Int, w20.cell? ((nb w17).add 3) = some (.int .i64 x8) ∧
                  (S (nb w17).block ∧
                  (∃ x9 : Int, w20.cell? (nb w17) = some (.int .i64 x9) ∧
                  ((0 ≤ x9 ∧ x9 < (16 : Int)) ∧
                  (∃ x10 : Int, w20.cell? ((nb w).add (x9.toNat * 1)) = some (.int .u32 x10) ∧
                  (S ((nb w17).add 1).block ∧
                  (∃ x11 : Int, w20.cell? ((nb w17).add 1) = some (.int .i64 x11) ∧
                  ((0 ≤ x11 ∧ x11 < (16 : Int)) ∧
                  (∃ x12 : Int, w20.cell? ((nb w).add (x11.toNat * 1)) = some (.int .u32 x12) ∧
                  (S ((nb w17).add 2).block ∧
                  (∃ x13 : Int, w20.cell? ((nb w17).add 2) = some (.int .i64 x13) ∧
                  ((0 ≤ x13 ∧ x13 < (16 : Int)) ∧
                  (∃ x14 : Int, w20.cell? ((nb w).add (x13.toNat * 1)) = some (.int .u32 x14) ∧
                  (S ((nb w17).add 3).block ∧
                  (∃ x15 : Int, w20.cell? ((nb w17).add 3) = some (.int .i64 x15) ∧
                  ((0 ≤ x15 ∧ x15 < (16 : Int)) ∧
                  (∃ x16 : Int, w20.cell? ((nb w).add (x15.toNat * 1)) = some (.int .u32 x16) ∧
                  (Calls Tryd.prog N_stream_quarter #[(.int .u32 x10), (.int .u32 x12), (.int .u32 x14), (.int .u32 x16)] w20 fun e_3 w21 =>
                  ∃ r2 : Int, ∃ r3 : Int, ∃ r4 : Int, ∃ r5 : Int, e_3 = .returned (.tuple #[(.int .u32 r2), (.int .u32 r3), (.int .u32 r4), (.int .u32 r5)]) ∧
                  (KeepsB S w20 w21 ∧ ((0 ≤ x5 ∧ x5 < (16 : Int)) ∧
                  ((∃ u, w21.cell? ((nb w).add (x5.toNat * 1)) = some u) ∧ w21.frozen? ((nb w).add (x5.toNat * 1)) = false ∧
                  (let w22 := w21.setCell ((nb w).add (x5.toNat * 1)) (.int .u32 r2);
                  (KeepsB S w20 w22 ∧ ((0 ≤ x6 ∧ x6 < (16 : Int)) ∧
                  ((∃ u, w22.cell? ((nb w).add (x6.toNat * 1)) = some u) ∧ w22.frozen? ((nb w).add (x6.toNat * 1)) = false ∧
                  (let w23 := w22.setCell ((nb w).add (x6.toNat * 1)) (.int .u32 r3);
                  (KeepsB S w20 w23 ∧ ((0 ≤ x7 ∧ x7 < (16 : Int)) ∧
                  ((∃ u, w23.cell? ((nb w).add (x7.toNat * 1)) = some u) ∧ w23.frozen? ((nb w).add (x7.toNat * 1)) = false ∧
                  (let w24 := w23.setCell ((nb w).add (x7.toNat * 1)) (.int .u32 r4);
                  (KeepsB S w20 w24 ∧ ((0 ≤ x8 ∧ x8 < (16 : Int)) ∧
                  ((∃ u, w24.cell? ((nb w).add (x8.toNat * 1)) = some u) ∧ w24.frozen? ((nb w).add (x8.toNat * 1)) = false ∧
                  (let w25 := w24.setCell ((nb w).add (x8.toNat * 1)) (.int .u32 r5);
                  ((I3 (IntKind.wrap .i64 (x4 + (1 : Int)))).2 w25 ∧ (I3 (IntKind.wrap .i64 (x4 + (1 : Int)))).1 < (I3 x4).1))))))))))))))))))))))))))))))))))))))))))))))))
                  (((I2 (IntKind.wrap .i64 (x3 + (1 : Int)))).2 w17 ∧ (I2 (IntKind.wrap .i64 (x3 + (1 : Int)))).1 < (I2 x3).1)))))))
              ((∃ x17 : Array Value, x17.size = 16 ∧ cellsAt w16 (nb w) 0 x17.toList ∧
              (∃ I4 : Option Addr → Nat → Nat → Int → Nat × (World → Prop), (I4 none 0 0 (0 : Int)).2 w16 ∧
              (∀ (_junk : Env) (out_a : Option Addr) (out_l : Nat) (out_c : Nat) (x18 : Int) (w26 : World), (I4 out_a out_l out_c x18).2 w26 →
                (bsplit (decide (x18 < (16 : Int)))
                  (((0 ≤ x18 ∧ x18 < (16 : Int)) ∧ ∃ x19 : Int, x17[x18.toNat * 1]? = some (.int .u32 x19) ∧
                  ((0 ≤ x18 ∧ x18 < (16 : Int)) ∧
                  (∃ x20 : Int, w26.cell? ((nb w11).add (x18.toNat * 1)) = some (.int .u32 x20) ∧
                  (Calls Tryd.prog N_stream_store #[(.slice out_a out_l out_c), (.int .u32 (IntKind.wrap .u32 (x19 + x20)))] w26 fun e_4 w27 =>
                  ∃ r_a : Option Addr, ∃ r_l : Nat, ∃ r_c : Nat, e_4 = .returned (.slice r_a r_l r_c) ∧
                  ((I4 r_a r_l r_c (IntKind.wrap .i64 (x18 + (1 : Int)))).2 w27 ∧ (I4 r_a r_l r_c (IntKind.wrap .i64 (x18 + (1 : Int)))).1 < (I4 out_a out_l out_c x18).1))))))
                  (R (.slice out_a out_l out_c) w26)))))))))))))))))))))))))))))
theorem F_stream_block_eq (key_a : Option Addr) (key_l : Nat) (key_c : Nat) (counter : Int) (nonce_a : Option Addr) (nonce_l : Nat) (nonce_c : Nat) (w : World) (R : Value → World → Prop) : sxFn Tryd.prog TT h_stream_block Tryd.f20 #[(.slice key_a key_l key_c), (.int .i64 counter), (.slice nonce_a nonce_l nonce_c)] w R = F_stream_block key_a key_l key_c counter nonce_a nonce_l nonce_c w R := by kernel_rfl
theorem F_stream_block_ok {R : Ending → World → Prop} (key_a : Option Addr) (key_l : Nat) (key_c : Nat) (counter : Int) (nonce_a : Option Addr) (nonce_l : Nat) (nonce_c : Nat) (w : World) (h : F_stream_block key_a key_l key_c counter nonce_a nonce_l nonce_c w fun v w' => R (.returned v) w') : Calls Tryd.prog N_stream_block #[(.slice key_a key_l key_c), (.int .i64 counter), (.slice nonce_a nonce_l nonce_c)] w R :=
  calls_of (f := 20) follows_ok Tryd.func20 (Eq.mpr (F_stream_block_eq key_a key_l key_c counter nonce_a nonce_l nonce_c w _) h)

def h_ref13_word : H := (.seq .reg (.seq (.draw false (.one 0 .stable (.one 1 .stable (.one 2 .stable (.one 3 .stable (.one 4 .stable (.one 5 .stable (.one 6 .stable (.one 7 .stable (.one 8 .stable (.one 9 .stable (.one 10 .stable (.one 11 .stable (.one 12 .stable (.one 13 .stable (.one 14 .stable (.one 15 .stable (.one 16 .stable (.one 17 .stable (.one 18 .stable (.one 19 .stable (.one 20 .stable (.one 21 .stable (.one 22 .stable .nil)))))))))))))))))))))))) .leaf))
def F_ref13_word (b_a : Option Addr) (b_l : Nat) (b_c : Nat) (w : World) (R : Value → World → Prop) : Prop :=
  (let w1 := w.drew;
  (∃ b : Addr, b_a = some b ∧ (0 ≤ (0 : Int) ∧ (0 : Int) < (b_l : Int)) ∧
  (∃ x : Int, w1.cell? (b.add ((0 : Int).toNat * 1)) = some (.int .u8 x) ∧
  (∃ b1 : Addr, b_a = some b1 ∧ (0 ≤ (1 : Int) ∧ (1 : Int) < (b_l : Int)) ∧
  (∃ x1 : Int, w1.cell? (b1.add ((1 : Int).toNat * 1)) = some (.int .u8 x1) ∧
  (∃ b2 : Addr, b_a = some b2 ∧ (0 ≤ (2 : Int) ∧ (2 : Int) < (b_l : Int)) ∧
  (∃ x2 : Int, w1.cell? (b2.add ((2 : Int).toNat * 1)) = some (.int .u8 x2) ∧
  (∃ b3 : Addr, b_a = some b3 ∧ (0 ≤ (3 : Int) ∧ (3 : Int) < (b_l : Int)) ∧
  (∃ x3 : Int, w1.cell? (b3.add ((3 : Int).toNat * 1)) = some (.int .u8 x3) ∧
  (let x4 := (bOr .u32 (bOr .u32 (bOr .u32 (IntKind.wrap .u32 x) (IntKind.wrap .u32 ((IntKind.wrap .u32 x1) * 2 ^ 8))) (IntKind.wrap .u32 ((IntKind.wrap .u32 x2) * 2 ^ 16))) (IntKind.wrap .u32 ((IntKind.wrap .u32 x3) * 2 ^ 24)));
  R (.int .u32 x4) w1))))))))))
theorem F_ref13_word_eq (b_a : Option Addr) (b_l : Nat) (b_c : Nat) (w : World) (R : Value → World → Prop) : sxFn Tryd.prog TT h_ref13_word Tryd.f21 #[(.slice b_a b_l b_c)] w R = F_ref13_word b_a b_l b_c w R := by kernel_rfl
theorem F_ref13_word_ok {R : Ending → World → Prop} (b_a : Option Addr) (b_l : Nat) (b_c : Nat) (w : World) (h : F_ref13_word b_a b_l b_c w fun v w' => R (.returned v) w') : Calls Tryd.prog N_ref13_word #[(.slice b_a b_l b_c)] w R :=
  calls_of (f := 21) follows_ok Tryd.func21 (Eq.mpr (F_ref13_word_eq b_a b_l b_c w _) h)

def h_ref13_quarter : H := (.seq .reg (.seq .reg (.seq .reg (.seq .reg (.seq .reg (.seq .reg (.seq .reg (.seq .reg (.seq .reg (.seq .reg .leaf))))))))))
def F_ref13_quarter (a : Int) (b : Int) (c : Int) (d : Int) (w : World) (R : Value → World → Prop) : Prop :=
  (let a1 := (IntKind.wrap .u32 (a + b));
  (Calls Tryd.prog N_ref13_turn #[(.int .u32 (bXor .u32 d a1)), (.int .u64 (16 : Int))] w fun e_ w1 =>
  ∃ r : Int, e_ = .returned (.int .u32 r) ∧
  (let c1 := (IntKind.wrap .u32 (c + r));
  (Calls Tryd.prog N_ref13_turn #[(.int .u32 (bXor .u32 b c1)), (.int .u64 (12 : Int))] w1 fun e_1 w2 =>
  ∃ r1 : Int, e_1 = .returned (.int .u32 r1) ∧
  (let a2 := (IntKind.wrap .u32 (a1 + r1));
  (Calls Tryd.prog N_ref13_turn #[(.int .u32 (bXor .u32 r a2)), (.int .u64 (8 : Int))] w2 fun e_2 w3 =>
  ∃ r2 : Int, e_2 = .returned (.int .u32 r2) ∧
  (let c2 := (IntKind.wrap .u32 (c1 + r2));
  (Calls Tryd.prog N_ref13_turn #[(.int .u32 (bXor .u32 r1 c2)), (.int .u64 (7 : Int))] w3 fun e_3 w4 =>
  ∃ r3 : Int, e_3 = .returned (.int .u32 r3) ∧
  R (.tuple #[(.int .u32 a2), (.int .u32 r3), (.int .u32 c2), (.int .u32 r2)]) w4))))))))
theorem F_ref13_quarter_eq (a : Int) (b : Int) (c : Int) (d : Int) (w : World) (R : Value → World → Prop) : sxFn Tryd.prog TT h_ref13_quarter Tryd.f22 #[(.int .u32 a), (.int .u32 b), (.int .u32 c), (.int .u32 d)] w R = F_ref13_quarter a b c d w R := by kernel_rfl
theorem F_ref13_quarter_ok {R : Ending → World → Prop} (a : Int) (b : Int) (c : Int) (d : Int) (w : World) (h : F_ref13_quarter a b c d w fun v w' => R (.returned v) w') : Calls Tryd.prog N_ref13_quarter #[(.int .u32 a), (.int .u32 b), (.int .u32 c), (.int .u32 d)] w R :=
  calls_of (f := 22) follows_ok Tryd.func22 (Eq.mpr (F_ref13_quarter_eq a b c d w _) h)

def h_math_bits_RotateLeft32 : H := (.seq .reg (.seq .reg (.seq .reg .leaf)))
def F_math_bits_RotateLeft32 (x : Int) (k : Int) (w : World) (R : Value → World → Prop) : Prop :=
  (let s := (bAnd .u64 (IntKind.wrap .u64 k) (31 : Int));
  (0 ≤ s ∧ (0 ≤ (IntKind.wrap .u64 ((32 : Int) - s)) ∧ (let x1 := (bOr .u32 (IntKind.wrap .u32 (x * 2 ^ (min s.toNat (IntKind.bits .u32)))) (Int.fdiv x (2 ^ (min (IntKind.wrap .u64 ((32 : Int) - s)).toNat (IntKind.bits .u32)))));
  R (.int .u32 x1) w))))
theorem F_math_bits_RotateLeft32_eq (x : Int) (k : Int) (w : World) (R : Value → World → Prop) : sxFn Tryd.prog TT h_math_bits_RotateLeft32 Tryd.f23 #[(.int .u32 x), (.int .i64 k)] w R = F_math_bits_RotateLeft32 x k w R := by kernel_rfl
theorem F_math_bits_RotateLeft32_ok {R : Ending → World → Prop} (x : Int) (k : Int) (w : World) (h : F_math_bits_RotateLeft32 x k w fun v w' => R (.returned v) w') : Calls Tryd.prog N_math_bits_RotateLeft32 #[(.int .u32 x), (.int .i64 k)] w R :=
  calls_of (f := 23) follows_ok Tryd.func23 (Eq.mpr (F_math_bits_RotateLeft32_eq x k w _) h)

def h_stream_first : H := (.seq .reg (.seq .reg .leaf))
def F_stream_first  (w : World) (R : Value → World → Prop) : Prop :=
  (let w1 := w.alloc (.cells #[.int .u32 (0 : Int), .int .u32 (0 : Int), .int .u32 (0 : Int), .int .u32 (0 : Int)] Ty_4_uint32);
  (sxStore w1 (nb w) 0 [(.int .u32 (1634760805 : Int)), (.int .u32 (857760878 : Int)), (.int .u32 (2036477234 : Int)), (.int .u32 (1797285236 : Int))] fun w2 =>
  (∃ r_0 : Int, ∃ r_1 : Int, ∃ r_2 : Int, ∃ r_3 : Int, cellsAt w2 (nb w) 0 [(.int .u32 r_0), (.int .u32 r_1), (.int .u32 r_2), (.int .u32 r_3)] ∧
  R (.agg #[.int .u32 r_0, .int .u32 r_1, .int .u32 r_2, .int .u32 r_3]) w2)))
theorem F_stream_first_eq  (w : World) (R : Value → World → Prop) : sxFn Tryd.prog TT h_stream_first Tryd.f24 #[] w R = F_stream_first  w R := by kernel_rfl
theorem F_stream_first_ok {R : Ending → World → Prop}  (w : World) (h : F_stream_first  w fun v w' => R (.returned v) w') : Calls Tryd.prog N_stream_first #[] w R :=
  calls_of (f := 24) follows_ok Tryd.func24 (Eq.mpr (F_stream_first_eq  w _) h)

def h_stream_load : H := (.seq .reg (.seq (.draw false (.one 0 .stable (.one 1 .stable (.one 2 .stable (.one 3 .stable (.one 4 .stable (.one 5 .stable (.one 6 .stable (.one 7 .stable (.one 8 .stable (.one 9 .stable (.one 10 .stable (.one 11 .stable (.one 12 .stable (.one 13 .stable (.one 14 .stable (.one 15 .stable (.one 16 .stable (.one 17 .stable (.one 18 .stable (.one 19 .stable (.one 20 .stable (.one 21 .stable (.one 22 .stable .nil)))))))))))))))))))))))) .leaf))
def F_stream_load (b_a : Option Addr) (b_l : Nat) (b_c : Nat) (w : World) (R : Value → World → Prop) : Prop :=
  (let w1 := w.drew;
  (∃ b : Addr, b_a = some b ∧ (0 ≤ (0 : Int) ∧ (0 : Int) < (b_l : Int)) ∧
  (∃ x : Int, w1.cell? (b.add ((0 : Int).toNat * 1)) = some (.int .u8 x) ∧
  (∃ b1 : Addr, b_a = some b1 ∧ (0 ≤ (1 : Int) ∧ (1 : Int) < (b_l : Int)) ∧
  (∃ x1 : Int, w1.cell? (b1.add ((1 : Int).toNat * 1)) = some (.int .u8 x1) ∧
  (∃ b2 : Addr, b_a = some b2 ∧ (0 ≤ (2 : Int) ∧ (2 : Int) < (b_l : Int)) ∧
  (∃ x2 : Int, w1.cell? (b2.add ((2 : Int).toNat * 1)) = some (.int .u8 x2) ∧
  (∃ b3 : Addr, b_a = some b3 ∧ (0 ≤ (3 : Int) ∧ (3 : Int) < (b_l : Int)) ∧
  (∃ x3 : Int, w1.cell? (b3.add ((3 : Int).toNat * 1)) = some (.int .u8 x3) ∧
  (let x4 := (bOr .u32 (bOr .u32 (bOr .u32 (IntKind.wrap .u32 x) (IntKind.wrap .u32 ((IntKind.wrap .u32 x1) * 2 ^ 8))) (IntKind.wrap .u32 ((IntKind.wrap .u32 x2) * 2 ^ 16))) (IntKind.wrap .u32 ((IntKind.wrap .u32 x3) * 2 ^ 24)));
  R (.int .u32 x4) w1))))))))))
theorem F_stream_load_eq (b_a : Option Addr) (b_l : Nat) (b_c : Nat) (w : World) (R : Value → World → Prop) : sxFn Tryd.prog TT h_stream_load Tryd.f25 #[(.slice b_a b_l b_c)] w R = F_stream_load b_a b_l b_c w R := by kernel_rfl
theorem F_stream_load_ok {R : Ending → World → Prop} (b_a : Option Addr) (b_l : Nat) (b_c : Nat) (w : World) (h : F_stream_load b_a b_l b_c w fun v w' => R (.returned v) w') : Calls Tryd.prog N_stream_load #[(.slice b_a b_l b_c)] w R :=
  calls_of (f := 25) follows_ok Tryd.func25 (Eq.mpr (F_stream_load_eq b_a b_l b_c w _) h)

def h_stream_store : H := (.seq .reg (.seq .reg .leaf))
def F_stream_store (b_a : Option Addr) (b_l : Nat) (b_c : Nat) (w1 : Int) (w : World) (R : Value → World → Prop) : Prop :=
  (let w2 := w.alloc (.cells #[(.int .u8 (IntKind.wrap .u8 w1)), (.int .u8 (IntKind.wrap .u8 (Int.fdiv w1 (2 ^ 8)))), (.int .u8 (IntKind.wrap .u8 (Int.fdiv w1 (2 ^ 16)))), (.int .u8 (IntKind.wrap .u8 (Int.fdiv w1 (2 ^ 24))))] Ty_uint8);
  (AppP Tryd.prog #[Ty_S_uint8, Ty_S_uint8] Ty_S_uint8 #[(.slice b_a b_l b_c), (.slice (some (nb w)) 4 4)] w2 fun x_a x_l x_c w3 =>
  R (.slice x_a x_l x_c) w3))
theorem F_stream_store_eq (b_a : Option Addr) (b_l : Nat) (b_c : Nat) (w1 : Int) (w : World) (R : Value → World → Prop) : sxFn Tryd.prog TT h_stream_store Tryd.f26 #[(.slice b_a b_l b_c), (.int .u32 w1)] w R = F_stream_store b_a b_l b_c w1 w R := by kernel_rfl
theorem F_stream_store_ok {R : Ending → World → Prop} (b_a : Option Addr) (b_l : Nat) (b_c : Nat) (w1 : Int) (w : World) (h : F_stream_store b_a b_l b_c w1 w fun v w' => R (.returned v) w') : Calls Tryd.prog N_stream_store #[(.slice b_a b_l b_c), (.int .u32 w1)] w R :=
  calls_of (f := 26) follows_ok Tryd.func26 (Eq.mpr (F_stream_store_eq b_a b_l b_c w1 w _) h)

def h_ref13_turn : H := (.seq .reg (.seq .reg .leaf))
def F_ref13_turn (x : Int) (n : Int) (w : World) (R : Value → World → Prop) : Prop :=
  (0 ≤ n ∧ (0 ≤ (IntKind.wrap .u64 ((32 : Int) - n)) ∧ (let x1 := (bOr .u32 (IntKind.wrap .u32 (x * 2 ^ (min n.toNat (IntKind.bits .u32)))) (Int.fdiv x (2 ^ (min (IntKind.wrap .u64 ((32 : Int) - n)).toNat (IntKind.bits .u32)))));
  R (.int .u32 x1) w)))
theorem F_ref13_turn_eq (x : Int) (n : Int) (w : World) (R : Value → World → Prop) : sxFn Tryd.prog TT h_ref13_turn Tryd.f27 #[(.int .u32 x), (.int .u64 n)] w R = F_ref13_turn x n w R := by kernel_rfl
theorem F_ref13_turn_ok {R : Ending → World → Prop} (x : Int) (n : Int) (w : World) (h : F_ref13_turn x n w fun v w' => R (.returned v) w') : Calls Tryd.prog N_ref13_turn #[(.int .u32 x), (.int .u64 n)] w R :=
  calls_of (f := 27) follows_ok Tryd.func27 (Eq.mpr (F_ref13_turn_eq x n w _) h)

def h_gosem_cut_vars : H := .reg
def F_gosem_cut_vars  (w : World) (R : Value → World → Prop) : Prop :=
  (sxStore w (⟨0, 0, none⟩) 0 [(.int .i64 (0 : Int)), (.int .i64 (4 : Int)), (.int .i64 (8 : Int)), (.int .i64 (12 : Int)), (.int .i64 (1 : Int)), (.int .i64 (5 : Int)), (.int .i64 (9 : Int)), (.int .i64 (13 : Int)), (.int .i64 (2 : Int)), (.int .i64 (6 : Int)), (.int .i64 (10 : Int)), (.int .i64 (14 : Int)), (.int .i64 (3 : Int)), (.int .i64 (7 : Int)), (.int .i64 (11 : Int)), (.int .i64 (15 : Int)), (.int .i64 (0 : Int)), (.int .i64 (5 : Int)), (.int .i64 (10 : Int)), (.int .i64 (15 : Int)), (.int .i64 (1 : Int)), (.int .i64 (6 : Int)), (.int .i64 (11 : Int)), (.int .i64 (12 : Int)), (.int .i64 (2 : Int)), (.int .i64 (7 : Int)), (.int .i64 (8 : Int)), (.int .i64 (13 : Int)), (.int .i64 (3 : Int)), (.int .i64 (4 : Int)), (.int .i64 (9 : Int)), (.int .i64 (14 : Int))] fun w1 =>
  R (.tuple #[]) w1)
theorem F_gosem_cut_vars_eq  (w : World) (R : Value → World → Prop) : sxFn Tryd.prog TT h_gosem_cut_vars Tryd.f47 #[] w R = F_gosem_cut_vars  w R := by kernel_rfl
theorem F_gosem_cut_vars_ok {R : Ending → World → Prop}  (w : World) (h : F_gosem_cut_vars  w fun v w' => R (.returned v) w') : Calls Tryd.prog N_gosem_cut_vars #[] w R :=
  calls_of (f := 47) follows_ok Tryd.func47 (Eq.mpr (F_gosem_cut_vars_eq  w _) h)

end Go.Proofs.YtblfbanfepocnaaDoor
