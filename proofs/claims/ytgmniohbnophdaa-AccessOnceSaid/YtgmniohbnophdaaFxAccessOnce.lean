import Derived.Test.YtgmniohbnophdaaBase
import Derived.KernelRfl
namespace Go.Proofs.Ytgmniohbnophdaa
open Go.Sx Go.RowKit
set_option maxRecDepth 100000

def h_law38_AccessOnce : H := (.seq .reg (.seq .reg (.seq .reg (.seq .reg (.seq (.seq .reg (.block (.loop [(12, .p (.int .i64))] [8, 12, 13, 14, 15, 16, 43, 44, 45, 46, 47, 48, 49, 50, 51, 52, 53, 54, 55, 56, 57, 58, 59, 60, 61, 62, 63, 64, 65, 66, 67, 68, 69, 70, 71, 72, 73, 74, 75, 76, 77, 78] (.seq (.seq .reg (.cond .leaf .leaf)) (.seq (.block (.cut [(13, .p .addr), (14, .p (.int .i64))] [13, 14, 48, 49, 50, 51, 52, 53, 54, 55, 56, 57] (.draw .blk (.one 0 .stable (.one 1 .pur (.one 2 .pur (.one 3 .pur (.one 4 .stable (.one 5 .pur (.alt 6 (.one 7 .pur (.one 8 .pur (.one 9 .pur (.one 10 .keep (.one 11 .last (.one 12 .pur .nil)))))) (.alt 10 (.one 6 .keep (.one 7 .pur (.one 8 .pur (.one 9 .pur (.one 11 .last (.one 12 .pur .nil)))))) .endAlt))))))))) (.seq (.seq .reg (.seq .reg (.cond (.seq .reg .leaf) .leaf))) (.seq .reg .reg)))) .reg))))) (.seq (.seq .reg (.block (.loop [(17, .p (.int .i64))] [8, 17, 18, 19, 20, 21, 22, 23, 24, 25, 79, 80, 81, 82, 83, 84, 85, 86, 87, 88, 89, 90, 91, 92, 93, 94, 95, 96, 97, 98, 99, 100, 101, 102, 103, 104, 105, 106, 107, 108, 109, 110, 111, 112, 113, 114, 115, 116, 117, 118, 119, 120, 121, 122, 123, 124, 125, 126, 127, 128, 129, 130, 131, 132, 133, 134, 135, 136, 137, 138, 139, 140, 141, 142, 143, 144, 145, 146, 147, 148, 149, 150, 151, 152, 153, 154, 155, 156, 157] (.seq (.seq .reg (.cond .leaf .leaf)) (.seq (.block (.seq .reg (.seq (.seq .reg (.block (.loop [(18, .p (.int .i64)), (19, .p (.int .i64))] [18, 19, 86, 87, 88, 89, 90, 91, 92, 93, 94, 95, 96, 97, 98, 99, 100, 101, 102] (.seq (.seq .reg (.cond .leaf .leaf)) (.seq (.block (.seq .reg (.cond .reg .leaf))) .reg))))) (.seq .reg (.cut [] [8, 111, 112, 113, 114, 115, 116, 117, 118, 119, 120, 121, 122, 123, 124, 125, 126, 127, 128, 129, 130] (.seq .reg (.cond (.seq .reg .leaf) .leaf)) (.seq (.seq .reg (.block (.loop [(24, .p (.int .i64))] [24, 131, 132, 133, 134, 135, 136, 137, 138, 139, 140, 141, 142, 143] (.seq (.seq .reg (.cond .leaf .leaf)) (.seq (.block .reg) .reg))))) (.seq (.seq .reg (.block (.loop [(25, .p (.int .i64))] [25, 144, 145, 146, 147, 148, 149, 150, 151, 152, 153, 154, 155, 156] (.seq (.seq .reg (.cond .leaf .leaf)) (.seq (.block .reg) .reg))))) .reg))))))) .reg))))) (.seq (.seq .reg (.block (.loop [(26, .p (.int .i64))] [8, 26, 158, 159, 160, 161, 162, 163, 164, 165, 166, 167, 168, 169, 170] (.seq (.seq .reg (.cond .leaf .leaf)) (.seq (.block (.seq .reg (.cond (.seq .reg .leaf) .leaf))) .reg))))) (.seq .reg .leaf))))))))
def F_law38_AccessOnce (ids_a : Option Addr) (ids_l : Nat) (_ : Nat) (preambles : Int) (tries : Int) (backoff : Int) (w : World) (R : Value → World → Prop) : Prop :=
  (kW .i64 (preambles) fun x =>
  (kLet (Int.tmod x (8 : Int)) fun x1 =>
  (kW .i64 ((1 : Int) + x1) fun x2 =>
  (kW .i64 (tries) fun x3 =>
  (kLet (Int.tmod x3 (6 : Int)) fun x4 =>
  (kW .i64 ((1 : Int) + x4) fun x5 =>
  (kW .i64 (backoff) fun x6 =>
  (kLet (Int.tmod x6 (20 : Int)) fun x7 =>
  (kAlloc w #[.int .i64 (0 : Int), .int .i64 (0 : Int), .int .i64 (0 : Int), .slice none 0 0] Ty_api_Access fun b w1 =>
  (sxStore w1 ⟨b, 0, none⟩ 0 [(.int .i64 x2), (.int .i64 x5), (.int .i64 x7), (.slice none 0 0)] fun w2 =>
  (kMkMap w2 fun m w3 =>
  (kLet (if (12 : Int) < (ids_l : Int) then (12 : Int) else (ids_l : Int)) fun n =>
  (∃ I : Int → Nat × (World → Prop), (I (0 : Int)).2 w3 ∧
  (∀ (_junk : Env) (i : Int) (w4 : World), (I i).2 w4 →
    (bsplit (decide (i < n))
      ((∃ J : Addr → Int → World → Prop,
      (∀ (_junk : Env) (x10 : Addr) (e1 : Int) (w12 : World), J x10 e1 w12 →
        (kIx ids_a ids_l i fun b4 =>
        (kLd w12 (b4.add (i.toNat * 1)) .u8 fun x11 =>
        (kW .i64 (x11) fun x12 =>
        (kLook w12 m x12 fun _ ok =>
        (bsplit (!(ok == (decide (e1 = (12 : Int)))))
          (R (.bool false) w12)
          ((kIx ids_a ids_l i fun b5 =>
          (kLd w12 (b5.add (i.toNat * 1)) .u8 fun x14 =>
          (kW .i64 (x14) fun x15 =>
          (kMapSet w12 m x15 (0 : Int) fun w13 =>
          (∃ x_01 x_11 x_21 : Int, ∃ x_3_a1 : Option Addr, ∃ x_3_l1 x_3_c1 : Nat, cellsAt w13 x10 0 [(.int .i64 x_01), (.int .i64 x_11), (.int .i64 x_21), (.slice x_3_a1 x_3_l1 x_3_c1)] ∧
          (sxStore w13 ⟨b, 0, none⟩ 0 [(.int .i64 x_01), (.int .i64 x_11), (.int .i64 x_21), (.slice x_3_a1 x_3_l1 x_3_c1)] fun w14 =>
          (kW .i64 (i + (1 : Int)) fun x16 =>
          ((I x16).2 w14 ∧ (I x16).1 < (I i).1))))))))))))))) ∧
      (kDrew w4 fun w5 =>
      (∃ S : Nat → Prop,
      (S b ∧
      (∃ x_0 x_1 x_2 : Int, ∃ x_3_a : Option Addr, ∃ x_3_l x_3_c : Nat, cellsAt w5 ⟨b, 0, none⟩ 0 [(.int .i64 x_0), (.int .i64 x_1), (.int .i64 x_2), (.slice x_3_a x_3_l x_3_c)] ∧
      (kIx ids_a ids_l i fun b1 =>
      (S (b1.add (i.toNat * 1)).block ∧
      (kLd w5 (b1.add (i.toNat * 1)) .u8 fun x8 =>
      (kW .i64 (x8) fun x9 =>
      ((Calls Try.prog N_access_Begin #[(.agg #[.int .i64 x_0, .int .i64 x_1, .int .i64 x_2, .slice x_3_a x_3_l x_3_c]), (.int .i64 x9), (.int .i64 (0 : Int))] w5 fun e_1 w9 =>
      ∃ r_01 r_11 r_21 : Int, ∃ r_3_a1 : Option Addr, ∃ r_3_l1 r_3_c1 : Nat, ∃ r1 : Int, e_1 = .returned (.tuple #[(.agg #[.int .i64 r_01, .int .i64 r_11, .int .i64 r_21, .slice r_3_a1 r_3_l1 r_3_c1]), (.int .i64 r1)]) ∧
      (KeepsB S w5 w9 ∧ (kAlloc w9 #[.int .i64 (0 : Int), .int .i64 (0 : Int), .int .i64 (0 : Int), .slice none 0 0] Ty_api_Access fun b3 w10 =>
      (KeepsB S w5 w10 ∧ (sxStore w10 ⟨b3, 0, none⟩ 0 [(.int .i64 r_01), (.int .i64 r_11), (.int .i64 r_21), (.slice r_3_a1 r_3_l1 r_3_c1)] fun w11 =>
      J ⟨b3, 0, none⟩ r1 w11))))) ∧
      ((kAlloc w5 #[.int .i64 (0 : Int), .int .i64 (0 : Int), .int .i64 (0 : Int), .slice none 0 0] Ty_api_Access fun b2 w6 =>
      (KeepsB S w5 w6 ∧ (Calls Try.prog N_access_Begin #[(.agg #[.int .i64 x_0, .int .i64 x_1, .int .i64 x_2, .slice x_3_a x_3_l x_3_c]), (.int .i64 x9), (.int .i64 (0 : Int))] w6 fun e_ w7 =>
      ∃ r_0 r_1 r_2 : Int, ∃ r_3_a : Option Addr, ∃ r_3_l r_3_c : Nat, ∃ r : Int, e_ = .returned (.tuple #[(.agg #[.int .i64 r_0, .int .i64 r_1, .int .i64 r_2, .slice r_3_a r_3_l r_3_c]), (.int .i64 r)]) ∧
      (KeepsB S w5 w7 ∧ (sxStore w7 ⟨b2, 0, none⟩ 0 [(.int .i64 r_0), (.int .i64 r_1), (.int .i64 r_2), (.slice r_3_a r_3_l r_3_c)] fun w8 =>
      J ⟨b2, 0, none⟩ r w8))))) ∧
      True))))))))))))
      ((∃ I1 : Int → Nat × (World → Prop), (I1 (0 : Int)).2 w4 ∧
      (∀ (_junk : Env) (t : Int) (w15 : World), (I1 t).2 w15 →
        (kLd w15 ⟨b, 1, none⟩ .i64 fun x17 =>
        (kW .i64 ((30 : Int) * x17) fun x18 =>
        (bsplit (decide (t < x18))
          ((∃ I2 : Int → Int → Nat × (World → Prop), (I2 (0 : Int) (0 : Int)).2 w15 ∧
          (∀ (_junk : Env) (due : Int) (i1 : Int) (w16 : World), (I2 due i1).2 w16 →
            (kLdS w16 ⟨b, 3, none⟩ fun _ x_l _ =>
            (bsplit (decide (i1 < (x_l : Int)))
              ((kLdS w16 ⟨b, 3, none⟩ fun x_a1 x_l1 _ =>
              (kIx x_a1 x_l1 i1 fun b6 =>
              (kLd w16 ((b6.add (i1.toNat * 4)).add 2) .i64 fun x19 =>
              (bsplit (decide (x19 ≤ t))
                ((kW .i64 (due + (1 : Int)) fun x20 =>
                (kW .i64 (i1 + (1 : Int)) fun x21 =>
                ((I2 x20 x21).2 w16 ∧ (I2 x20 x21).1 < (I2 due i1).1))))
                ((kW .i64 (i1 + (1 : Int)) fun x22 =>
                ((I2 due x22).2 w16 ∧ (I2 due x22).1 < (I2 due i1).1))))))))
              ((∃ x_02 x_12 x_22 : Int, ∃ x_3_a2 : Option Addr, ∃ x_3_l2 x_3_c2 : Nat, cellsAt w16 ⟨b, 0, none⟩ 0 [(.int .i64 x_02), (.int .i64 x_12), (.int .i64 x_22), (.slice x_3_a2 x_3_l2 x_3_c2)] ∧
              (Calls Try.prog N_access_Tick #[(.agg #[.int .i64 x_02, .int .i64 x_12, .int .i64 x_22, .slice x_3_a2 x_3_l2 x_3_c2]), (.int .i64 t)] w16 fun e_2 w17 =>
              ∃ r_02 r_12 r_22 : Int, ∃ r_3_a2 : Option Addr, ∃ r_3_l2 r_3_c2 : Nat, ∃ r_a : Option Addr, ∃ r_l r_c : Nat, ∃ r_a1 : Option Addr, ∃ r_l1 r_c1 : Nat, ∃ r2 : Int, e_2 = .returned (.tuple #[(.agg #[.int .i64 r_02, .int .i64 r_12, .int .i64 r_22, .slice r_3_a2 r_3_l2 r_3_c2]), (.slice r_a r_l r_c), (.slice r_a1 r_l1 r_c1), (.int .i64 r2)]) ∧
              (kAlloc w17 #[.int .i64 (0 : Int), .int .i64 (0 : Int), .int .i64 (0 : Int), .slice none 0 0] Ty_api_Access fun b7 w18 =>
              (sxStore w18 ⟨b7, 0, none⟩ 0 [(.int .i64 r_02), (.int .i64 r_12), (.int .i64 r_22), (.slice r_3_a2 r_3_l2 r_3_c2)] fun w19 =>
              (∃ J1 : World → Prop,
              (∀ (_junk : Env)  (w20 : World), J1 w20 →
                (∃ I3 : Int → Nat × (World → Prop), (I3 (0 : Int)).2 w20 ∧
                (∀ (_junk : Env) (i2 : Int) (w21 : World), (I3 i2).2 w21 →
                  (bsplit (decide (i2 < (r_l : Int)))
                    ((kIx r_a r_l i2 fun b8 =>
                    (kLd w21 (b8.add (i2.toNat * 1)) .i64 fun x25 =>
                    (kLook w21 m x25 fun x26 _ =>
                    (kW .i64 (x26 + (1 : Int)) fun x27 =>
                    (kMapSet w21 m x25 x27 fun w22 =>
                    (kW .i64 (i2 + (1 : Int)) fun x28 =>
                    ((I3 x28).2 w22 ∧ (I3 x28).1 < (I3 i2).1))))))))
                    ((∃ I4 : Int → Nat × (World → Prop), (I4 (0 : Int)).2 w21 ∧
                    (∀ (_junk : Env) (i3 : Int) (w23 : World), (I4 i3).2 w23 →
                      (bsplit (decide (i3 < (r_l1 : Int)))
                        ((kIx r_a1 r_l1 i3 fun b9 =>
                        (kLd w23 (b9.add (i3.toNat * 1)) .i64 fun x29 =>
                        (kLook w23 m x29 fun x30 _ =>
                        (kW .i64 (x30 + (1 : Int)) fun x31 =>
                        (kMapSet w23 m x29 x31 fun w24 =>
                        (kW .i64 (i3 + (1 : Int)) fun x32 =>
                        ((I4 x32).2 w24 ∧ (I4 x32).1 < (I4 i3).1))))))))
                        ((∃ x_03 x_13 x_23 : Int, ∃ x_3_a3 : Option Addr, ∃ x_3_l3 x_3_c3 : Nat, cellsAt w23 ⟨b7, 0, none⟩ 0 [(.int .i64 x_03), (.int .i64 x_13), (.int .i64 x_23), (.slice x_3_a3 x_3_l3 x_3_c3)] ∧
                        (sxStore w23 ⟨b, 0, none⟩ 0 [(.int .i64 x_03), (.int .i64 x_13), (.int .i64 x_23), (.slice x_3_a3 x_3_l3 x_3_c3)] fun w25 =>
                        (kW .i64 (t + (1 : Int)) fun x33 =>
                        ((I1 x33).2 w25 ∧ (I1 x33).1 < (I1 t).1))))))))))))) ∧
              (bsplit (!decide (r2 = (0 : Int)))
                (R (.bool false) w19)
                ((bsplit (decide (due = (1 : Int)))
                  ((bsplit (!decide ((r_l : Int) = (1 : Int)))
                    (R (.bool false) w19)
                    ((kW .i64 ((r_l : Int) + (r_l1 : Int)) fun x23 =>
                    (bsplit (decide (x23 > due))
                      (R (.bool false) w19)
                      (J1 w19))))))
                  ((kW .i64 ((r_l : Int) + (r_l1 : Int)) fun x24 =>
                  (bsplit (decide (x24 > due))
                    (R (.bool false) w19)
                    (J1 w19))))))))))))))))))
          ((∃ I5 : Int → Nat × (World → Prop), (I5 (0 : Int)).2 w15 ∧
          (∀ (_junk : Env) (i4 : Int) (w26 : World), (I5 i4).2 w26 →
            (bsplit (decide (i4 < n))
              ((kIx ids_a ids_l i4 fun b10 =>
              (kLd w26 (b10.add (i4.toNat * 1)) .u8 fun x34 =>
              (kW .i64 (x34) fun x35 =>
              (kLook w26 m x35 fun x36 _ =>
              (bsplit (!decide (x36 = (1 : Int)))
                (R (.bool false) w26)
                ((kW .i64 (i4 + (1 : Int)) fun x37 =>
                ((I5 x37).2 w26 ∧ (I5 x37).1 < (I5 i4).1)))))))))
              ((kLdS w26 ⟨b, 3, none⟩ fun _ x_l2 _ =>
              (bsplit (decide ((x_l2 : Int) = (0 : Int)))
                ((Calls Try.prog N_law38_awake #[] w26 fun e_3 w27 =>
                ∃ r3 : Bool, e_3 = .returned (.bool r3) ∧
                R (.bool r3) w27))
                (R (.bool false) w26)))))))))))))))))))))))))))))
theorem F_law38_AccessOnce_eq (ids_a : Option Addr) (ids_l : Nat) (ids_c : Nat) (preambles : Int) (tries : Int) (backoff : Int) (w : World) (R : Value → World → Prop) : sxFn Try.prog TT h_law38_AccessOnce Try.f3 #[(.slice ids_a ids_l ids_c), (.int .u8 preambles), (.int .u8 tries), (.int .u8 backoff)] w R = F_law38_AccessOnce ids_a ids_l ids_c preambles tries backoff w R := by kernel_rfl
theorem F_law38_AccessOnce_ok {R : Ending → World → Prop} (ids_a : Option Addr) (ids_l : Nat) (ids_c : Nat) (preambles : Int) (tries : Int) (backoff : Int) (w : World) (h : F_law38_AccessOnce ids_a ids_l ids_c preambles tries backoff w fun v w' => R (.returned v) w') : Calls Try.prog N_law38_AccessOnce #[(.slice ids_a ids_l ids_c), (.int .u8 preambles), (.int .u8 tries), (.int .u8 backoff)] w R :=
  calls_of (f := 3) follows_ok Try.func3 (Eq.mpr (F_law38_AccessOnce_eq ids_a ids_l ids_c preambles tries backoff w _) h)

end Go.Proofs.Ytgmniohbnophdaa
