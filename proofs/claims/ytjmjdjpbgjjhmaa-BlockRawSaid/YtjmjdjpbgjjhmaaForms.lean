import Derived.Test.YtjmjdjpbgjjhmaaBase
import Derived.KernelRfl
namespace Go.Proofs.Ytjmjdjpbgjjhmaa
open Go.Sx Go.RowKit
set_option maxRecDepth 100000

def h_law24_BlockRaw : H := (.seq .reg (.cut [] [6, 15, 16, 17, 18, 19, 20, 21, 22, 23] (.seq .reg (.cond (.seq .reg .leaf) .leaf)) (.seq .reg (.seq .reg (.seq .reg (.seq .reg (.seq .reg .leaf)))))))
def F_law24_BlockRaw (l_a : Option Addr) (l_l : Nat) (l_c : Nat) (size : Int) (b_a : Option Addr) (b_l : Nat) (b_c : Nat) (w : World) (R : Value → World → Prop) : Prop :=
  (∃ J : World → Prop,
  (∀ (_junk : Env)  (w4 : World), J w4 →
    (Calls Try.prog N_block_Encode #[(.slice l_a l_l l_c), (.int .i64 size)] w4 fun e_3 w5 =>
    ∃ r_a : Option Addr, ∃ r_l : Nat, ∃ r_c : Nat, ∃ r3 : Int, e_3 = .returned (.tuple #[(.slice r_a r_l r_c), (.int .i64 r3)]) ∧
    (Calls Try.prog N_ref24_Encode #[(.slice l_a l_l l_c), (.int .i64 size)] w5 fun e_4 w6 =>
    ∃ r_a1 : Option Addr, ∃ r_l1 : Nat, ∃ r_c1 : Nat, ∃ r4 : Int, e_4 = .returned (.tuple #[(.slice r_a1 r_l1 r_c1), (.int .i64 r4)]) ∧
    (Calls Try.prog N_block_Decode #[(.slice b_a b_l b_c)] w6 fun e_5 w7 =>
    ∃ r_a2 : Option Addr, ∃ r_l2 : Nat, ∃ r_c2 : Nat, ∃ r5 : Int, e_5 = .returned (.tuple #[(.slice r_a2 r_l2 r_c2), (.int .i64 r5)]) ∧
    (Calls Try.prog N_ref24_Decode #[(.slice b_a b_l b_c)] w7 fun e_6 w8 =>
    ∃ r_a3 : Option Addr, ∃ r_l3 : Nat, ∃ r_c3 : Nat, ∃ r6 : Int, e_6 = .returned (.tuple #[(.slice r_a3 r_l3 r_c3), (.int .i64 r6)]) ∧
    (bsplit (decide (r3 = r4))
      ((bsplit (decide (r5 = r6))
        ((Calls Try.prog N_ref24_SameBytes #[(.slice r_a r_l r_c), (.slice r_a1 r_l1 r_c1)] w8 fun e_7 w9 =>
        ∃ r7 : Bool, e_7 = .returned (.bool r7) ∧
        (bsplit r7
          ((Calls Try.prog N_ref24_Same #[(.slice r_a2 r_l2 r_c2), (.slice r_a3 r_l3 r_c3)] w9 fun e_8 w10 =>
          ∃ r8 : Bool, e_8 = .returned (.bool r8) ∧
          (bsplit r8
            ((Calls Try.prog N_block_Check #[(.slice l_a l_l l_c), (.int .i64 size)] w10 fun e_9 w11 =>
            ∃ r9 : Int, e_9 = .returned (.int .i64 r9) ∧
            (Calls Try.prog N_ref24_Check #[(.slice l_a l_l l_c), (.int .i64 size)] w11 fun e_10 w12 =>
            ∃ r10 : Int, e_10 = .returned (.int .i64 r10) ∧
            (bsplit (decide (r9 = r10))
              ((Calls Try.prog N_block_Used #[(.slice l_a l_l l_c)] w12 fun e_11 w13 =>
              ∃ r11 : Int, e_11 = .returned (.int .i64 r11) ∧
              (Calls Try.prog N_ref24_Used #[(.slice l_a l_l l_c)] w13 fun e_12 w14 =>
              ∃ r12 : Int, e_12 = .returned (.int .i64 r12) ∧
              (bsplit (decide (r11 = r12))
                ((Calls Try.prog N_law24_awake #[] w14 fun e_13 w15 =>
                ∃ r13 : Bool, e_13 = .returned (.bool r13) ∧
                R (.bool r13) w15))
                (R (.bool false) w14)))))
              (R (.bool false) w12)))))
            (R (.bool false) w10))))
          (R (.bool false) w9))))
        (R (.bool false) w8)))
      (R (.bool false) w8))))))) ∧
  (Calls Try.prog N_law24_light #[(.slice l_a l_l l_c)] w fun e_ w1 =>
  ∃ r : Bool, e_ = .returned (.bool r) ∧
  (bsplit (!r)
    ((Calls Try.prog N_law24_awake #[] w1 fun e_1 w2 =>
      ∃ r1 : Bool, e_1 = .returned (.bool r1) ∧
      R (.bool r1) w2))
    ((bsplit (decide ((b_l : Int) > (600 : Int)))
      ((Calls Try.prog N_law24_awake #[] w1 fun e_2 w3 =>
      ∃ r2 : Bool, e_2 = .returned (.bool r2) ∧
      R (.bool r2) w3))
      (J w1))))))
theorem F_law24_BlockRaw_eq (l_a : Option Addr) (l_l : Nat) (l_c : Nat) (size : Int) (b_a : Option Addr) (b_l : Nat) (b_c : Nat) (w : World) (R : Value → World → Prop) : sxFn Try.prog TT h_law24_BlockRaw Try.f3 #[(.slice l_a l_l l_c), (.int .i64 size), (.slice b_a b_l b_c)] w R = F_law24_BlockRaw l_a l_l l_c size b_a b_l b_c w R := by kernel_rfl
theorem F_law24_BlockRaw_ok {R : Ending → World → Prop} (l_a : Option Addr) (l_l : Nat) (l_c : Nat) (size : Int) (b_a : Option Addr) (b_l : Nat) (b_c : Nat) (w : World) (h : F_law24_BlockRaw l_a l_l l_c size b_a b_l b_c w fun v w' => R (.returned v) w') : Calls Try.prog N_law24_BlockRaw #[(.slice l_a l_l l_c), (.int .i64 size), (.slice b_a b_l b_c)] w R :=
  calls_of (f := 3) follows_ok Try.func3 (Eq.mpr (F_law24_BlockRaw_eq l_a l_l l_c size b_a b_l b_c w _) h)

def h_law24_BlockMade : H := (.seq .reg (.seq (.seq .reg (.cond (.seq .reg .leaf) .leaf)) (.seq .reg (.seq .reg (.seq .reg (.seq .reg (.cut [] [10, 48, 49, 50, 51, 52, 53, 54, 55, 56] (.seq .reg (.cond (.seq .reg .leaf) .leaf)) (.seq (.seq .reg (.cond (.seq .reg (.seq .reg (.cut [(18, .p .slice)] [18, 67, 68, 69, 70, 71, 72, 73, 74, 75, 76, 77, 78, 79, 80, 81, 82, 83, 84, 85, 86, 87, 88, 89, 90, 91] (.seq .reg (.block (.seq .reg (.cond .reg (.seq .reg (.cond (.draw true (.one 0 .stable (.one 1 .stable (.one 2 .pre (.one 3 .stable (.one 4 .stable (.one 5 .stable (.one 6 .pre (.one 7 .keep (.one 8 .stable .nil)))))))))) .reg)))))) (.seq .reg (.seq .reg (.seq .reg (.cond (.seq .reg .leaf) .leaf))))))) .leaf)) (.seq .reg .leaf)))))))))
def F_law24_BlockMade (l_a : Option Addr) (l_l : Nat) (l_c : Nat) (more : Int) (at1 : Int) (by1 : Int) (how : Int) (w : World) (R : Value → World → Prop) : Prop :=
  (Calls Try.prog N_roll_Light #[(.slice l_a l_l l_c)] w fun e_ w1 =>
  ∃ r : Bool, e_ = .returned (.bool r) ∧
  (bsplit (!r)
    ((Calls Try.prog N_law24_awake #[] w1 fun e_1 w2 =>
    ∃ r1 : Bool, e_1 = .returned (.bool r1) ∧
    R (.bool r1) w2))
    ((Calls Try.prog N_roll_Roll #[(.slice l_a l_l l_c)] w1 fun e_2 w3 =>
    ∃ r2 : Option Addr, e_2 = .returned (.pointer r2) ∧
    (Calls Try.prog N_law24_sections #[(.pointer r2)] w3 fun e_3 w4 =>
    ∃ r_a : Option Addr, ∃ r_l : Nat, ∃ r_c : Nat, e_3 = .returned (.slice r_a r_l r_c) ∧
    (Calls Try.prog N_ref24_Used #[(.slice r_a r_l r_c)] w4 fun e_4 w5 =>
    ∃ r3 : Int, e_4 = .returned (.int .i64 r3) ∧
    (Calls Try.prog N_roll_Mod #[(.int .i64 more), (.int .i64 (7 : Int))] w5 fun e_5 w6 =>
    ∃ r4 : Int, e_5 = .returned (.int .i64 r4) ∧
    (kW .i64 (r3 + r4) fun x =>
    (kW .i64 (x - (2 : Int)) fun x1 =>
    (Calls Try.prog N_block_Encode #[(.slice r_a r_l r_c), (.int .i64 x1)] w6 fun e_6 w7 =>
    ∃ r_a1 : Option Addr, ∃ r_l1 : Nat, ∃ r_c1 : Nat, ∃ r5 : Int, e_6 = .returned (.tuple #[(.slice r_a1 r_l1 r_c1), (.int .i64 r5)]) ∧
    (Calls Try.prog N_ref24_Encode #[(.slice r_a r_l r_c), (.int .i64 x1)] w7 fun e_7 w8 =>
    ∃ r_a2 : Option Addr, ∃ r_l2 : Nat, ∃ r_c2 : Nat, ∃ r6 : Int, e_7 = .returned (.tuple #[(.slice r_a2 r_l2 r_c2), (.int .i64 r6)]) ∧
    (∃ J : World → Prop,
    (∀ (_junk : Env)  (w10 : World), J w10 →
      (bsplit (decide ((r_l1 : Int) > (0 : Int)))
        ((Calls Try.prog N_roll_Mod #[(.int .i64 at1), (.int .i64 (r_l1 : Int))] w10 fun e_9 w11 =>
        ∃ r8 : Int, e_9 = .returned (.int .i64 r8) ∧
        (kAlloc w11 #[] Ty_uint8 fun b w12 =>
        (AppP Try.prog #[Ty_S_uint8, Ty_S_uint8] Ty_S_uint8 #[(.slice (some ⟨b, 0, none⟩) 0 0), (.slice r_a1 r_l1 r_c1)] w12 fun x_a x_l x_c w13 =>
        (∃ J1 : Option Addr → Nat → Nat → World → Prop,
        (∀ (_junk : Env) (z_a : Option Addr) (z_l : Nat) (z_c : Nat) (w19 : World), J1 z_a z_l z_c w19 →
          (Calls Try.prog N_block_Decode #[(.slice z_a z_l z_c)] w19 fun e_10 w20 =>
          ∃ r_a3 : Option Addr, ∃ r_l3 : Nat, ∃ r_c3 : Nat, ∃ r9 : Int, e_10 = .returned (.tuple #[(.slice r_a3 r_l3 r_c3), (.int .i64 r9)]) ∧
          (Calls Try.prog N_ref24_Decode #[(.slice z_a z_l z_c)] w20 fun e_11 w21 =>
          ∃ r_a4 : Option Addr, ∃ r_l4 : Nat, ∃ r_c4 : Nat, ∃ r10 : Int, e_11 = .returned (.tuple #[(.slice r_a4 r_l4 r_c4), (.int .i64 r10)]) ∧
          (bsplit (!decide (r9 = r10))
            (R (.bool false) w21)
            ((Calls Try.prog N_ref24_Same #[(.slice r_a3 r_l3 r_c3), (.slice r_a4 r_l4 r_c4)] w21 fun e_13 w23 =>
            ∃ r12 : Bool, e_13 = .returned (.bool r12) ∧
            (bsplit (!r12)
              (R (.bool false) w23)
              ((Calls Try.prog N_law24_awake #[] w23 fun e_14 w24 =>
              ∃ r13 : Bool, e_14 = .returned (.bool r13) ∧
              R (.bool r13) w24))))))))) ∧
        (kLet (Int.tmod how (3 : Int)) fun x2 =>
        (kLet (decide (x2 = (0 : Int))) fun x3 =>
        (bsplit x3
          ((kIx x_a x_l r8 fun b1 =>
          (kLd w13 (b1.add (r8.toNat * 1)) .u8 fun x4 =>
          (kLet (bXor .u8 x4 by1) fun x5 =>
          (kIx x_a x_l r8 fun b2 =>
          (kSet w13 (b2.add (r8.toNat * 1)) (.int .u8 x5) fun w14 =>
          J1 x_a x_l x_c w14))))))
          ((kLet (decide (x2 = (1 : Int))) fun x6 =>
          (bsplit x6
            ((kDrew w13 fun w15 =>
            (∃ S : Nat → Prop,
            ((0 ≤ r8 ∧ r8 ≤ ((x_c : Nat) : Int)) ∧ (kW .i64 (r8 + (1 : Int)) fun x7 =>
            ((0 ≤ x7 ∧ x7 ≤ ((x_l : Nat) : Int)) ∧ (AppP Try.prog #[Ty_S_uint8, Ty_S_uint8] Ty_S_uint8 #[(.slice (slAddr x_c 0 1 x_a) (r8.toNat - 0) (x_c - 0)), (.slice (slAddr x_c (x7.toNat) 1 x_a) (x_l - x7.toNat) (x_c - x7.toNat))] w15 fun x_a1 x_l1 x_c1 w16 =>
            (KeepsB S w15 w16 ∧ J1 x_a1 x_l1 x_c1 w16))))))))
            ((kAlloc w13 #[(.int .u8 by1)] Ty_uint8 fun b3 w17 =>
            (AppP Try.prog #[Ty_S_uint8, Ty_S_uint8] Ty_S_uint8 #[(.slice x_a x_l x_c), (.slice (some ⟨b3, 0, none⟩) 1 1)] w17 fun x_a2 x_l2 x_c2 w18 =>
            J1 x_a2 x_l2 x_c2 w18))))))))))))))
        ((Calls Try.prog N_law24_awake #[] w10 fun e_15 w25 =>
        ∃ r14 : Bool, e_15 = .returned (.bool r14) ∧
        R (.bool r14) w25)))) ∧
    (bsplit (!decide (r5 = r6))
      (R (.bool false) w8)
      ((Calls Try.prog N_ref24_SameBytes #[(.slice r_a1 r_l1 r_c1), (.slice r_a2 r_l2 r_c2)] w8 fun e_8 w9 =>
      ∃ r7 : Bool, e_8 = .returned (.bool r7) ∧
      (bsplit (!r7)
        (R (.bool false) w9)
        (J w9)))))))))))))))))
theorem F_law24_BlockMade_eq (l_a : Option Addr) (l_l : Nat) (l_c : Nat) (more : Int) (at1 : Int) (by1 : Int) (how : Int) (w : World) (R : Value → World → Prop) : sxFn Try.prog TT h_law24_BlockMade Try.f4 #[(.slice l_a l_l l_c), (.int .i64 more), (.int .i64 at1), (.int .u8 by1), (.int .u8 how)] w R = F_law24_BlockMade l_a l_l l_c more at1 by1 how w R := by kernel_rfl
theorem F_law24_BlockMade_ok {R : Ending → World → Prop} (l_a : Option Addr) (l_l : Nat) (l_c : Nat) (more : Int) (at1 : Int) (by1 : Int) (how : Int) (w : World) (h : F_law24_BlockMade l_a l_l l_c more at1 by1 how w fun v w' => R (.returned v) w') : Calls Try.prog N_law24_BlockMade #[(.slice l_a l_l l_c), (.int .i64 more), (.int .i64 at1), (.int .u8 by1), (.int .u8 how)] w R :=
  calls_of (f := 4) follows_ok Try.func4 (Eq.mpr (F_law24_BlockMade_eq l_a l_l l_c more at1 by1 how w _) h)

def h_law24_BlockBack : H := (.seq .reg (.cut [] [6, 16, 17, 18, 19, 20, 21, 22, 23, 24] (.seq .reg (.cond (.seq .reg .leaf) .leaf)) (.seq .reg (.seq .reg (.seq (.seq .reg (.cond (.seq .reg .leaf) .leaf)) (.seq .reg (.seq .reg (.seq .reg (.seq .reg .leaf)))))))))
def F_law24_BlockBack (l_a : Option Addr) (l_l : Nat) (l_c : Nat) (m_a : Option Addr) (m_l : Nat) (m_c : Nat) (more : Int) (w : World) (R : Value → World → Prop) : Prop :=
  (∃ J : World → Prop,
  (∀ (_junk : Env)  (w5 : World), J w5 →
    (Calls Try.prog N_roll_Roll #[(.slice l_a l_l l_c)] w5 fun e_4 w6 =>
    ∃ r4 : Option Addr, e_4 = .returned (.pointer r4) ∧
    (Calls Try.prog N_law24_sections #[(.pointer r4)] w6 fun e_5 w7 =>
    ∃ r_a : Option Addr, ∃ r_l : Nat, ∃ r_c : Nat, e_5 = .returned (.slice r_a r_l r_c) ∧
    (Calls Try.prog N_roll_Roll #[(.slice m_a m_l m_c)] w7 fun e_6 w8 =>
    ∃ r5 : Option Addr, e_6 = .returned (.pointer r5) ∧
    (Calls Try.prog N_law24_sections #[(.pointer r5)] w8 fun e_7 w9 =>
    ∃ r_a1 : Option Addr, ∃ r_l1 : Nat, ∃ r_c1 : Nat, e_7 = .returned (.slice r_a1 r_l1 r_c1) ∧
    (Calls Try.prog N_block_Used #[(.slice r_a r_l r_c)] w9 fun e_8 w10 =>
    ∃ r6 : Int, e_8 = .returned (.int .i64 r6) ∧
    (Calls Try.prog N_block_Used #[(.slice r_a1 r_l1 r_c1)] w10 fun e_9 w11 =>
    ∃ r7 : Int, e_9 = .returned (.int .i64 r7) ∧
    (kW .i64 (more) fun x =>
    (kLet (Int.tmod x (20 : Int)) fun x1 =>
    (kW .i64 ((if r7 > (if r6 > (1 : Int) then r6 else (1 : Int)) then r7 else (if r6 > (1 : Int) then r6 else (1 : Int))) + x1) fun x2 =>
    (bsplit (decide (x2 > (256 : Int)))
      ((Calls Try.prog N_law24_awake #[] w11 fun e_10 w12 =>
      ∃ r8 : Bool, e_10 = .returned (.bool r8) ∧
      R (.bool r8) w12))
      ((Calls Try.prog N_block_Encode #[(.slice r_a r_l r_c), (.int .i64 x2)] w11 fun e_11 w13 =>
      ∃ r_a2 : Option Addr, ∃ r_l2 : Nat, ∃ r_c2 : Nat, ∃ r9 : Int, e_11 = .returned (.tuple #[(.slice r_a2 r_l2 r_c2), (.int .i64 r9)]) ∧
      (Calls Try.prog N_block_Encode #[(.slice r_a1 r_l1 r_c1), (.int .i64 x2)] w13 fun e_12 w14 =>
      ∃ r_a3 : Option Addr, ∃ r_l3 : Nat, ∃ r_c3 : Nat, ∃ r10 : Int, e_12 = .returned (.tuple #[(.slice r_a3 r_l3 r_c3), (.int .i64 r10)]) ∧
      (Calls Try.prog N_block_Decode #[(.slice r_a2 r_l2 r_c2)] w14 fun e_13 w15 =>
      ∃ r_a4 : Option Addr, ∃ r_l4 : Nat, ∃ r_c4 : Nat, ∃ r11 : Int, e_13 = .returned (.tuple #[(.slice r_a4 r_l4 r_c4), (.int .i64 r11)]) ∧
      (bsplit (decide (r9 = (0 : Int)))
        ((bsplit (decide (r10 = (0 : Int)))
          ((bsplit (decide (r11 = (0 : Int)))
            ((bsplit (decide ((r_l2 : Int) = x2))
              ((Calls Try.prog N_ref24_Same #[(.slice r_a4 r_l4 r_c4), (.slice r_a r_l r_c)] w15 fun e_14 w16 =>
              ∃ r12 : Bool, e_14 = .returned (.bool r12) ∧
              (bsplit r12
                ((Calls Try.prog N_ref24_SameBytes #[(.slice r_a2 r_l2 r_c2), (.slice r_a3 r_l3 r_c3)] w16 fun e_15 w17 =>
                ∃ r13 : Bool, e_15 = .returned (.bool r13) ∧
                (Calls Try.prog N_ref24_Same #[(.slice r_a r_l r_c), (.slice r_a1 r_l1 r_c1)] w17 fun e_16 w18 =>
                ∃ r14 : Bool, e_16 = .returned (.bool r14) ∧
                (bsplit (r13 == r14)
                  ((Calls Try.prog N_law24_awake #[] w18 fun e_17 w19 =>
                  ∃ r15 : Bool, e_17 = .returned (.bool r15) ∧
                  R (.bool r15) w19))
                  (R (.bool false) w18)))))
                (R (.bool false) w16))))
              (R (.bool false) w15)))
            (R (.bool false) w15)))
          (R (.bool false) w15)))
        (R (.bool false) w15))))))))))))))))) ∧
  (Calls Try.prog N_roll_Light #[(.slice l_a l_l l_c)] w fun e_ w1 =>
  ∃ r : Bool, e_ = .returned (.bool r) ∧
  (bsplit (!r)
    ((Calls Try.prog N_law24_awake #[] w1 fun e_1 w2 =>
      ∃ r1 : Bool, e_1 = .returned (.bool r1) ∧
      R (.bool r1) w2))
    ((Calls Try.prog N_roll_Light #[(.slice m_a m_l m_c)] w1 fun e_2 w3 =>
    ∃ r2 : Bool, e_2 = .returned (.bool r2) ∧
    (bsplit (!r2)
      ((Calls Try.prog N_law24_awake #[] w3 fun e_3 w4 =>
      ∃ r3 : Bool, e_3 = .returned (.bool r3) ∧
      R (.bool r3) w4))
      (J w3)))))))
theorem F_law24_BlockBack_eq (l_a : Option Addr) (l_l : Nat) (l_c : Nat) (m_a : Option Addr) (m_l : Nat) (m_c : Nat) (more : Int) (w : World) (R : Value → World → Prop) : sxFn Try.prog TT h_law24_BlockBack Try.f5 #[(.slice l_a l_l l_c), (.slice m_a m_l m_c), (.int .u8 more)] w R = F_law24_BlockBack l_a l_l l_c m_a m_l m_c more w R := by kernel_rfl
theorem F_law24_BlockBack_ok {R : Ending → World → Prop} (l_a : Option Addr) (l_l : Nat) (l_c : Nat) (m_a : Option Addr) (m_l : Nat) (m_c : Nat) (more : Int) (w : World) (h : F_law24_BlockBack l_a l_l l_c m_a m_l m_c more w fun v w' => R (.returned v) w') : Calls Try.prog N_law24_BlockBack #[(.slice l_a l_l l_c), (.slice m_a m_l m_c), (.int .u8 more)] w R :=
  calls_of (f := 5) follows_ok Try.func5 (Eq.mpr (F_law24_BlockBack_eq l_a l_l l_c m_a m_l m_c more w _) h)

def h_law24_BlockGrows : H := (.seq .reg (.seq (.seq .reg (.cond (.seq .reg .leaf) .leaf)) (.seq .reg (.seq .reg (.seq .reg (.seq (.seq .reg (.cond (.seq .reg .leaf) .leaf)) (.seq .reg (.seq .reg (.seq .reg (.seq .reg (.seq (.draw true (.one 0 .stable (.one 1 .stable (.one 2 .stable (.one 3 .stable (.one 4 .stable (.one 5 .stable (.one 6 .stable (.one 7 .stable (.one 8 .stable (.one 9 .stable (.one 10 .stable (.one 11 .stable (.one 12 .stable (.one 13 .stable (.one 14 .stable (.one 15 .stable (.one 16 .stable (.one 17 .stable (.one 18 .stable (.one 19 .stable (.one 20 .stable (.one 21 .stable (.one 22 .stable (.one 23 .keep (.one 24 .stable (.one 25 .stable (.one 26 .stable (.one 27 .stable (.one 28 .keep (.one 29 .stable (.one 30 .stable (.one 31 .keep (.one 32 .stable (.one 33 .stable .nil))))))))))))))))))))))))))))))))))) .leaf)))))))))))
def F_law24_BlockGrows (l_a : Option Addr) (l_l : Nat) (l_c : Nat) (more : Int) (w : World) (R : Value → World → Prop) : Prop :=
  (Calls Try.prog N_roll_Light #[(.slice l_a l_l l_c)] w fun e_ w1 =>
  ∃ r : Bool, e_ = .returned (.bool r) ∧
  (bsplit (!r)
    ((Calls Try.prog N_law24_awake #[] w1 fun e_1 w2 =>
    ∃ r1 : Bool, e_1 = .returned (.bool r1) ∧
    R (.bool r1) w2))
    ((Calls Try.prog N_roll_Roll #[(.slice l_a l_l l_c)] w1 fun e_2 w3 =>
    ∃ r2 : Option Addr, e_2 = .returned (.pointer r2) ∧
    (Calls Try.prog N_law24_sections #[(.pointer r2)] w3 fun e_3 w4 =>
    ∃ r_a : Option Addr, ∃ r_l : Nat, ∃ r_c : Nat, e_3 = .returned (.slice r_a r_l r_c) ∧
    (Calls Try.prog N_block_Used #[(.slice r_a r_l r_c)] w4 fun e_4 w5 =>
    ∃ r3 : Int, e_4 = .returned (.int .i64 r3) ∧
    (kLet (if r3 > (1 : Int) then r3 else (1 : Int)) fun n =>
    (kW .i64 (more) fun x =>
    (kLet (Int.tmod x (30 : Int)) fun x1 =>
    (kW .i64 (n + x1) fun x2 =>
    (bsplit (decide (x2 > (256 : Int)))
      ((Calls Try.prog N_law24_awake #[] w5 fun e_5 w6 =>
      ∃ r4 : Bool, e_5 = .returned (.bool r4) ∧
      R (.bool r4) w6))
      ((Calls Try.prog N_block_Encode #[(.slice r_a r_l r_c), (.int .i64 n)] w5 fun e_6 w7 =>
      ∃ r_a1 : Option Addr, ∃ r_l1 : Nat, ∃ r_c1 : Nat, ∃ r5 : Int, e_6 = .returned (.tuple #[(.slice r_a1 r_l1 r_c1), (.int .i64 r5)]) ∧
      (Calls Try.prog N_block_Encode #[(.slice r_a r_l r_c), (.int .i64 x2)] w7 fun e_7 w8 =>
      ∃ r_a2 : Option Addr, ∃ r_l2 : Nat, ∃ r_c2 : Nat, ∃ r6 : Int, e_7 = .returned (.tuple #[(.slice r_a2 r_l2 r_c2), (.int .i64 r6)]) ∧
      (Calls Try.prog N_block_Decode #[(.slice r_a2 r_l2 r_c2)] w8 fun e_8 w9 =>
      ∃ r_a3 : Option Addr, ∃ r_l3 : Nat, ∃ r_c3 : Nat, ∃ r7 : Int, e_8 = .returned (.tuple #[(.slice r_a3 r_l3 r_c3), (.int .i64 r7)]) ∧
      (Calls Try.prog N_block_Used #[(.slice r_a r_l r_c)] w9 fun e_9 w10 =>
      ∃ r8 : Int, e_9 = .returned (.int .i64 r8) ∧
      (kDrew w10 fun w11 =>
      (∃ S : Nat → Prop,
      (bsplit (decide (r5 = (0 : Int)))
        ((bsplit (decide (r6 = (0 : Int)))
          ((bsplit (decide (r7 = (0 : Int)))
            ((bsplit (decide ((r_l2 : Int) = x2))
              (((0 ≤ r8 ∧ r8 ≤ ((r_c1 : Nat) : Int)) ∧ ((0 ≤ r8 ∧ r8 ≤ ((r_c2 : Nat) : Int)) ∧ (Calls Try.prog N_ref24_SameBytes #[(.slice (slAddr r_c1 0 1 r_a1) (r8.toNat - 0) (r_c1 - 0)), (.slice (slAddr r_c2 0 1 r_a2) (r8.toNat - 0) (r_c2 - 0))] w11 fun e_10 w12 =>
              ∃ r9 : Bool, e_10 = .returned (.bool r9) ∧
              (KeepsB S w11 w12 ∧ (bsplit r9
                ((Calls Try.prog N_ref24_Same #[(.slice r_a3 r_l3 r_c3), (.slice r_a r_l r_c)] w12 fun e_11 w13 =>
                ∃ r10 : Bool, e_11 = .returned (.bool r10) ∧
                (KeepsB S w11 w13 ∧ (bsplit r10
                  ((Calls Try.prog N_law24_awake #[] w13 fun e_12 w14 =>
                  ∃ r11 : Bool, e_12 = .returned (.bool r11) ∧
                  (KeepsB S w11 w14 ∧ R (.bool r11) w14)))
                  (R (.bool false) w13)))))
                (R (.bool false) w12)))))))
              (R (.bool false) w11)))
            (R (.bool false) w11)))
          (R (.bool false) w11)))
        (R (.bool false) w11))))))))))))))))))))
theorem F_law24_BlockGrows_eq (l_a : Option Addr) (l_l : Nat) (l_c : Nat) (more : Int) (w : World) (R : Value → World → Prop) : sxFn Try.prog TT h_law24_BlockGrows Try.f6 #[(.slice l_a l_l l_c), (.int .u8 more)] w R = F_law24_BlockGrows l_a l_l l_c more w R := by kernel_rfl
theorem F_law24_BlockGrows_ok {R : Ending → World → Prop} (l_a : Option Addr) (l_l : Nat) (l_c : Nat) (more : Int) (w : World) (h : F_law24_BlockGrows l_a l_l l_c more w fun v w' => R (.returned v) w') : Calls Try.prog N_law24_BlockGrows #[(.slice l_a l_l l_c), (.int .u8 more)] w R :=
  calls_of (f := 6) follows_ok Try.func6 (Eq.mpr (F_law24_BlockGrows_eq l_a l_l l_c more w _) h)

def h_law24_BlockJoins : H := (.seq .reg (.cut [] [4, 10, 11, 12, 13, 14, 15, 16, 17, 18] (.seq .reg (.cond (.seq .reg .leaf) .leaf)) (.seq .reg (.seq .reg (.seq .reg (.seq (.seq .reg (.cond (.seq .reg .leaf) .leaf)) (.seq .reg .leaf)))))))
def F_law24_BlockJoins (l_a : Option Addr) (l_l : Nat) (l_c : Nat) (m_a : Option Addr) (m_l : Nat) (m_c : Nat) (w : World) (R : Value → World → Prop) : Prop :=
  (∃ J : World → Prop,
  (∀ (_junk : Env)  (w5 : World), J w5 →
    (Calls Try.prog N_roll_Roll #[(.slice l_a l_l l_c)] w5 fun e_4 w6 =>
    ∃ r4 : Option Addr, e_4 = .returned (.pointer r4) ∧
    (Calls Try.prog N_law24_sections #[(.pointer r4)] w6 fun e_5 w7 =>
    ∃ r_a : Option Addr, ∃ r_l : Nat, ∃ r_c : Nat, e_5 = .returned (.slice r_a r_l r_c) ∧
    (Calls Try.prog N_roll_Roll #[(.slice m_a m_l m_c)] w7 fun e_6 w8 =>
    ∃ r5 : Option Addr, e_6 = .returned (.pointer r5) ∧
    (Calls Try.prog N_law24_sections #[(.pointer r5)] w8 fun e_7 w9 =>
    ∃ r_a1 : Option Addr, ∃ r_l1 : Nat, ∃ r_c1 : Nat, e_7 = .returned (.slice r_a1 r_l1 r_c1) ∧
    (kAlloc w9 #[] Ty_api_Section fun b w10 =>
    (AppP Try.prog #[Ty_S_api_Section, Ty_S_api_Section] Ty_S_api_Section #[(.slice (some ⟨b, 0, none⟩) 0 0), (.slice r_a r_l r_c)] w10 fun x_a x_l x_c w11 =>
    (AppP Try.prog #[Ty_S_api_Section, Ty_S_api_Section] Ty_S_api_Section #[(.slice x_a x_l x_c), (.slice r_a1 r_l1 r_c1)] w11 fun x_a1 x_l1 x_c1 w12 =>
    (Calls Try.prog N_block_Used #[(.slice r_a r_l r_c)] w12 fun e_8 w13 =>
    ∃ r6 : Int, e_8 = .returned (.int .i64 r6) ∧
    (Calls Try.prog N_block_Used #[(.slice r_a1 r_l1 r_c1)] w13 fun e_9 w14 =>
    ∃ r7 : Int, e_9 = .returned (.int .i64 r7) ∧
    (Calls Try.prog N_block_Used #[(.slice x_a1 x_l1 x_c1)] w14 fun e_10 w15 =>
    ∃ r8 : Int, e_10 = .returned (.int .i64 r8) ∧
    (kW .i64 (r6 + r7) fun x =>
    (bsplit (!decide (r8 = x))
      (R (.bool false) w15)
      ((kW .i64 (r6 + r7) fun x1 =>
      (bsplit (decide (x1 < (1 : Int)))
        ((Calls Try.prog N_law24_awake #[] w15 fun e_11 w16 =>
        ∃ r9 : Bool, e_11 = .returned (.bool r9) ∧
        R (.bool r9) w16))
        ((kW .i64 (r6 + r7) fun x2 =>
        (bsplit (decide (x2 > (256 : Int)))
          ((Calls Try.prog N_law24_awake #[] w15 fun e_12 w17 =>
          ∃ r10 : Bool, e_12 = .returned (.bool r10) ∧
          R (.bool r10) w17))
          ((kW .i64 (r6 + r7) fun x3 =>
          (Calls Try.prog N_block_Check #[(.slice x_a1 x_l1 x_c1), (.int .i64 x3)] w15 fun e_13 w18 =>
          ∃ r11 : Int, e_13 = .returned (.int .i64 r11) ∧
          (bsplit (decide (r11 = (0 : Int)))
            ((kW .i64 (r6 + r7) fun x4 =>
            (bsplit (decide (x4 = (1 : Int)))
              ((Calls Try.prog N_law24_awake #[] w18 fun e_14 w19 =>
              ∃ r12 : Bool, e_14 = .returned (.bool r12) ∧
              R (.bool r12) w19))
              ((kW .i64 (r6 + r7) fun x5 =>
              (kW .i64 (x5 - (1 : Int)) fun x6 =>
              (Calls Try.prog N_block_Check #[(.slice x_a1 x_l1 x_c1), (.int .i64 x6)] w18 fun e_15 w20 =>
              ∃ r13 : Int, e_15 = .returned (.int .i64 r13) ∧
              (bsplit (decide (r13 = (15 : Int)))
                ((Calls Try.prog N_law24_awake #[] w20 fun e_16 w21 =>
                ∃ r14 : Bool, e_16 = .returned (.bool r14) ∧
                R (.bool r14) w21))
                (R (.bool false) w20)))))))))
            (R (.bool false) w18)))))))))))))))))))))))) ∧
  (Calls Try.prog N_roll_Light #[(.slice l_a l_l l_c)] w fun e_ w1 =>
  ∃ r : Bool, e_ = .returned (.bool r) ∧
  (bsplit (!r)
    ((Calls Try.prog N_law24_awake #[] w1 fun e_1 w2 =>
      ∃ r1 : Bool, e_1 = .returned (.bool r1) ∧
      R (.bool r1) w2))
    ((Calls Try.prog N_roll_Light #[(.slice m_a m_l m_c)] w1 fun e_2 w3 =>
    ∃ r2 : Bool, e_2 = .returned (.bool r2) ∧
    (bsplit (!r2)
      ((Calls Try.prog N_law24_awake #[] w3 fun e_3 w4 =>
      ∃ r3 : Bool, e_3 = .returned (.bool r3) ∧
      R (.bool r3) w4))
      (J w3)))))))
theorem F_law24_BlockJoins_eq (l_a : Option Addr) (l_l : Nat) (l_c : Nat) (m_a : Option Addr) (m_l : Nat) (m_c : Nat) (w : World) (R : Value → World → Prop) : sxFn Try.prog TT h_law24_BlockJoins Try.f7 #[(.slice l_a l_l l_c), (.slice m_a m_l m_c)] w R = F_law24_BlockJoins l_a l_l l_c m_a m_l m_c w R := by kernel_rfl
theorem F_law24_BlockJoins_ok {R : Ending → World → Prop} (l_a : Option Addr) (l_l : Nat) (l_c : Nat) (m_a : Option Addr) (m_l : Nat) (m_c : Nat) (w : World) (h : F_law24_BlockJoins l_a l_l l_c m_a m_l m_c w fun v w' => R (.returned v) w') : Calls Try.prog N_law24_BlockJoins #[(.slice l_a l_l l_c), (.slice m_a m_l m_c)] w R :=
  calls_of (f := 7) follows_ok Try.func7 (Eq.mpr (F_law24_BlockJoins_eq l_a l_l l_c m_a m_l m_c w _) h)

def h_law24_light : H := (.seq .reg (.seq .reg (.seq (.seq .reg (.block (.loop [(3, .p (.int .i64)), (4, .p (.int .i64))] [3, 4, 5, 6, 7, 8, 9, 10, 11, 12, 13, 14, 15, 16, 17, 18, 19] (.seq (.seq .reg (.cond .leaf .leaf)) (.seq (.block .reg) .reg))))) (.seq .reg .leaf))))
def F_law24_light (l_a : Option Addr) (l_l : Nat) (l_c : Nat) (w : World) (R : Value → World → Prop) : Prop :=
  (∃ I : Int → Int → Nat × (World → Prop), (I (0 : Int) (0 : Int)).2 w ∧
  (∀ (_junk : Env) (n : Int) (i : Int) (w1 : World), (I n i).2 w1 →
    (bsplit (decide (i < (l_l : Int)))
      ((kW .i64 (n + (4 : Int)) fun x =>
      (kIx l_a l_l i fun b =>
      (kLdS w1 ((b.add (i.toNat * 2)).add 1) fun x_a x_l x_c =>
      (kW .i64 (x + (x_l : Int)) fun x1 =>
      (kW .i64 (i + (1 : Int)) fun x2 =>
      ((I x1 x2).2 w1 ∧ (I x1 x2).1 < (I n i).1)))))))
      ((kLet (decide (n ≤ (3000 : Int))) fun x3 =>
      R (.bool x3) w1)))))
theorem F_law24_light_eq (l_a : Option Addr) (l_l : Nat) (l_c : Nat) (w : World) (R : Value → World → Prop) : sxFn Try.prog TT h_law24_light Try.f8 #[(.slice l_a l_l l_c)] w R = F_law24_light l_a l_l l_c w R := by kernel_rfl
theorem F_law24_light_ok {R : Ending → World → Prop} (l_a : Option Addr) (l_l : Nat) (l_c : Nat) (w : World) (h : F_law24_light l_a l_l l_c w fun v w' => R (.returned v) w') : Calls Try.prog N_law24_light #[(.slice l_a l_l l_c)] w R :=
  calls_of (f := 8) follows_ok Try.func8 (Eq.mpr (F_law24_light_eq l_a l_l l_c w _) h)

def h_law24_awake : H := (.seq .reg (.seq .reg (.seq .reg (.seq .reg .leaf))))
def F_law24_awake  (w : World) (R : Value → World → Prop) : Prop :=
  (kAlloc w #[(.int .u8 (97 : Int)), (.int .u8 (98 : Int))] Ty_uint8 fun b w1 =>
  (ConvB Try.prog Ty_S_uint8 Ty_S_uint8 (.slice (some ⟨b, 0, none⟩) 2 2) w1 fun x_a x_l x_c w2 =>
  (kAlloc w2 #[(.int .i64 (3 : Int)), (.slice x_a x_l x_c)] Ty_api_Section fun b1 w3 =>
  (Calls Try.prog N_block_Encode #[(.slice (some ⟨b1, 0, none⟩) 1 1), (.int .i64 (5 : Int))] w3 fun e_ w4 =>
  ∃ r_a : Option Addr, ∃ r_l : Nat, ∃ r_c : Nat, ∃ r : Int, e_ = .returned (.tuple #[(.slice r_a r_l r_c), (.int .i64 r)]) ∧
  (Calls Try.prog N_block_Decode #[(.slice r_a r_l r_c)] w4 fun e_1 w5 =>
  ∃ r_a1 : Option Addr, ∃ r_l1 : Nat, ∃ r_c1 : Nat, ∃ r1 : Int, e_1 = .returned (.tuple #[(.slice r_a1 r_l1 r_c1), (.int .i64 r1)]) ∧
  (bsplit (decide (r = (0 : Int)))
    ((bsplit (decide (r1 = (0 : Int)))
      ((ConvS Try.prog Ty_S_uint8 Ty_string (.slice r_a r_l r_c) w5 fun x =>
      (bsplit (x == ⟨#[48, 2, 97, 98, 240]⟩)
        ((bsplit (decide ((r_l1 : Int) = (1 : Int)))
          ((kIx r_a1 r_l1 (0 : Int) fun b2 =>
          (kLd w5 (b2.add ((0 : Int).toNat * 2)) .i64 fun x1 =>
          (kLet (decide (x1 = (3 : Int))) fun x2 =>
          R (.bool x2) w5))))
          (R (.bool false) w5)))
        (R (.bool false) w5))))
      (R (.bool false) w5)))
    (R (.bool false) w5)))))))
theorem F_law24_awake_eq  (w : World) (R : Value → World → Prop) : sxFn Try.prog TT h_law24_awake Try.f9 #[] w R = F_law24_awake  w R := by kernel_rfl
theorem F_law24_awake_ok {R : Ending → World → Prop}  (w : World) (h : F_law24_awake  w fun v w' => R (.returned v) w') : Calls Try.prog N_law24_awake #[] w R :=
  calls_of (f := 9) follows_ok Try.func9 (Eq.mpr (F_law24_awake_eq  w _) h)

def h_block_Encode : H := (.seq .reg (.seq (.seq .reg (.seq .reg (.cond (.seq .reg .leaf) .leaf))) (.seq .reg (.seq (.seq .reg (.block (.loop [(7, .p .slice), (19, .p (.int .i64))] [7, 9, 19, 20, 21, 22, 23, 24, 25, 26, 27, 28, 29, 30, 31, 32, 33, 34] (.seq .reg (.seq (.cond .leaf .leaf) (.seq (.block (.seq .reg (.draw true (.one 0 .stable (.one 1 .stable (.one 2 .stable (.one 3 .stable (.one 4 .stable (.one 5 .stable (.one 7 .stable (.one 8 .stable (.one 6 .keep (.one 9 .keep (.one 10 .keep (.one 11 .stable .nil))))))))))))))) .reg)))))) (.seq (.seq .reg (.block (.seq .reg (.cond (.draw true (.one 0 .stable (.one 1 .stable (.one 2 .stable (.one 4 .stable (.one 5 .stable (.alt 3 (.one 6 .keep (.one 7 .keep (.one 8 .keep (.one 9 .stable .nil)))) (.alt 6 (.one 3 .keep (.one 7 .keep (.one 8 .keep (.one 9 .stable .nil)))) .endAlt)))))))) (.seq .reg (.cond .reg .leaf)))))) (.seq .reg .leaf))))))
def F_block_Encode (l_a : Option Addr) (l_l : Nat) (l_c : Nat) (room : Int) (w : World) (R : Value → World → Prop) : Prop :=
  (Calls Try.prog N_block_Check #[(.slice l_a l_l l_c), (.int .i64 room)] w fun e_ w1 =>
  ∃ r : Int, e_ = .returned (.int .i64 r) ∧
  (bsplit (!decide (r = (0 : Int)))
    (R (.tuple #[(.slice none 0 0), (.int .i64 r)]) w1)
    ((∃ I : Option Addr → Nat → Nat → Int → Nat × (World → Prop), (I none 0 0 (0 : Int)).2 w1 ∧
    (∀ (_junk : Env) (out_a : Option Addr) (out_l : Nat) (out_c : Nat) (x : Int) (w2 : World), (I out_a out_l out_c x).2 w2 →
      (bsplit (decide (x < (l_l : Int)))
        ((kIx l_a l_l x fun b =>
        (∃ x_0 : Int, ∃ x_1_a : Option Addr, ∃ x_1_l : Nat, ∃ x_1_c : Nat, cellsAt w2 (b.add (x.toNat * 2)) 0 [(.int .i64 x_0), (.slice x_1_a x_1_l x_1_c)] ∧
        (kAlloc w2 #[.int .i64 (0 : Int), .slice none 0 0] Ty_api_Section fun b1 w3 =>
        (sxStore w3 ⟨b1, 0, none⟩ 0 [(.int .i64 x_0), (.slice x_1_a x_1_l x_1_c)] fun w4 =>
        (kDrew w4 fun w5 =>
        (∃ S : Nat → Prop,
        (S b1 ∧
        (kLd w5 ⟨b1, 0, none⟩ .i64 fun x1 =>
        (S b1 ∧
        (kLdS w5 ⟨b1, 1, none⟩ fun x_a x_l x_c =>
        (S b1 ∧
        (kLdS w5 ⟨b1, 1, none⟩ fun x_a1 x_l1 x_c1 =>
        (Calls Try.prog N_block_begin #[(.int .i64 x1), (.int .i64 (x_l : Int))] w5 fun e_1 w6 =>
        ∃ r_a : Option Addr, ∃ r_l : Nat, ∃ r_c : Nat, e_1 = .returned (.slice r_a r_l r_c) ∧
        (KeepsB S w5 w6 ∧ (kAlloc w6 #[(.slice r_a r_l r_c), (.slice x_a1 x_l1 x_c1)] Ty_S_uint8 fun b2 w7 =>
        (KeepsB S w5 w7 ∧ (Calls Try.prog N_block_join #[(.slice out_a out_l out_c), (.slice (some ⟨b2, 0, none⟩) 2 2)] w7 fun e_2 w8 =>
        ∃ r_a1 : Option Addr, ∃ r_l1 : Nat, ∃ r_c1 : Nat, e_2 = .returned (.slice r_a1 r_l1 r_c1) ∧
        (KeepsB S w5 w8 ∧ (kW .i64 (x + (1 : Int)) fun x2 =>
        ((I r_a1 r_l1 r_c1 x2).2 w8 ∧ (I r_a1 r_l1 r_c1 x2).1 < (I out_a out_l out_c x).1)))))))))))))))))))))
        ((kW .i64 (room - (out_l : Int)) fun x3 =>
        (kLet (decide (x3 ≥ (2 : Int))) fun x4 =>
        (bsplit x4
          ((kDrew w2 fun w9 =>
          (∃ S1 : Nat → Prop,
          (kW .i64 (x3 - (2 : Int)) fun x5 =>
          (kW .i64 (x3 - (2 : Int)) fun x6 =>
          ((Calls Try.prog N_block_begin #[(.int .i64 (15 : Int)), (.int .i64 x5)] w9 fun e_5 w14 =>
          ∃ r_a4 : Option Addr, ∃ r_l4 : Nat, ∃ r_c4 : Nat, e_5 = .returned (.slice r_a4 r_l4 r_c4) ∧
          (KeepsB S1 w9 w14 ∧ (kMake w14 1 x6 x6 #[(.int .u8 (0 : Int))] 1 Ty_uint8 fun b5 w15 =>
          (KeepsB S1 w9 w15 ∧ (kAlloc w15 #[(.slice r_a4 r_l4 r_c4), (.slice (some ⟨b5, 0, none⟩) x6.toNat x6.toNat)] Ty_S_uint8 fun b6 w16 =>
          (KeepsB S1 w9 w16 ∧ (Calls Try.prog N_block_join #[(.slice out_a out_l out_c), (.slice (some ⟨b6, 0, none⟩) 2 2)] w16 fun e_6 w17 =>
          ∃ r_a5 : Option Addr, ∃ r_l5 : Nat, ∃ r_c5 : Nat, e_6 = .returned (.slice r_a5 r_l5 r_c5) ∧
          (KeepsB S1 w9 w17 ∧ R (.tuple #[(.slice r_a5 r_l5 r_c5), (.int .i64 (0 : Int))]) w17)))))))) ∧
          ((kMake w9 1 x6 x6 #[(.int .u8 (0 : Int))] 1 Ty_uint8 fun b3 w10 =>
          (KeepsB S1 w9 w10 ∧ (Calls Try.prog N_block_begin #[(.int .i64 (15 : Int)), (.int .i64 x5)] w10 fun e_3 w11 =>
          ∃ r_a2 : Option Addr, ∃ r_l2 : Nat, ∃ r_c2 : Nat, e_3 = .returned (.slice r_a2 r_l2 r_c2) ∧
          (KeepsB S1 w9 w11 ∧ (kAlloc w11 #[(.slice r_a2 r_l2 r_c2), (.slice (some ⟨b3, 0, none⟩) x6.toNat x6.toNat)] Ty_S_uint8 fun b4 w12 =>
          (KeepsB S1 w9 w12 ∧ (Calls Try.prog N_block_join #[(.slice out_a out_l out_c), (.slice (some ⟨b4, 0, none⟩) 2 2)] w12 fun e_4 w13 =>
          ∃ r_a3 : Option Addr, ∃ r_l3 : Nat, ∃ r_c3 : Nat, e_4 = .returned (.slice r_a3 r_l3 r_c3) ∧
          (KeepsB S1 w9 w13 ∧ R (.tuple #[(.slice r_a3 r_l3 r_c3), (.int .i64 (0 : Int))]) w13)))))))) ∧
          True)))))))
          ((kLet (decide (x3 = (1 : Int))) fun x7 =>
          (bsplit x7
            ((kAlloc w2 #[(.int .u8 (240 : Int))] Ty_uint8 fun b7 w18 =>
            (AppP Try.prog #[Ty_S_uint8, Ty_S_uint8] Ty_S_uint8 #[(.slice out_a out_l out_c), (.slice (some ⟨b7, 0, none⟩) 1 1)] w18 fun x_a2 x_l2 x_c2 w19 =>
            R (.tuple #[(.slice x_a2 x_l2 x_c2), (.int .i64 (0 : Int))]) w19)))
            (R (.tuple #[(.slice out_a out_l out_c), (.int .i64 (0 : Int))]) w2))))))))))))))
theorem F_block_Encode_eq (l_a : Option Addr) (l_l : Nat) (l_c : Nat) (room : Int) (w : World) (R : Value → World → Prop) : sxFn Try.prog TT h_block_Encode Try.f10 #[(.slice l_a l_l l_c), (.int .i64 room)] w R = F_block_Encode l_a l_l l_c room w R := by kernel_rfl
theorem F_block_Encode_ok {R : Ending → World → Prop} (l_a : Option Addr) (l_l : Nat) (l_c : Nat) (room : Int) (w : World) (h : F_block_Encode l_a l_l l_c room w fun v w' => R (.returned v) w') : Calls Try.prog N_block_Encode #[(.slice l_a l_l l_c), (.int .i64 room)] w R :=
  calls_of (f := 10) follows_ok Try.func10 (Eq.mpr (F_block_Encode_eq l_a l_l l_c room w _) h)

def h_ref24_Encode : H := (.seq .reg (.seq (.seq .reg (.seq .reg (.cond (.seq .reg .leaf) .leaf))) (.seq .reg (.seq (.seq .reg (.block (.loop [(7, .p .slice), (8, .p (.int .i64))] [7, 8, 16, 17, 18, 19, 20, 21, 22, 23, 24, 25, 26, 27, 28, 29, 30, 31, 32, 33, 34, 35, 36, 37, 38, 39, 40, 41, 42] (.seq (.seq .reg (.cond .leaf .leaf)) (.seq (.block (.seq (.draw true (.one 0 .stable (.one 1 .stable (.one 2 .stable (.one 3 .stable (.one 4 .stable (.one 5 .stable (.one 6 .stable (.one 7 .stable (.one 8 .stable (.one 9 .stable (.one 10 .stable (.one 11 .stable (.one 12 .keep (.one 13 .keep (.one 14 .stable .nil)))))))))))))))) .reg)) .reg))))) (.seq .reg (.seq (.seq .reg (.cond (.seq .reg .leaf) .leaf)) (.seq (.seq .reg (.cond (.seq .reg .reg) .leaf)) (.seq .reg .leaf))))))))
def F_ref24_Encode (l_a : Option Addr) (l_l : Nat) (l_c : Nat) (size : Int) (w : World) (R : Value → World → Prop) : Prop :=
  (Calls Try.prog N_ref24_Check #[(.slice l_a l_l l_c), (.int .i64 size)] w fun e_ w1 =>
  ∃ r : Int, e_ = .returned (.int .i64 r) ∧
  (bsplit (!decide (r = (0 : Int)))
    (R (.tuple #[(.slice none 0 0), (.int .i64 r)]) w1)
    ((∃ I : Option Addr → Nat → Nat → Int → Nat × (World → Prop), (I none 0 0 (0 : Int)).2 w1 ∧
    (∀ (_junk : Env) (out_a : Option Addr) (out_l : Nat) (out_c : Nat) (i : Int) (w2 : World), (I out_a out_l out_c i).2 w2 →
      (bsplit (decide (i < (l_l : Int)))
        ((kDrew w2 fun w3 =>
        (∃ S : Nat → Prop,
        (kIx l_a l_l i fun b =>
        (S (b.add (i.toNat * 2)).block ∧
        (kLd w3 (b.add (i.toNat * 2)) .i64 fun x =>
        (kIx l_a l_l i fun b1 =>
        (S ((b1.add (i.toNat * 2)).add 1).block ∧
        (kLdS w3 ((b1.add (i.toNat * 2)).add 1) fun x_a x_l x_c =>
        (Calls Try.prog N_ref24_head #[(.int .i64 x), (.int .i64 (x_l : Int))] w3 fun e_1 w4 =>
        ∃ r_a : Option Addr, ∃ r_l : Nat, ∃ r_c : Nat, e_1 = .returned (.slice r_a r_l r_c) ∧
        (KeepsB S w3 w4 ∧ (AppP Try.prog #[Ty_S_uint8, Ty_S_uint8] Ty_S_uint8 #[(.slice out_a out_l out_c), (.slice r_a r_l r_c)] w4 fun x_a1 x_l1 x_c1 w5 =>
        (KeepsB S w3 w5 ∧ (kIx l_a l_l i fun b2 =>
        (kLdS w5 ((b2.add (i.toNat * 2)).add 1) fun x_a2 x_l2 x_c2 =>
        (AppP Try.prog #[Ty_S_uint8, Ty_S_uint8] Ty_S_uint8 #[(.slice x_a1 x_l1 x_c1), (.slice x_a2 x_l2 x_c2)] w5 fun x_a3 x_l3 x_c3 w6 =>
        (kW .i64 (i + (1 : Int)) fun x1 =>
        ((I x_a3 x_l3 x_c3 x1).2 w6 ∧ (I x_a3 x_l3 x_c3 x1).1 < (I out_a out_l out_c i).1))))))))))))))))))
        ((kW .i64 (size - (out_l : Int)) fun x2 =>
        (bsplit (decide (x2 = (1 : Int)))
          ((kAlloc w2 #[(.int .u8 (240 : Int))] Ty_uint8 fun b3 w7 =>
          (AppP Try.prog #[Ty_S_uint8, Ty_S_uint8] Ty_S_uint8 #[(.slice out_a out_l out_c), (.slice (some ⟨b3, 0, none⟩) 1 1)] w7 fun x_a4 x_l4 x_c4 w8 =>
          R (.tuple #[(.slice x_a4 x_l4 x_c4), (.int .i64 (0 : Int))]) w8)))
          ((bsplit (decide (x2 ≥ (2 : Int)))
            ((kW .i64 (x2 - (2 : Int)) fun x3 =>
            (Calls Try.prog N_ref24_head #[(.int .i64 (15 : Int)), (.int .i64 x3)] w2 fun e_2 w9 =>
            ∃ r_a1 : Option Addr, ∃ r_l1 : Nat, ∃ r_c1 : Nat, e_2 = .returned (.slice r_a1 r_l1 r_c1) ∧
            (AppP Try.prog #[Ty_S_uint8, Ty_S_uint8] Ty_S_uint8 #[(.slice out_a out_l out_c), (.slice r_a1 r_l1 r_c1)] w9 fun x_a5 x_l5 x_c5 w10 =>
            (kW .i64 (x2 - (2 : Int)) fun x4 =>
            (AppP Try.prog #[Ty_S_uint8, Ty_int] Ty_S_uint8 #[(.slice x_a5 x_l5 x_c5), (.int .i64 x4)] w10 fun x_a6 x_l6 x_c6 w11 =>
            R (.tuple #[(.slice x_a6 x_l6 x_c6), (.int .i64 (0 : Int))]) w11))))))
            (R (.tuple #[(.slice out_a out_l out_c), (.int .i64 (0 : Int))]) w2))))))))))))
theorem F_ref24_Encode_eq (l_a : Option Addr) (l_l : Nat) (l_c : Nat) (size : Int) (w : World) (R : Value → World → Prop) : sxFn Try.prog TT h_ref24_Encode Try.f11 #[(.slice l_a l_l l_c), (.int .i64 size)] w R = F_ref24_Encode l_a l_l l_c size w R := by kernel_rfl
theorem F_ref24_Encode_ok {R : Ending → World → Prop} (l_a : Option Addr) (l_l : Nat) (l_c : Nat) (size : Int) (w : World) (h : F_ref24_Encode l_a l_l l_c size w fun v w' => R (.returned v) w') : Calls Try.prog N_ref24_Encode #[(.slice l_a l_l l_c), (.int .i64 size)] w R :=
  calls_of (f := 11) follows_ok Try.func11 (Eq.mpr (F_ref24_Encode_eq l_a l_l l_c size w _) h)

def h_block_Decode : H := (.seq .reg (.seq (.seq .reg (.cond (.seq .reg .leaf) .leaf)) (.seq .reg (.cut [(4, .p .slice)] [2, 3, 4, 5, 6, 12, 13, 14, 15, 16, 17, 18, 19, 20, 21, 22, 23, 24, 25, 26, 27, 28, 29, 30, 31, 32, 33, 34, 35, 36, 37, 38, 39, 40, 41, 42, 43, 44, 45, 46, 47, 48, 49, 50, 51, 52, 53, 54, 55, 56] (.seq .reg (.block (.loop [(4, .p .slice), (5, .p .slice)] [2, 3, 4, 5, 6, 13, 14, 15, 16, 17, 18, 19, 20, 21, 22, 23, 24, 25, 26, 27, 28, 29, 30, 31, 32, 33, 34, 35, 36, 37, 38, 39, 40, 41, 42, 43, 44, 45, 46, 47, 48, 49, 50, 51, 52, 53, 54, 55, 56] (.cut [] [13, 14, 15, 16, 17, 18, 19, 20, 21, 22] (.seq .reg (.cond .leaf .leaf)) (.block (.seq (.draw false (.one 0 .stable (.one 1 .stable (.one 2 .stable (.one 3 .stable (.one 4 .stable (.one 5 .stable (.one 6 .stable (.one 7 .stable (.one 8 .stable (.one 9 .stable (.one 10 .stable (.one 11 .stable .nil))))))))))))) (.seq (.seq .reg (.cond (.seq .reg .leaf) .leaf)) (.seq (.draw true (.one 0 .stable (.one 1 .stable (.one 2 .stable (.one 3 .stable (.one 4 .stable (.one 5 .stable (.one 6 .stable (.one 7 .stable (.one 8 .stable (.one 9 .stable (.one 10 .keep (.one 11 .keep (.one 12 .keep (.one 13 .keep (.one 14 .stable .nil)))))))))))))))) .reg)))))))) (.seq .reg (.seq (.seq .reg (.cond (.seq .reg .leaf) .leaf)) (.seq .reg .leaf)))))))
def F_block_Decode (b_a : Option Addr) (b_l : Nat) (b_c : Nat) (w : World) (R : Value → World → Prop) : Prop :=
  (bsplit (decide ((b_l : Int) > (256 : Int)))
    (R (.tuple #[(.slice none 0 0), (.int .i64 (4 : Int))]) w)
    ((∃ J : Option Addr → Nat → Nat → World → Prop,
    (∀ (_junk : Env) (out_a1 : Option Addr) (out_l1 : Nat) (out_c1 : Nat) (w8 : World), J out_a1 out_l1 out_c1 w8 →
      (Calls Try.prog N_block_Encode #[(.slice out_a1 out_l1 out_c1), (.int .i64 (b_l : Int))] w8 fun e_1 w9 =>
      ∃ r_a1 : Option Addr, ∃ r_l1 : Nat, ∃ r_c1 : Nat, ∃ r : Int, e_1 = .returned (.tuple #[(.slice r_a1 r_l1 r_c1), (.int .i64 r)]) ∧
      (bsplit (!decide (r = (0 : Int)))
        (R (.tuple #[(.slice none 0 0), (.int .i64 (4 : Int))]) w9)
        ((Calls Try.prog N_bytes_Equal #[(.slice r_a1 r_l1 r_c1), (.slice b_a b_l b_c)] w9 fun e_2 w10 =>
        ∃ r1 : Bool, e_2 = .returned (.bool r1) ∧
        (bsplit (!r1)
          (R (.tuple #[(.slice none 0 0), (.int .i64 (4 : Int))]) w10)
          (R (.tuple #[(.slice out_a1 out_l1 out_c1), (.int .i64 (0 : Int))]) w10))))))) ∧
    (∃ I : Option Addr → Nat → Nat → Option Addr → Nat → Nat → Nat × (World → Prop), (I none 0 0 b_a b_l b_c).2 w ∧
    (∀ (_junk : Env) (out_a : Option Addr) (out_l : Nat) (out_c : Nat) (rest_a : Option Addr) (rest_l : Nat) (rest_c : Nat) (w1 : World), (I out_a out_l out_c rest_a rest_l rest_c).2 w1 →
      (∃ J1 : World → Prop,
      (∀ (_junk : Env)  (w2 : World), J1 w2 →
        (kDrew w2 fun w3 =>
        (kIx rest_a rest_l (0 : Int) fun b1 =>
        (kLd w3 (b1.add ((0 : Int).toNat * 1)) .u8 fun x2 =>
        (kLet (bAnd .u8 x2 (15 : Int)) fun x3 =>
        (kW .i64 (x3) fun x4 =>
        (kW .i64 (x4 * 2 ^ 8) fun x5 =>
        (kIx rest_a rest_l (1 : Int) fun b2 =>
        (kLd w3 (b2.add ((1 : Int).toNat * 1)) .u8 fun x6 =>
        (kW .i64 (x6) fun x7 =>
        (kLet (bOr .i64 x5 x7) fun x8 =>
        (kW .i64 ((rest_l : Int) - (2 : Int)) fun x9 =>
        (bsplit (decide (x8 > x9))
          (R (.tuple #[(.slice none 0 0), (.int .i64 (4 : Int))]) w3)
          ((kDrew w3 fun w4 =>
          (∃ S : Nat → Prop,
          (kIx rest_a rest_l (0 : Int) fun b3 =>
          (S (b3.add ((0 : Int).toNat * 1)).block ∧
          (kLd w4 (b3.add ((0 : Int).toNat * 1)) .u8 fun x10 =>
          (kLet (Int.fdiv x10 (2 ^ 4)) fun x11 =>
          (kW .i64 (x11) fun x12 =>
          (kW .i64 ((2 : Int) + x8) fun x13 =>
          ((0 ≤ x13 ∧ x13 ≤ ((rest_c : Nat) : Int)) ∧ ((0 ≤ (2 : Int) ∧ (2 : Int) ≤ ((x13.toNat : Nat) : Int)) ∧ (Calls Try.prog N_slices_Clone_Sbyte_byte #[(.slice (slAddr rest_c ((2 : Int).toNat) 1 rest_a) (x13.toNat - (2 : Int).toNat) (rest_c - (2 : Int).toNat))] w4 fun e_ w5 =>
          ∃ r_a : Option Addr, ∃ r_l : Nat, ∃ r_c : Nat, e_ = .returned (.slice r_a r_l r_c) ∧
          (KeepsB S w4 w5 ∧ (KeepsB S w4 w5 ∧ (kAlloc w5 #[(.int .i64 x12), (.slice r_a r_l r_c)] Ty_api_Section fun b4 w6 =>
          (KeepsB S w4 w6 ∧ (AppP Try.prog #[Ty_S_api_Section, Ty_S_api_Section] Ty_S_api_Section #[(.slice out_a out_l out_c), (.slice (some ⟨b4, 0, none⟩) 1 1)] w6 fun x_a x_l x_c w7 =>
          (KeepsB S w4 w7 ∧ (kW .i64 ((2 : Int) + x8) fun x14 =>
          ((0 ≤ x14 ∧ x14 ≤ ((rest_l : Nat) : Int)) ∧ ((I x_a x_l x_c (slAddr rest_c (x14.toNat) 1 rest_a) (rest_l - x14.toNat) (rest_c - x14.toNat)).2 w7 ∧ (I x_a x_l x_c (slAddr rest_c (x14.toNat) 1 rest_a) (rest_l - x14.toNat) (rest_c - x14.toNat)).1 < (I out_a out_l out_c rest_a rest_l rest_c).1)))))))))))))))))))))))))))))))))) ∧
      (bsplit (decide ((rest_l : Int) ≥ (2 : Int)))
        ((kIx rest_a rest_l (0 : Int) fun b =>
        (kLd w1 (b.add ((0 : Int).toNat * 1)) .u8 fun x =>
        (kLet (Int.fdiv x (2 ^ 4)) fun x1 =>
        (bsplit (!decide (x1 = (15 : Int)))
          (J1 w1)
          (J out_a out_l out_c w1))))))
        (J out_a out_l out_c w1))))))))
theorem F_block_Decode_eq (b_a : Option Addr) (b_l : Nat) (b_c : Nat) (w : World) (R : Value → World → Prop) : sxFn Try.prog TT h_block_Decode Try.f12 #[(.slice b_a b_l b_c)] w R = F_block_Decode b_a b_l b_c w R := by kernel_rfl
theorem F_block_Decode_ok {R : Ending → World → Prop} (b_a : Option Addr) (b_l : Nat) (b_c : Nat) (w : World) (h : F_block_Decode b_a b_l b_c w fun v w' => R (.returned v) w') : Calls Try.prog N_block_Decode #[(.slice b_a b_l b_c)] w R :=
  calls_of (f := 12) follows_ok Try.func12 (Eq.mpr (F_block_Decode_eq b_a b_l b_c w _) h)

def h_ref24_Decode : H := (.seq .reg (.seq .reg (.cut [(4, .p .slice)] [4, 5, 6, 7, 10, 11, 12, 13, 14, 15, 16, 17, 18, 19, 20, 21, 22, 23, 24, 25, 26, 27, 28, 29, 30, 31, 32, 33, 34, 35, 36, 37, 38, 39, 40, 41, 42, 43, 44, 45, 46, 47, 48, 49, 50, 51, 52, 53, 54, 55, 56, 57, 58, 59, 60, 61, 62] (.seq .reg (.block (.loop [(4, .p .slice), (5, .p (.int .i64))] [4, 5, 6, 7, 10, 11, 12, 13, 14, 15, 16, 17, 18, 19, 20, 21, 22, 23, 24, 25, 26, 27, 28, 29, 30, 31, 32, 33, 34, 35, 36, 37, 38, 39, 40, 41, 42, 43, 44, 45, 46, 47, 48, 49, 50, 51, 52, 53, 54, 55, 56, 57, 58, 59, 60, 61, 62] (.seq (.seq .reg (.cond .leaf .leaf)) (.block (.seq (.draw false (.one 0 .stable (.one 1 .stable (.one 2 .stable (.one 3 .stable (.one 4 .stable (.one 5 .stable (.one 6 .stable (.one 7 .stable (.one 8 .stable (.one 9 .stable (.one 10 .stable (.one 11 .stable (.one 12 .stable (.one 13 .stable (.one 14 .stable (.one 15 .stable (.one 16 .stable (.one 17 .stable (.one 18 .stable (.one 19 .stable (.one 20 .stable (.one 21 .stable .nil))))))))))))))))))))))) (.seq .reg (.cut [] [37, 38, 39, 40, 41, 42, 43, 44, 45, 46] (.seq .reg (.cond .leaf .leaf)) (.seq .reg .reg))))))))) (.seq .reg (.seq (.seq .reg (.cond (.seq .reg .leaf) .leaf)) (.seq .reg .leaf))))))
def F_ref24_Decode (b_a : Option Addr) (b_l : Nat) (b_c : Nat) (w : World) (R : Value → World → Prop) : Prop :=
  (∃ J : Option Addr → Nat → Nat → World → Prop,
  (∀ (_junk : Env) (l_a1 : Option Addr) (l_l1 : Nat) (l_c1 : Nat) (w8 : World), J l_a1 l_l1 l_c1 w8 →
    (Calls Try.prog N_ref24_Encode #[(.slice l_a1 l_l1 l_c1), (.int .i64 (b_l : Int))] w8 fun e_ w9 =>
    ∃ r_a : Option Addr, ∃ r_l : Nat, ∃ r_c : Nat, ∃ r : Int, e_ = .returned (.tuple #[(.slice r_a r_l r_c), (.int .i64 r)]) ∧
    (bsplit (!decide (r = (0 : Int)))
      (R (.tuple #[(.slice none 0 0), (.int .i64 (4 : Int))]) w9)
      ((Calls Try.prog N_ref24_SameBytes #[(.slice r_a r_l r_c), (.slice b_a b_l b_c)] w9 fun e_1 w10 =>
      ∃ r1 : Bool, e_1 = .returned (.bool r1) ∧
      (bsplit (!r1)
        (R (.tuple #[(.slice none 0 0), (.int .i64 (4 : Int))]) w10)
        (R (.tuple #[(.slice l_a1 l_l1 l_c1), (.int .i64 (0 : Int))]) w10))))))) ∧
  (∃ I : Option Addr → Nat → Nat → Int → Nat × (World → Prop), (I none 0 0 (0 : Int)).2 w ∧
  (∀ (_junk : Env) (l_a : Option Addr) (l_l : Nat) (l_c : Nat) (at1 : Int) (w1 : World), (I l_a l_l l_c at1).2 w1 →
    (kW .i64 (at1 + (1 : Int)) fun x =>
    (bsplit (decide (x < (b_l : Int)))
      ((kDrew w1 fun w2 =>
      (kIx b_a b_l at1 fun b =>
      (kLd w2 (b.add (at1.toNat * 1)) .u8 fun x1 =>
      (kLet (Int.fdiv x1 (2 ^ 4)) fun x2 =>
      (kW .i64 (x2) fun x3 =>
      (kIx b_a b_l at1 fun b1 =>
      (kLd w2 (b1.add (at1.toNat * 1)) .u8 fun x4 =>
      (kLet (bAnd .u8 x4 (15 : Int)) fun x5 =>
      (kW .i64 (x5) fun x6 =>
      (kW .i64 (x6 * 2 ^ 8) fun x7 =>
      (kW .i64 (at1 + (1 : Int)) fun x8 =>
      (kIx b_a b_l x8 fun b2 =>
      (kLd w2 (b2.add (x8.toNat * 1)) .u8 fun x9 =>
      (kW .i64 (x9) fun x10 =>
      (kLet (bOr .i64 x7 x10) fun x11 =>
      (kW .i64 (at1 + (2 : Int)) fun x12 =>
      (∃ J1 : World → Prop,
      (∀ (_junk : Env)  (w3 : World), J1 w3 →
        (kAlloc w3 #[] Ty_uint8 fun b3 w4 =>
        (kW .i64 (x12 + x11) fun x14 =>
        ((0 ≤ x14 ∧ x14 ≤ ((b_c : Nat) : Int)) ∧ ((0 ≤ x12 ∧ x12 ≤ ((x14.toNat : Nat) : Int)) ∧ (AppP Try.prog #[Ty_S_uint8, Ty_S_uint8] Ty_S_uint8 #[(.slice (some ⟨b3, 0, none⟩) 0 0), (.slice (slAddr b_c (x12.toNat) 1 b_a) (x14.toNat - x12.toNat) (b_c - x12.toNat))] w4 fun x_a x_l x_c w5 =>
        (kAlloc w5 #[(.int .i64 x3), (.slice x_a x_l x_c)] Ty_api_Section fun b4 w6 =>
        (AppP Try.prog #[Ty_S_api_Section, Ty_S_api_Section] Ty_S_api_Section #[(.slice l_a l_l l_c), (.slice (some ⟨b4, 0, none⟩) 1 1)] w6 fun x_a1 x_l1 x_c1 w7 =>
        (kW .i64 (x12 + x11) fun x15 =>
        ((I x_a1 x_l1 x_c1 x15).2 w7 ∧ (I x_a1 x_l1 x_c1 x15).1 < (I l_a l_l l_c at1).1)))))))))) ∧
      (bsplit (decide (x3 = (15 : Int)))
        (J l_a l_l l_c w2)
        ((kW .i64 ((b_l : Int) - x12) fun x13 =>
        (bsplit (decide (x11 > x13))
          (J l_a l_l l_c w2)
          (J1 w2)))))))))))))))))))))))
      (J l_a l_l l_c w1))))))
theorem F_ref24_Decode_eq (b_a : Option Addr) (b_l : Nat) (b_c : Nat) (w : World) (R : Value → World → Prop) : sxFn Try.prog TT h_ref24_Decode Try.f13 #[(.slice b_a b_l b_c)] w R = F_ref24_Decode b_a b_l b_c w R := by kernel_rfl
theorem F_ref24_Decode_ok {R : Ending → World → Prop} (b_a : Option Addr) (b_l : Nat) (b_c : Nat) (w : World) (h : F_ref24_Decode b_a b_l b_c w fun v w' => R (.returned v) w') : Calls Try.prog N_ref24_Decode #[(.slice b_a b_l b_c)] w R :=
  calls_of (f := 13) follows_ok Try.func13 (Eq.mpr (F_ref24_Decode_eq b_a b_l b_c w _) h)

def h_ref24_SameBytes : H := (.seq .reg (.seq (.seq .reg (.cond (.seq .reg .leaf) .leaf)) (.seq (.seq .reg (.block (.loop [(5, .p (.int .i64))] [4, 5, 11, 12, 13, 14, 15, 16, 17, 18, 19, 20, 21, 22, 23, 24, 25] (.seq (.seq .reg (.cond .leaf .leaf)) (.seq (.block (.seq (.draw false (.one 0 .stable (.one 1 .stable (.one 2 .stable (.one 3 .stable (.one 4 .stable (.one 5 .stable (.one 6 .stable (.one 7 .stable (.one 8 .stable .nil)))))))))) (.cond (.seq .reg .leaf) .leaf))) .reg))))) (.seq .reg .leaf))))
def F_ref24_SameBytes (a_a : Option Addr) (a_l : Nat) (a_c : Nat) (b_a : Option Addr) (b_l : Nat) (b_c : Nat) (w : World) (R : Value → World → Prop) : Prop :=
  (bsplit (!decide ((a_l : Int) = (b_l : Int)))
    (R (.bool false) w)
    ((∃ I : Int → Nat × (World → Prop), (I (0 : Int)).2 w ∧
    (∀ (_junk : Env) (i : Int) (w1 : World), (I i).2 w1 →
      (bsplit (decide (i < (a_l : Int)))
        ((kDrew w1 fun w2 =>
        (kIx a_a a_l i fun b =>
        (kLd w2 (b.add (i.toNat * 1)) .u8 fun x =>
        (kIx b_a b_l i fun b1 =>
        (kLd w2 (b1.add (i.toNat * 1)) .u8 fun x1 =>
        (bsplit (!decide (x = x1))
          (R (.bool false) w2)
          ((kW .i64 (i + (1 : Int)) fun x2 =>
          ((I x2).2 w2 ∧ (I x2).1 < (I i).1))))))))))
        (R (.bool true) w1))))))
theorem F_ref24_SameBytes_eq (a_a : Option Addr) (a_l : Nat) (a_c : Nat) (b_a : Option Addr) (b_l : Nat) (b_c : Nat) (w : World) (R : Value → World → Prop) : sxFn Try.prog TT h_ref24_SameBytes Try.f14 #[(.slice a_a a_l a_c), (.slice b_a b_l b_c)] w R = F_ref24_SameBytes a_a a_l a_c b_a b_l b_c w R := by kernel_rfl
theorem F_ref24_SameBytes_ok {R : Ending → World → Prop} (a_a : Option Addr) (a_l : Nat) (a_c : Nat) (b_a : Option Addr) (b_l : Nat) (b_c : Nat) (w : World) (h : F_ref24_SameBytes a_a a_l a_c b_a b_l b_c w fun v w' => R (.returned v) w') : Calls Try.prog N_ref24_SameBytes #[(.slice a_a a_l a_c), (.slice b_a b_l b_c)] w R :=
  calls_of (f := 14) follows_ok Try.func14 (Eq.mpr (F_ref24_SameBytes_eq a_a a_l a_c b_a b_l b_c w _) h)

def h_ref24_Same : H := (.seq .reg (.seq (.seq .reg (.cond (.seq .reg .leaf) .leaf)) (.seq (.seq .reg (.block (.loop [(5, .p (.int .i64))] [4, 5, 11, 12, 13, 14, 15, 16, 17, 18, 19, 20, 21, 22, 23, 24, 25, 26, 27, 28, 29, 30, 31, 32, 33, 34, 35, 36, 37, 38, 39, 40, 41] (.seq (.seq .reg (.cond .leaf .leaf)) (.seq (.block (.seq (.draw true (.one 0 .stable (.one 1 .stable (.one 2 .stable (.one 3 .stable (.one 4 .stable (.one 5 .stable (.one 6 .stable (.one 7 .stable (.one 8 .stable (.one 9 .stable (.one 10 .stable (.one 11 .pre (.one 12 .stable (.one 13 .stable (.one 14 .stable (.one 15 .stable (.one 16 .pre (.one 17 .stable (.one 18 .stable (.one 19 .stable (.one 20 .stable (.one 21 .pre (.one 22 .keep (.one 23 .stable (.one 24 .stable .nil)))))))))))))))))))))))))) (.cond (.seq .reg .leaf) .leaf))) .reg))))) (.seq .reg .leaf))))
def F_ref24_Same (a_a : Option Addr) (a_l : Nat) (a_c : Nat) (b_a : Option Addr) (b_l : Nat) (b_c : Nat) (w : World) (R : Value → World → Prop) : Prop :=
  (bsplit (!decide ((a_l : Int) = (b_l : Int)))
    (R (.bool false) w)
    ((∃ I : Int → Nat × (World → Prop), (I (0 : Int)).2 w ∧
    (∀ (_junk : Env) (i : Int) (w1 : World), (I i).2 w1 →
      (bsplit (decide (i < (a_l : Int)))
        ((kDrew w1 fun w2 =>
        (∃ S : Nat → Prop,
        (kIx a_a a_l i fun b =>
        (S (b.add (i.toNat * 2)).block ∧
        (kLd w2 (b.add (i.toNat * 2)) .i64 fun x =>
        (kIx b_a b_l i fun b1 =>
        (S (b1.add (i.toNat * 2)).block ∧
        (kLd w2 (b1.add (i.toNat * 2)) .i64 fun x1 =>
        (bsplit (!decide (x = x1))
          (R (.bool false) w2)
          ((kIx a_a a_l i fun b2 =>
          (kLdS w2 ((b2.add (i.toNat * 2)).add 1) fun x_a x_l x_c =>
          (kIx b_a b_l i fun b3 =>
          (kLdS w2 ((b3.add (i.toNat * 2)).add 1) fun x_a1 x_l1 x_c1 =>
          (Calls Try.prog N_ref24_SameBytes #[(.slice x_a x_l x_c), (.slice x_a1 x_l1 x_c1)] w2 fun e_ w3 =>
          ∃ r : Bool, e_ = .returned (.bool r) ∧
          (KeepsB S w2 w3 ∧ (bsplit (!r)
            (R (.bool false) w3)
            ((kW .i64 (i + (1 : Int)) fun x3 =>
            ((I x3).2 w3 ∧ (I x3).1 < (I i).1)))))))))))))))))))))
        (R (.bool true) w1))))))
theorem F_ref24_Same_eq (a_a : Option Addr) (a_l : Nat) (a_c : Nat) (b_a : Option Addr) (b_l : Nat) (b_c : Nat) (w : World) (R : Value → World → Prop) : sxFn Try.prog TT h_ref24_Same Try.f15 #[(.slice a_a a_l a_c), (.slice b_a b_l b_c)] w R = F_ref24_Same a_a a_l a_c b_a b_l b_c w R := by kernel_rfl
theorem F_ref24_Same_ok {R : Ending → World → Prop} (a_a : Option Addr) (a_l : Nat) (a_c : Nat) (b_a : Option Addr) (b_l : Nat) (b_c : Nat) (w : World) (h : F_ref24_Same a_a a_l a_c b_a b_l b_c w fun v w' => R (.returned v) w') : Calls Try.prog N_ref24_Same #[(.slice a_a a_l a_c), (.slice b_a b_l b_c)] w R :=
  calls_of (f := 15) follows_ok Try.func15 (Eq.mpr (F_ref24_Same_eq a_a a_l a_c b_a b_l b_c w _) h)

def h_block_Check : H := (.seq .reg (.cut [] [4, 9, 10, 11, 12, 13, 14] (.seq .reg (.cond (.seq .reg .leaf) .leaf)) (.seq (.seq .reg (.cond (.seq .reg .leaf) .leaf)) (.seq (.seq .reg (.block (.loop [(20, .p (.int .i64))] [4, 6, 7, 8, 20, 21, 22, 23, 24, 25, 26, 27, 28, 29, 30, 31, 32, 33, 34, 35, 36, 37, 38, 39, 40, 41, 42, 43, 44, 45, 46, 47] (.seq .reg (.seq (.cond .leaf .leaf) (.seq (.block (.seq .reg (.seq .reg (.seq (.seq .reg (.cond (.seq .reg .leaf) .leaf)) (.seq .reg (.cond (.seq .reg .leaf) .leaf)))))) .reg)))))) (.seq (.seq .reg (.cond (.seq .reg .leaf) .leaf)) (.seq .reg .leaf))))))
def F_block_Check (l_a : Option Addr) (l_l : Nat) (l_c : Nat) (room : Int) (w : World) (R : Value → World → Prop) : Prop :=
  (∃ J : World → Prop,
  (∀ (_junk : Env)  (w1 : World), J w1 →
    (bsplit (decide ((l_l : Int) > (32 : Int)))
      (R (.int .i64 (2 : Int)) w1)
      ((∃ I : Int → Nat × (World → Prop), (I (0 : Int)).2 w1 ∧
      (∀ (_junk : Env) (x : Int) (w2 : World), (I x).2 w2 →
        (bsplit (decide (x < (l_l : Int)))
          ((kIx l_a l_l x fun b =>
          (∃ x_0 : Int, ∃ x_1_a : Option Addr, ∃ x_1_l : Nat, ∃ x_1_c : Nat, cellsAt w2 (b.add (x.toNat * 2)) 0 [(.int .i64 x_0), (.slice x_1_a x_1_l x_1_c)] ∧
          (kAlloc w2 #[.int .i64 (0 : Int), .slice none 0 0] Ty_api_Section fun b1 w3 =>
          (sxStore w3 ⟨b1, 0, none⟩ 0 [(.int .i64 x_0), (.slice x_1_a x_1_l x_1_c)] fun w4 =>
          (kLd w4 ⟨b1, 0, none⟩ .i64 fun x1 =>
          (Calls Try.prog N_block_size #[(.int .i64 x1)] w4 fun e_ w5 =>
          ∃ r : Int, ∃ r1 : Bool, e_ = .returned (.tuple #[(.int .i64 r), (.bool r1)]) ∧
          (bsplit (!r1)
            (R (.int .i64 (60 : Int)) w5)
            ((kLdS w5 ⟨b1, 1, none⟩ fun x_a x_l x_c =>
            (bsplit (decide ((x_l : Int) = (0 : Int)))
              (R (.int .i64 (2 : Int)) w5)
              ((bsplit (decide (r > (0 : Int)))
                ((kLdS w5 ⟨b1, 1, none⟩ fun x_a1 x_l1 x_c1 =>
                (bsplit (!decide ((x_l1 : Int) = r))
                  (R (.int .i64 (2 : Int)) w5)
                  ((kW .i64 (x + (1 : Int)) fun x3 =>
                  ((I x3).2 w5 ∧ (I x3).1 < (I x).1))))))
                ((kW .i64 (x + (1 : Int)) fun x4 =>
                  ((I x4).2 w5 ∧ (I x4).1 < (I x).1))))))))))))))))
          ((Calls Try.prog N_block_Used #[(.slice l_a l_l l_c)] w2 fun e_1 w6 =>
          ∃ r2 : Int, e_1 = .returned (.int .i64 r2) ∧
          (bsplit (decide (r2 > room))
            (R (.int .i64 (15 : Int)) w6)
            (R (.int .i64 (0 : Int)) w6)))))))))) ∧
  (bsplit (decide (room < (1 : Int)))
    (R (.int .i64 (3 : Int)) w)
    ((bsplit (decide (room > (256 : Int)))
      (R (.int .i64 (3 : Int)) w)
      (J w)))))
theorem F_block_Check_eq (l_a : Option Addr) (l_l : Nat) (l_c : Nat) (room : Int) (w : World) (R : Value → World → Prop) : sxFn Try.prog TT h_block_Check Try.f16 #[(.slice l_a l_l l_c), (.int .i64 room)] w R = F_block_Check l_a l_l l_c room w R := by kernel_rfl
theorem F_block_Check_ok {R : Ending → World → Prop} (l_a : Option Addr) (l_l : Nat) (l_c : Nat) (room : Int) (w : World) (h : F_block_Check l_a l_l l_c room w fun v w' => R (.returned v) w') : Calls Try.prog N_block_Check #[(.slice l_a l_l l_c), (.int .i64 room)] w R :=
  calls_of (f := 16) follows_ok Try.func16 (Eq.mpr (F_block_Check_eq l_a l_l l_c room w _) h)

def h_ref24_Check : H := (.seq .reg (.cut [] [4, 7, 8, 9, 10, 11, 12] (.seq .reg (.cond (.seq .reg .leaf) .leaf)) (.seq (.seq .reg (.cond (.seq .reg .leaf) .leaf)) (.seq (.seq .reg (.block (.loop [(5, .p (.int .i64))] [4, 5, 6, 16, 17, 18, 19, 20, 21, 22, 23, 24, 25, 26, 27, 28, 29] (.seq (.seq .reg (.cond .leaf .leaf)) (.seq (.block (.seq .reg (.seq .reg (.cond (.seq .reg .leaf) .leaf)))) .reg))))) (.seq (.seq .reg (.cond (.seq .reg .leaf) .leaf)) (.seq .reg .leaf))))))
def F_ref24_Check (l_a : Option Addr) (l_l : Nat) (l_c : Nat) (size : Int) (w : World) (R : Value → World → Prop) : Prop :=
  (∃ J : World → Prop,
  (∀ (_junk : Env)  (w1 : World), J w1 →
    (bsplit (decide ((l_l : Int) > (32 : Int)))
      (R (.int .i64 (2 : Int)) w1)
      ((∃ I : Int → Nat × (World → Prop), (I (0 : Int)).2 w1 ∧
      (∀ (_junk : Env) (i : Int) (w2 : World), (I i).2 w2 →
        (bsplit (decide (i < (l_l : Int)))
          ((kIx l_a l_l i fun b =>
          (∃ x_0 : Int, ∃ x_1_a : Option Addr, ∃ x_1_l : Nat, ∃ x_1_c : Nat, cellsAt w2 (b.add (i.toNat * 2)) 0 [(.int .i64 x_0), (.slice x_1_a x_1_l x_1_c)] ∧
          (Calls Try.prog N_ref24_section #[(.agg #[.int .i64 x_0, .slice x_1_a x_1_l x_1_c])] w2 fun e_ w3 =>
          ∃ r : Int, e_ = .returned (.int .i64 r) ∧
          (bsplit (!decide (r = (0 : Int)))
            (R (.int .i64 r) w3)
            ((kW .i64 (i + (1 : Int)) fun x =>
            ((I x).2 w3 ∧ (I x).1 < (I i).1))))))))
          ((Calls Try.prog N_ref24_Used #[(.slice l_a l_l l_c)] w2 fun e_1 w4 =>
          ∃ r1 : Int, e_1 = .returned (.int .i64 r1) ∧
          (bsplit (decide (r1 > size))
            (R (.int .i64 (15 : Int)) w4)
            (R (.int .i64 (0 : Int)) w4)))))))))) ∧
  (bsplit (decide (size < (1 : Int)))
    (R (.int .i64 (3 : Int)) w)
    ((bsplit (decide (size > (256 : Int)))
      (R (.int .i64 (3 : Int)) w)
      (J w)))))
theorem F_ref24_Check_eq (l_a : Option Addr) (l_l : Nat) (l_c : Nat) (size : Int) (w : World) (R : Value → World → Prop) : sxFn Try.prog TT h_ref24_Check Try.f17 #[(.slice l_a l_l l_c), (.int .i64 size)] w R = F_ref24_Check l_a l_l l_c size w R := by kernel_rfl
theorem F_ref24_Check_ok {R : Ending → World → Prop} (l_a : Option Addr) (l_l : Nat) (l_c : Nat) (size : Int) (w : World) (h : F_ref24_Check l_a l_l l_c size w fun v w' => R (.returned v) w') : Calls Try.prog N_ref24_Check #[(.slice l_a l_l l_c), (.int .i64 size)] w R :=
  calls_of (f := 17) follows_ok Try.func17 (Eq.mpr (F_ref24_Check_eq l_a l_l l_c size w _) h)

def h_block_Used : H := (.seq .reg (.seq .reg (.seq (.seq .reg (.block (.loop [(3, .p (.int .i64)), (8, .p (.int .i64))] [3, 5, 8, 9, 10, 11, 12, 13, 14, 15, 16, 17, 18] (.seq .reg (.seq (.cond .leaf .leaf) (.seq (.block (.seq .reg .reg)) .reg)))))) (.seq .reg .leaf))))
def F_block_Used (l_a : Option Addr) (l_l : Nat) (l_c : Nat) (w : World) (R : Value → World → Prop) : Prop :=
  (∃ I : Int → Int → Nat × (World → Prop), (I (0 : Int) (0 : Int)).2 w ∧
  (∀ (_junk : Env) (n : Int) (x : Int) (w1 : World), (I n x).2 w1 →
    (bsplit (decide (x < (l_l : Int)))
      ((kIx l_a l_l x fun b =>
      (∃ x_0 : Int, ∃ x_1_a : Option Addr, ∃ x_1_l : Nat, ∃ x_1_c : Nat, cellsAt w1 (b.add (x.toNat * 2)) 0 [(.int .i64 x_0), (.slice x_1_a x_1_l x_1_c)] ∧
      (kAlloc w1 #[.int .i64 (0 : Int), .slice none 0 0] Ty_api_Section fun b1 w2 =>
      (sxStore w2 ⟨b1, 0, none⟩ 0 [(.int .i64 x_0), (.slice x_1_a x_1_l x_1_c)] fun w3 =>
      (kLdS w3 ⟨b1, 1, none⟩ fun x_a x_l x_c =>
      (kW .i64 ((2 : Int) + (x_l : Int)) fun x1 =>
      (kW .i64 (n + x1) fun x2 =>
      (kW .i64 (x + (1 : Int)) fun x3 =>
      ((I x2 x3).2 w3 ∧ (I x2 x3).1 < (I n x).1))))))))))
      (R (.int .i64 n) w1))))
theorem F_block_Used_eq (l_a : Option Addr) (l_l : Nat) (l_c : Nat) (w : World) (R : Value → World → Prop) : sxFn Try.prog TT h_block_Used Try.f18 #[(.slice l_a l_l l_c)] w R = F_block_Used l_a l_l l_c w R := by kernel_rfl
theorem F_block_Used_ok {R : Ending → World → Prop} (l_a : Option Addr) (l_l : Nat) (l_c : Nat) (w : World) (h : F_block_Used l_a l_l l_c w fun v w' => R (.returned v) w') : Calls Try.prog N_block_Used #[(.slice l_a l_l l_c)] w R :=
  calls_of (f := 18) follows_ok Try.func18 (Eq.mpr (F_block_Used_eq l_a l_l l_c w _) h)

def h_ref24_Used : H := (.seq .reg (.seq .reg (.seq (.seq .reg (.block (.loop [(3, .p (.int .i64)), (4, .p (.int .i64))] [3, 4, 5, 6, 7, 8, 9, 10, 11, 12, 13, 14, 15, 16, 17, 18, 19] (.seq (.seq .reg (.cond .leaf .leaf)) (.seq (.block .reg) .reg))))) (.seq .reg .leaf))))
def F_ref24_Used (l_a : Option Addr) (l_l : Nat) (l_c : Nat) (w : World) (R : Value → World → Prop) : Prop :=
  (∃ I : Int → Int → Nat × (World → Prop), (I (0 : Int) (0 : Int)).2 w ∧
  (∀ (_junk : Env) (n : Int) (i : Int) (w1 : World), (I n i).2 w1 →
    (bsplit (decide (i < (l_l : Int)))
      ((kW .i64 (n + (2 : Int)) fun x =>
      (kIx l_a l_l i fun b =>
      (kLdS w1 ((b.add (i.toNat * 2)).add 1) fun x_a x_l x_c =>
      (kW .i64 (x + (x_l : Int)) fun x1 =>
      (kW .i64 (i + (1 : Int)) fun x2 =>
      ((I x1 x2).2 w1 ∧ (I x1 x2).1 < (I n i).1)))))))
      (R (.int .i64 n) w1))))
theorem F_ref24_Used_eq (l_a : Option Addr) (l_l : Nat) (l_c : Nat) (w : World) (R : Value → World → Prop) : sxFn Try.prog TT h_ref24_Used Try.f19 #[(.slice l_a l_l l_c)] w R = F_ref24_Used l_a l_l l_c w R := by kernel_rfl
theorem F_ref24_Used_ok {R : Ending → World → Prop} (l_a : Option Addr) (l_l : Nat) (l_c : Nat) (w : World) (h : F_ref24_Used l_a l_l l_c w fun v w' => R (.returned v) w') : Calls Try.prog N_ref24_Used #[(.slice l_a l_l l_c)] w R :=
  calls_of (f := 19) follows_ok Try.func19 (Eq.mpr (F_ref24_Used_eq l_a l_l l_c w _) h)

def h_roll_Light : H := (.seq .reg (.seq .reg .leaf))
def F_roll_Light (l_a : Option Addr) (l_l : Nat) (l_c : Nat) (w : World) (R : Value → World → Prop) : Prop :=
  (kLet (decide ((l_l : Int) ≤ (300 : Int))) fun x =>
  R (.bool x) w)
theorem F_roll_Light_eq (l_a : Option Addr) (l_l : Nat) (l_c : Nat) (w : World) (R : Value → World → Prop) : sxFn Try.prog TT h_roll_Light Try.f20 #[(.slice l_a l_l l_c)] w R = F_roll_Light l_a l_l l_c w R := by kernel_rfl
theorem F_roll_Light_ok {R : Ending → World → Prop} (l_a : Option Addr) (l_l : Nat) (l_c : Nat) (w : World) (h : F_roll_Light l_a l_l l_c w fun v w' => R (.returned v) w') : Calls Try.prog N_roll_Light #[(.slice l_a l_l l_c)] w R :=
  calls_of (f := 20) follows_ok Try.func20 (Eq.mpr (F_roll_Light_eq l_a l_l l_c w _) h)

def h_law24_sections : H := (.seq .reg (.seq .reg (.seq (.seq .reg (.block (.loop [(3, .p .slice), (4, .p (.int .i64))] [3, 4, 5, 8, 9, 10, 11, 12, 13, 14, 15, 16, 17, 18, 19, 20, 21, 22, 23, 24, 25, 26, 27, 28, 29, 30, 31, 32, 33, 34, 35, 36, 37, 38, 39, 40, 41, 42] (.seq (.seq .reg (.cond .leaf .leaf)) (.seq (.block (.seq .reg (.block (.seq .reg (.cond .reg (.seq .reg (.cond .reg .reg))))))) .reg))))) (.seq .reg .leaf))))
def F_law24_sections (d_b : Nat) (d_o : Nat) (w : World) (R : Value → World → Prop) : Prop :=
  (Calls Try.prog N_roll_Dice_Next #[(.pointer (some ⟨d_b, d_o, none⟩)), (.int .i64 (8 : Int))] w fun e_ w1 =>
  ∃ r : Int, e_ = .returned (.int .i64 r) ∧
  (∃ I : Option Addr → Nat → Nat → Int → Nat × (World → Prop), (I none 0 0 r).2 w1 ∧
  (∀ (_junk : Env) (l_a : Option Addr) (l_l : Nat) (l_c : Nat) (i : Int) (w2 : World), (I l_a l_l l_c i).2 w2 →
    (bsplit (decide (i > (0 : Int)))
      ((Calls Try.prog N_roll_Dice_Next #[(.pointer (some ⟨d_b, d_o, none⟩)), (.int .i64 (11 : Int))] w2 fun e_1 w3 =>
      ∃ r1 : Int, e_1 = .returned (.int .i64 r1) ∧
      (kLet (decide (r1 < (8 : Int))) fun x =>
      (bsplit x
        ((Calls Try.prog N_roll_Dice_Next #[(.pointer (some ⟨d_b, d_o, none⟩)), (.int .i64 (20 : Int))] w3 fun e_2 w4 =>
        ∃ r2 : Int, e_2 = .returned (.int .i64 r2) ∧
        (kW .i64 ((1 : Int) + r2) fun x1 =>
        (Calls Try.prog N_roll_Dice_Bytes #[(.pointer (some ⟨d_b, d_o, none⟩)), (.int .i64 x1)] w4 fun e_3 w5 =>
        ∃ r_a : Option Addr, ∃ r_l : Nat, ∃ r_c : Nat, e_3 = .returned (.slice r_a r_l r_c) ∧
        (kAlloc w5 #[(.int .i64 r1), (.slice r_a r_l r_c)] Ty_api_Section fun b w6 =>
        (AppP Try.prog #[Ty_S_api_Section, Ty_S_api_Section] Ty_S_api_Section #[(.slice l_a l_l l_c), (.slice (some ⟨b, 0, none⟩) 1 1)] w6 fun x_a x_l x_c w7 =>
        (kW .i64 (i - (1 : Int)) fun x2 =>
        ((I x_a x_l x_c x2).2 w7 ∧ (I x_a x_l x_c x2).1 < (I l_a l_l l_c i).1))))))))
        ((kLet (decide (r1 = (8 : Int))) fun x3 =>
        (bsplit x3
          ((Calls Try.prog N_roll_Dice_Bytes #[(.pointer (some ⟨d_b, d_o, none⟩)), (.int .i64 (1 : Int))] w3 fun e_4 w8 =>
          ∃ r_a1 : Option Addr, ∃ r_l1 : Nat, ∃ r_c1 : Nat, e_4 = .returned (.slice r_a1 r_l1 r_c1) ∧
          (kAlloc w8 #[(.int .i64 (8 : Int)), (.slice r_a1 r_l1 r_c1)] Ty_api_Section fun b1 w9 =>
          (AppP Try.prog #[Ty_S_api_Section, Ty_S_api_Section] Ty_S_api_Section #[(.slice l_a l_l l_c), (.slice (some ⟨b1, 0, none⟩) 1 1)] w9 fun x_a1 x_l1 x_c1 w10 =>
          (kW .i64 (i - (1 : Int)) fun x4 =>
          ((I x_a1 x_l1 x_c1 x4).2 w10 ∧ (I x_a1 x_l1 x_c1 x4).1 < (I l_a l_l l_c i).1))))))
          ((Calls Try.prog N_roll_Dice_Bytes #[(.pointer (some ⟨d_b, d_o, none⟩)), (.int .i64 (2 : Int))] w3 fun e_5 w11 =>
          ∃ r_a2 : Option Addr, ∃ r_l2 : Nat, ∃ r_c2 : Nat, e_5 = .returned (.slice r_a2 r_l2 r_c2) ∧
          (kAlloc w11 #[(.int .i64 r1), (.slice r_a2 r_l2 r_c2)] Ty_api_Section fun b2 w12 =>
          (AppP Try.prog #[Ty_S_api_Section, Ty_S_api_Section] Ty_S_api_Section #[(.slice l_a l_l l_c), (.slice (some ⟨b2, 0, none⟩) 1 1)] w12 fun x_a2 x_l2 x_c2 w13 =>
          (kW .i64 (i - (1 : Int)) fun x5 =>
          ((I x_a2 x_l2 x_c2 x5).2 w13 ∧ (I x_a2 x_l2 x_c2 x5).1 < (I l_a l_l l_c i).1)))))))))))))
      (R (.slice l_a l_l l_c) w2)))))
theorem F_law24_sections_eq (d_b : Nat) (d_o : Nat) (w : World) (R : Value → World → Prop) : sxFn Try.prog TT h_law24_sections Try.f21 #[(.pointer (some ⟨d_b, d_o, none⟩))] w R = F_law24_sections d_b d_o w R := by kernel_rfl
theorem F_law24_sections_ok {R : Ending → World → Prop} (d_b : Nat) (d_o : Nat) (w : World) (h : F_law24_sections d_b d_o w fun v w' => R (.returned v) w') : Calls Try.prog N_law24_sections #[(.pointer (some ⟨d_b, d_o, none⟩))] w R :=
  calls_of (f := 21) follows_ok Try.func21 (Eq.mpr (F_law24_sections_eq d_b d_o w _) h)

def h_roll_Roll : H := (.seq .reg (.seq .reg .leaf))
def F_roll_Roll (l_a : Option Addr) (l_l : Nat) (l_c : Nat) (w : World) (R : Value → World → Prop) : Prop :=
  (kAlloc w #[] Ty_int fun b w1 =>
  (AppP Try.prog #[Ty_S_int, Ty_S_int] Ty_S_int #[(.slice (some ⟨b, 0, none⟩) 0 0), (.slice l_a l_l l_c)] w1 fun x_a x_l x_c w2 =>
  (kAlloc w2 #[(.slice x_a x_l x_c), (.int .i64 (0 : Int))] Ty_radiolinkroll_Dice fun b1 w3 =>
  R (.pointer (some ⟨b1, 0, none⟩)) w3)))
theorem F_roll_Roll_eq (l_a : Option Addr) (l_l : Nat) (l_c : Nat) (w : World) (R : Value → World → Prop) : sxFn Try.prog TT h_roll_Roll Try.f22 #[(.slice l_a l_l l_c)] w R = F_roll_Roll l_a l_l l_c w R := by kernel_rfl
theorem F_roll_Roll_ok {R : Ending → World → Prop} (l_a : Option Addr) (l_l : Nat) (l_c : Nat) (w : World) (h : F_roll_Roll l_a l_l l_c w fun v w' => R (.returned v) w') : Calls Try.prog N_roll_Roll #[(.slice l_a l_l l_c)] w R :=
  calls_of (f := 22) follows_ok Try.func22 (Eq.mpr (F_roll_Roll_eq l_a l_l l_c w _) h)

def h_roll_Mod : H := (.seq .reg (.seq (.seq .reg (.cond (.seq .reg .leaf) .leaf)) (.seq .reg .leaf)))
def F_roll_Mod (x : Int) (n : Int) (w : World) (R : Value → World → Prop) : Prop :=
  (bsplit (decide (n < (1 : Int)))
    (R (.int .i64 (0 : Int)) w)
    ((n ≠ 0 ∧ (kLet (Int.tmod x n) fun x1 =>
    (kW .i64 (x1 + n) fun x2 =>
    (n ≠ 0 ∧ (kLet (Int.tmod x2 n) fun x3 =>
    R (.int .i64 x3) w)))))))
theorem F_roll_Mod_eq (x : Int) (n : Int) (w : World) (R : Value → World → Prop) : sxFn Try.prog TT h_roll_Mod Try.f23 #[(.int .i64 x), (.int .i64 n)] w R = F_roll_Mod x n w R := by kernel_rfl
theorem F_roll_Mod_ok {R : Ending → World → Prop} (x : Int) (n : Int) (w : World) (h : F_roll_Mod x n w fun v w' => R (.returned v) w') : Calls Try.prog N_roll_Mod #[(.int .i64 x), (.int .i64 n)] w R :=
  calls_of (f := 23) follows_ok Try.func23 (Eq.mpr (F_roll_Mod_eq x n w _) h)

def h_block_join : H := (.seq .reg (.seq (.seq .reg (.block (.loop [(0, .p .slice), (9, .p (.int .i64))] [0, 6, 9, 10, 11, 12, 13, 14, 15, 16] (.seq .reg (.seq (.cond .leaf .leaf) (.seq (.block (.seq .reg .reg)) .reg)))))) (.seq .reg .leaf)))
def F_block_join (b_a : Option Addr) (b_l : Nat) (b_c : Nat) (parts_a : Option Addr) (parts_l : Nat) (parts_c : Nat) (w : World) (R : Value → World → Prop) : Prop :=
  (∃ I : Option Addr → Nat → Nat → Int → Nat × (World → Prop), (I b_a b_l b_c (0 : Int)).2 w ∧
  (∀ (_junk : Env) (b_a1 : Option Addr) (b_l1 : Nat) (b_c1 : Nat) (x : Int) (w1 : World), (I b_a1 b_l1 b_c1 x).2 w1 →
    (bsplit (decide (x < (parts_l : Int)))
      ((kIx parts_a parts_l x fun b =>
      (kLdS w1 (b.add (x.toNat * 1)) fun x_a x_l x_c =>
      (AppP Try.prog #[Ty_S_uint8, Ty_S_uint8] Ty_S_uint8 #[(.slice b_a1 b_l1 b_c1), (.slice x_a x_l x_c)] w1 fun x_a1 x_l1 x_c1 w2 =>
      (kW .i64 (x + (1 : Int)) fun x1 =>
      ((I x_a1 x_l1 x_c1 x1).2 w2 ∧ (I x_a1 x_l1 x_c1 x1).1 < (I b_a1 b_l1 b_c1 x).1))))))
      (R (.slice b_a1 b_l1 b_c1) w1))))
theorem F_block_join_eq (b_a : Option Addr) (b_l : Nat) (b_c : Nat) (parts_a : Option Addr) (parts_l : Nat) (parts_c : Nat) (w : World) (R : Value → World → Prop) : sxFn Try.prog TT h_block_join Try.f24 #[(.slice b_a b_l b_c), (.slice parts_a parts_l parts_c)] w R = F_block_join b_a b_l b_c parts_a parts_l parts_c w R := by kernel_rfl
theorem F_block_join_ok {R : Ending → World → Prop} (b_a : Option Addr) (b_l : Nat) (b_c : Nat) (parts_a : Option Addr) (parts_l : Nat) (parts_c : Nat) (w : World) (h : F_block_join b_a b_l b_c parts_a parts_l parts_c w fun v w' => R (.returned v) w') : Calls Try.prog N_block_join #[(.slice b_a b_l b_c), (.slice parts_a parts_l parts_c)] w R :=
  calls_of (f := 24) follows_ok Try.func24 (Eq.mpr (F_block_join_eq b_a b_l b_c parts_a parts_l parts_c w _) h)

def h_block_begin : H := (.seq .reg (.seq .reg .leaf))
def F_block_begin (channel : Int) (n : Int) (w : World) (R : Value → World → Prop) : Prop :=
  (kW .i64 (channel * 2 ^ 4) fun x =>
  (kLet (Int.fdiv n (2 ^ 8)) fun x1 =>
  (kLet (bOr .i64 x x1) fun x2 =>
  (kW .u8 (x2) fun x3 =>
  (kW .u8 (n) fun x4 =>
  (kAlloc w #[(.int .u8 x3), (.int .u8 x4)] Ty_uint8 fun b w1 =>
  R (.slice (some ⟨b, 0, none⟩) 2 2) w1))))))
theorem F_block_begin_eq (channel : Int) (n : Int) (w : World) (R : Value → World → Prop) : sxFn Try.prog TT h_block_begin Try.f25 #[(.int .i64 channel), (.int .i64 n)] w R = F_block_begin channel n w R := by kernel_rfl
theorem F_block_begin_ok {R : Ending → World → Prop} (channel : Int) (n : Int) (w : World) (h : F_block_begin channel n w fun v w' => R (.returned v) w') : Calls Try.prog N_block_begin #[(.int .i64 channel), (.int .i64 n)] w R :=
  calls_of (f := 25) follows_ok Try.func25 (Eq.mpr (F_block_begin_eq channel n w _) h)

def h_ref24_head : H := (.seq .reg (.seq .reg .leaf))
def F_ref24_head (channel : Int) (n : Int) (w : World) (R : Value → World → Prop) : Prop :=
  (kW .i64 (channel * 2 ^ 4) fun x =>
  (kLet (Int.fdiv n (2 ^ 8)) fun x1 =>
  (kLet (bOr .i64 x x1) fun x2 =>
  (kW .u8 (x2) fun x3 =>
  (kW .u8 (n) fun x4 =>
  (kAlloc w #[(.int .u8 x3), (.int .u8 x4)] Ty_uint8 fun b w1 =>
  R (.slice (some ⟨b, 0, none⟩) 2 2) w1))))))
theorem F_ref24_head_eq (channel : Int) (n : Int) (w : World) (R : Value → World → Prop) : sxFn Try.prog TT h_ref24_head Try.f26 #[(.int .i64 channel), (.int .i64 n)] w R = F_ref24_head channel n w R := by kernel_rfl
theorem F_ref24_head_ok {R : Ending → World → Prop} (channel : Int) (n : Int) (w : World) (h : F_ref24_head channel n w fun v w' => R (.returned v) w') : Calls Try.prog N_ref24_head #[(.int .i64 channel), (.int .i64 n)] w R :=
  calls_of (f := 26) follows_ok Try.func26 (Eq.mpr (F_ref24_head_eq channel n w _) h)

def h_slices_Clone_Sbyte_byte : H := (.seq .reg (.seq (.seq .reg (.cond (.seq .reg .leaf) .leaf)) (.seq .reg .leaf)))
def F_slices_Clone_Sbyte_byte (s_a : Option Addr) (s_l : Nat) (s_c : Nat) (w : World) (R : Value → World → Prop) : Prop :=
  (bsplit s_a.isNone
    (R (.slice none 0 0) w)
    ((kAlloc w #[] Ty_uint8 fun b w1 =>
    (AppP Try.prog #[Ty_S_uint8, Ty_S_uint8] Ty_S_uint8 #[(.slice (some ⟨b, 0, none⟩) 0 0), (.slice s_a s_l s_c)] w1 fun x_a x_l x_c w2 =>
    R (.slice x_a x_l x_c) w2))))
theorem F_slices_Clone_Sbyte_byte_eq (s_a : Option Addr) (s_l : Nat) (s_c : Nat) (w : World) (R : Value → World → Prop) : sxFn Try.prog TT h_slices_Clone_Sbyte_byte Try.f27 #[(.slice s_a s_l s_c)] w R = F_slices_Clone_Sbyte_byte s_a s_l s_c w R := by kernel_rfl
theorem F_slices_Clone_Sbyte_byte_ok {R : Ending → World → Prop} (s_a : Option Addr) (s_l : Nat) (s_c : Nat) (w : World) (h : F_slices_Clone_Sbyte_byte s_a s_l s_c w fun v w' => R (.returned v) w') : Calls Try.prog N_slices_Clone_Sbyte_byte #[(.slice s_a s_l s_c)] w R :=
  calls_of (f := 27) follows_ok Try.func27 (Eq.mpr (F_slices_Clone_Sbyte_byte_eq s_a s_l s_c w _) h)

def h_bytes_Equal : H := (.seq .reg (.seq .reg .leaf))
def F_bytes_Equal (a_a : Option Addr) (a_l : Nat) (a_c : Nat) (b_a : Option Addr) (b_l : Nat) (b_c : Nat) (w : World) (R : Value → World → Prop) : Prop :=
  (ConvS Try.prog Ty_S_uint8 Ty_string (.slice a_a a_l a_c) w fun x =>
  (ConvS Try.prog Ty_S_uint8 Ty_string (.slice b_a b_l b_c) w fun x1 =>
  R (.bool (x == x1)) w))
theorem F_bytes_Equal_eq (a_a : Option Addr) (a_l : Nat) (a_c : Nat) (b_a : Option Addr) (b_l : Nat) (b_c : Nat) (w : World) (R : Value → World → Prop) : sxFn Try.prog TT h_bytes_Equal Try.f28 #[(.slice a_a a_l a_c), (.slice b_a b_l b_c)] w R = F_bytes_Equal a_a a_l a_c b_a b_l b_c w R := by kernel_rfl
theorem F_bytes_Equal_ok {R : Ending → World → Prop} (a_a : Option Addr) (a_l : Nat) (a_c : Nat) (b_a : Option Addr) (b_l : Nat) (b_c : Nat) (w : World) (h : F_bytes_Equal a_a a_l a_c b_a b_l b_c w fun v w' => R (.returned v) w') : Calls Try.prog N_bytes_Equal #[(.slice a_a a_l a_c), (.slice b_a b_l b_c)] w R :=
  calls_of (f := 28) follows_ok Try.func28 (Eq.mpr (F_bytes_Equal_eq a_a a_l a_c b_a b_l b_c w _) h)

def h_block_size : H := (.seq .reg (.seq (.seq .reg (.block (.seq .reg (.cond (.seq .reg .leaf) (.seq (.seq .reg (.cond .leaf .reg)) (.cond (.seq .reg .leaf) .leaf)))))) (.seq .reg .leaf)))
def F_block_size (channel : Int) (w : World) (R : Value → World → Prop) : Prop :=
  (kLet (decide (channel = (8 : Int))) fun x =>
  (bsplit x
    (R (.tuple #[(.int .i64 (1 : Int)), (.bool true)]) w)
    ((kLet (decide (channel = (9 : Int))) fun x1 =>
    (bsplit x1
      ((bsplit x1
        (R (.tuple #[(.int .i64 (2 : Int)), (.bool true)]) w)
        ((bsplit (decide (channel ≥ (0 : Int)))
          ((kLet (decide (channel < (8 : Int))) fun x2 =>
          R (.tuple #[(.int .i64 (0 : Int)), (.bool x2)]) w))
          (R (.tuple #[(.int .i64 (0 : Int)), (.bool false)]) w)))))
      ((kLet (decide (channel = (10 : Int))) fun x3 =>
      (bsplit x3
        (R (.tuple #[(.int .i64 (2 : Int)), (.bool true)]) w)
        ((bsplit (decide (channel ≥ (0 : Int)))
          ((kLet (decide (channel < (8 : Int))) fun x4 =>
          R (.tuple #[(.int .i64 (0 : Int)), (.bool x4)]) w))
          (R (.tuple #[(.int .i64 (0 : Int)), (.bool false)]) w)))))))))))
theorem F_block_size_eq (channel : Int) (w : World) (R : Value → World → Prop) : sxFn Try.prog TT h_block_size Try.f29 #[(.int .i64 channel)] w R = F_block_size channel w R := by kernel_rfl
theorem F_block_size_ok {R : Ending → World → Prop} (channel : Int) (w : World) (h : F_block_size channel w fun v w' => R (.returned v) w') : Calls Try.prog N_block_size #[(.int .i64 channel)] w R :=
  calls_of (f := 29) follows_ok Try.func29 (Eq.mpr (F_block_size_eq channel w _) h)

def h_ref24_section : H := (.seq .reg (.seq (.draw false (.one 0 .stable (.one 1 .stable (.one 2 .stable (.one 3 .stable (.one 4 .stable (.one 5 .stable (.one 6 .stable .nil)))))))) (.seq (.block (.cut [(10, .p .bool)] [10, 11, 12, 13, 14, 15, 16, 17, 18, 19, 20, 21, 22, 23, 24, 25, 26, 27, 28] .reg (.cond (.seq .reg .leaf) (.cut [(29, .p .bool)] [29, 30, 31, 32, 33, 34, 35, 36, 37, 38, 39, 40, 41, 42, 43, 44, 45, 46, 47] (.seq .reg (.cond .leaf (.cut [(29, .p .bool)] [29, 32, 33, 34, 35, 36, 37] .reg (.cond .leaf .reg)))) (.cond (.seq .reg .leaf) .leaf))))) (.seq .reg .leaf))))
def F_ref24_section (s_0 : Int) (s_1_a : Option Addr) (s_1_l : Nat) (s_1_c : Nat) (w : World) (R : Value → World → Prop) : Prop :=
  (kAlloc w #[(.int .i64 s_0), (.slice s_1_a s_1_l s_1_c)] Ty_api_Section fun b w1 =>
  (kDrew w1 fun w2 =>
  (kLd w2 ⟨b, 0, none⟩ .i64 fun x =>
  (kLdS w2 ⟨b, 1, none⟩ fun x_a x_l x_c =>
  (∃ J : Bool → World → Prop,
  (∀ (_junk : Env) (x3 : Bool) (w3 : World), J x3 w3 →
    (bsplit x3
      (R (.int .i64 (60 : Int)) w3)
      ((∃ J1 : Bool → World → Prop,
      (∀ (_junk : Env) (x9 : Bool) (w5 : World), J1 x9 w5 →
        (bsplit x9
          (R (.int .i64 (2 : Int)) w5)
          (R (.int .i64 (0 : Int)) w5))) ∧
      (kLet (decide ((x_l : Int) = (0 : Int))) fun x4 =>
      (bsplit x4
        (J1 x4 w3)
        ((∃ J2 : Bool → World → Prop,
        (∀ (_junk : Env) (x6 : Bool) (w4 : World), J2 x6 w4 →
          (bsplit x6
            (J1 x6 w4)
            ((bsplit (decide (x = (9 : Int)))
              ((kLet (!decide ((x_l : Int) = (2 : Int))) fun x7 =>
              J1 x7 w4))
              ((bsplit (decide (x = (10 : Int)))
                ((kLet (!decide ((x_l : Int) = (2 : Int))) fun x8 =>
                J1 x8 w4))
                (J1 false w4))))))) ∧
        (bsplit (decide (x = (8 : Int)))
          ((kLet (!decide ((x_l : Int) = (1 : Int))) fun x5 =>
          J2 x5 w3))
          (J2 false w3)))))))))) ∧
  (bsplit (decide (x < (0 : Int)))
    ((bsplit (!decide (x = (8 : Int)))
      ((bsplit (!decide (x = (9 : Int)))
        ((kLet (!decide (x = (10 : Int))) fun x1 =>
        J x1 w2))
        (J false w2)))
      (J false w2)))
    ((bsplit (decide (x ≥ (8 : Int)))
      ((bsplit (!decide (x = (8 : Int)))
        ((bsplit (!decide (x = (9 : Int)))
          ((kLet (!decide (x = (10 : Int))) fun x2 =>
          J x2 w2))
          (J false w2)))
        (J false w2)))
      (J false w2)))))))))
theorem F_ref24_section_eq (s_0 : Int) (s_1_a : Option Addr) (s_1_l : Nat) (s_1_c : Nat) (w : World) (R : Value → World → Prop) : sxFn Try.prog TT h_ref24_section Try.f30 #[(.agg #[.int .i64 s_0, .slice s_1_a s_1_l s_1_c])] w R = F_ref24_section s_0 s_1_a s_1_l s_1_c w R := by kernel_rfl
theorem F_ref24_section_ok {R : Ending → World → Prop} (s_0 : Int) (s_1_a : Option Addr) (s_1_l : Nat) (s_1_c : Nat) (w : World) (h : F_ref24_section s_0 s_1_a s_1_l s_1_c w fun v w' => R (.returned v) w') : Calls Try.prog N_ref24_section #[(.agg #[.int .i64 s_0, .slice s_1_a s_1_l s_1_c])] w R :=
  calls_of (f := 30) follows_ok Try.func30 (Eq.mpr (F_ref24_section_eq s_0 s_1_a s_1_l s_1_c w _) h)

def h_roll_Dice_Next : H := (.seq .reg (.seq (.seq (.draw false (.one 0 .stable (.one 1 .stable (.one 2 .stable (.one 3 .stable (.one 4 .stable (.one 5 .stable (.one 6 .stable (.one 7 .stable (.one 8 .stable (.one 9 .stable .nil))))))))))) (.cond (.seq .reg .leaf) .leaf)) (.seq .reg (.seq (.draw true (.one 0 .stable (.one 1 .stable (.one 2 .stable (.one 3 .stable (.one 4 .stable (.one 5 .stable (.one 6 .stable (.one 7 .stable (.one 8 .stable (.one 9 .stable (.one 10 .pre (.one 11 .pre (.one 12 .keep (.one 13 .stable .nil))))))))))))))) .leaf))))
def F_roll_Dice_Next (d_b : Nat) (d_o : Nat) (n : Int) (w : World) (R : Value → World → Prop) : Prop :=
  (kDrew w fun w1 =>
  (kLd w1 ⟨d_b, d_o + 1, none⟩ .i64 fun x =>
  (kLdS w1 ⟨d_b, d_o, none⟩ fun x_a x_l x_c =>
  (bsplit (decide (x ≥ (x_l : Int)))
    (R (.int .i64 (0 : Int)) w1)
    ((kLd w1 ⟨d_b, d_o + 1, none⟩ .i64 fun x1 =>
    (kW .i64 (x1 + (1 : Int)) fun x2 =>
    (kSet w1 ⟨d_b, d_o + 1, none⟩ (.int .i64 x2) fun w2 =>
    (kDrew w2 fun w3 =>
    (∃ S : Nat → Prop,
    (S d_b ∧
    (kLdS w3 ⟨d_b, d_o, none⟩ fun x_a1 x_l1 x_c1 =>
    (S d_b ∧
    (kLd w3 ⟨d_b, d_o + 1, none⟩ .i64 fun x3 =>
    (kW .i64 (x3 - (1 : Int)) fun x4 =>
    (kIx x_a1 x_l1 x4 fun b =>
    (kLd w3 (b.add (x4.toNat * 1)) .i64 fun x5 =>
    (Calls Try.prog N_roll_Mod #[(.int .i64 x5), (.int .i64 n)] w3 fun e_ w4 =>
    ∃ r : Int, e_ = .returned (.int .i64 r) ∧
    (KeepsB S w3 w4 ∧ R (.int .i64 r) w4)))))))))))))))))))
theorem F_roll_Dice_Next_eq (d_b : Nat) (d_o : Nat) (n : Int) (w : World) (R : Value → World → Prop) : sxFn Try.prog TT h_roll_Dice_Next Try.f31 #[(.pointer (some ⟨d_b, d_o, none⟩)), (.int .i64 n)] w R = F_roll_Dice_Next d_b d_o n w R := by kernel_rfl
theorem F_roll_Dice_Next_ok {R : Ending → World → Prop} (d_b : Nat) (d_o : Nat) (n : Int) (w : World) (h : F_roll_Dice_Next d_b d_o n w fun v w' => R (.returned v) w') : Calls Try.prog N_roll_Dice_Next #[(.pointer (some ⟨d_b, d_o, none⟩)), (.int .i64 n)] w R :=
  calls_of (f := 31) follows_ok Try.func31 (Eq.mpr (F_roll_Dice_Next_eq d_b d_o n w _) h)

def h_roll_Dice_Bytes : H := (.seq .reg (.seq .reg (.seq .reg (.seq (.seq .reg (.block (.loop [(7, .p (.int .i64))] [7, 12, 13, 14, 15, 16, 17, 18, 19, 20, 21, 22, 23, 24, 25, 26] (.seq (.seq .reg (.cond .leaf .leaf)) (.seq (.block .reg) .reg))))) (.seq .reg .leaf)))))
def F_roll_Dice_Bytes (d_b : Nat) (d_o : Nat) (n : Int) (w : World) (R : Value → World → Prop) : Prop :=
  (kMake w 1 n n #[(.int .u8 (0 : Int))] 1 Ty_uint8 fun b w1 =>
  (Calls Try.prog N_roll_Dice_Next #[(.pointer (some ⟨d_b, d_o, none⟩)), (.int .i64 (256 : Int))] w1 fun e_ w2 =>
  ∃ r : Int, e_ = .returned (.int .i64 r) ∧
  (∃ I : Int → Nat × (World → Prop), (I (0 : Int)).2 w2 ∧
  (∀ (_junk : Env) (i : Int) (w3 : World), (I i).2 w3 →
    (bsplit (decide (i < n))
      ((kW .i64 (r + (7 : Int)) fun x =>
      (kW .i64 (i * x) fun x1 =>
      (kW .i64 (r + x1) fun x2 =>
      (kW .u8 (x2) fun x3 =>
      (kIx (some ⟨b, 0, none⟩) (n.toNat) i fun b1 =>
      (kSet w3 (b1.add (i.toNat * 1)) (.int .u8 x3) fun w4 =>
      (kW .i64 (i + (1 : Int)) fun x4 =>
      ((I x4).2 w4 ∧ (I x4).1 < (I i).1)))))))))
      (R (.slice (some ⟨b, 0, none⟩) n.toNat n.toNat) w3))))))
theorem F_roll_Dice_Bytes_eq (d_b : Nat) (d_o : Nat) (n : Int) (w : World) (R : Value → World → Prop) : sxFn Try.prog TT h_roll_Dice_Bytes Try.f32 #[(.pointer (some ⟨d_b, d_o, none⟩)), (.int .i64 n)] w R = F_roll_Dice_Bytes d_b d_o n w R := by kernel_rfl
theorem F_roll_Dice_Bytes_ok {R : Ending → World → Prop} (d_b : Nat) (d_o : Nat) (n : Int) (w : World) (h : F_roll_Dice_Bytes d_b d_o n w fun v w' => R (.returned v) w') : Calls Try.prog N_roll_Dice_Bytes #[(.pointer (some ⟨d_b, d_o, none⟩)), (.int .i64 n)] w R :=
  calls_of (f := 32) follows_ok Try.func32 (Eq.mpr (F_roll_Dice_Bytes_eq d_b d_o n w _) h)

end Go.Proofs.Ytjmjdjpbgjjhmaa
