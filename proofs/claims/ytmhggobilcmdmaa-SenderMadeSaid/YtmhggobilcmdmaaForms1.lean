import Derived.Test.YtmhggobilcmdmaaBase
import Derived.KernelRfl
namespace Go.Proofs.Ytmhggobilcmdmaa
open Go.Sx Go.RowKit
set_option maxRecDepth 100000

def h_made_Light : H := (.seq .reg (.seq .reg .leaf))
def F_made_Light (_ : Option Addr) (t_l : Nat) (_ : Nat) (w : World) (R : Value → World → Prop) : Prop :=
  (kLet (decide ((t_l : Int) ≤ (400 : Int))) fun x =>
  R (.bool x) w)
theorem F_made_Light_eq (t_a : Option Addr) (t_l : Nat) (t_c : Nat) (w : World) (R : Value → World → Prop) : sxFn Try.prog TT h_made_Light Try.f9 #[(.slice t_a t_l t_c)] w R = F_made_Light t_a t_l t_c w R := by kernel_rfl
theorem F_made_Light_ok {R : Ending → World → Prop} (t_a : Option Addr) (t_l : Nat) (t_c : Nat) (w : World) (h : F_made_Light t_a t_l t_c w fun v w' => R (.returned v) w') : Calls Try.prog N_made_Light #[(.slice t_a t_l t_c)] w R :=
  calls_of (f := 9) follows_ok Try.func9 (Eq.mpr (F_made_Light_eq t_a t_l t_c w _) h)

def h_law20_awake : H := (.seq .reg (.seq .reg (.seq (.draw .blk (.one 0 .stable (.one 1 .keep (.one 2 .last (.one 3 .pur (.one 4 .pur (.one 5 .pur (.one 6 .last (.one 7 .pur .nil))))))))) (.seq .reg (.seq .reg (.seq .reg (.seq .reg .leaf)))))))
def F_law20_awake  (w : World) (R : Value → World → Prop) : Prop :=
  (Calls Try.prog N_law20_link #[] w fun e_ w1 =>
  ∃ r_0 r_1 r_2 r_3 r_4 r_5 : Int, e_ = .returned (.agg #[.int .i64 r_0, .int .i64 r_1, .int .i64 r_2, .int .i64 r_3, .int .i64 r_4, .int .i64 r_5]) ∧
  (Calls Try.prog N_sender_New #[(.agg #[.int .i64 r_0, .int .i64 r_1, .int .i64 r_2, .int .i64 r_3, .int .i64 r_4, .int .i64 r_5])] w1 fun e_1 w2 =>
  ∃ r_01 r_11 r_21 r_31 r_41 r_51 r_6 r_7 : Int, ∃ r_8_a : Option Addr, ∃ r_8_l r_8_c : Nat, ∃ r_9 r_10 r_111 : Int, ∃ r_12 : Bool, ∃ r : Int, e_1 = .returned (.tuple #[(.agg #[.int .i64 r_01, .int .i64 r_11, .int .i64 r_21, .int .i64 r_31, .int .i64 r_41, .int .i64 r_51, .int .i64 r_6, .int .i64 r_7, .slice r_8_a r_8_l r_8_c, .int .i64 r_9, .int .i64 r_10, .int .i64 r_111, .bool r_12]), (.int .i64 r)]) ∧
  (kAlloc w2 #[.int .i64 (0 : Int), .int .i64 (0 : Int), .int .i64 (0 : Int), .int .i64 (0 : Int), .int .i64 (0 : Int), .int .i64 (0 : Int), .int .i64 (0 : Int), .int .i64 (0 : Int), .slice none 0 0, .int .i64 (0 : Int), .int .i64 (0 : Int), .int .i64 (0 : Int), .bool false] Ty_api_Sender fun b w3 =>
  (sxStore w3 ⟨b, 0, none⟩ 0 [(.int .i64 r_01), (.int .i64 r_11), (.int .i64 r_21), (.int .i64 r_31), (.int .i64 r_41), (.int .i64 r_51), (.int .i64 r_6), (.int .i64 r_7), (.slice r_8_a r_8_l r_8_c), (.int .i64 r_9), (.int .i64 r_10), (.int .i64 r_111), (.bool r_12)] fun w4 =>
  (kDrew w4 fun w5 =>
  (∃ S : Nat → Prop,
  (S b ∧
  (∃ x_0 x_1 x_2 x_3 x_4 x_5 x_6 x_7 : Int, ∃ x_8_a : Option Addr, ∃ x_8_l x_8_c : Nat, ∃ x_9 x_10 x_11 : Int, ∃ x_12 : Bool, cellsAt w5 ⟨b, 0, none⟩ 0 [(.int .i64 x_0), (.int .i64 x_1), (.int .i64 x_2), (.int .i64 x_3), (.int .i64 x_4), (.int .i64 x_5), (.int .i64 x_6), (.int .i64 x_7), (.slice x_8_a x_8_l x_8_c), (.int .i64 x_9), (.int .i64 x_10), (.int .i64 x_11), (.bool x_12)] ∧
  (Calls Try.prog N_made_Filled #[(.int .i64 (5 : Int)), (.int .i64 (1 : Int))] w5 fun e_2 w6 =>
  ∃ r_a : Option Addr, ∃ r_l r_c : Nat, e_2 = .returned (.slice r_a r_l r_c) ∧
  (KeepsB S w5 w6 ∧ (Calls Try.prog N_sender_Submit #[(.agg #[.int .i64 x_0, .int .i64 x_1, .int .i64 x_2, .int .i64 x_3, .int .i64 x_4, .int .i64 x_5, .int .i64 x_6, .int .i64 x_7, .slice x_8_a x_8_l x_8_c, .int .i64 x_9, .int .i64 x_10, .int .i64 x_11, .bool x_12]), (.slice r_a r_l r_c)] w6 fun e_3 w7 =>
  ∃ r_02 r_13 r_22 r_32 r_42 r_52 r_61 r_71 : Int, ∃ r_8_a1 : Option Addr, ∃ r_8_l1 r_8_c1 : Nat, ∃ r_91 r_101 r_112 : Int, ∃ r_121 : Bool, ∃ r1 : Int, e_3 = .returned (.tuple #[(.agg #[.int .i64 r_02, .int .i64 r_13, .int .i64 r_22, .int .i64 r_32, .int .i64 r_42, .int .i64 r_52, .int .i64 r_61, .int .i64 r_71, .slice r_8_a1 r_8_l1 r_8_c1, .int .i64 r_91, .int .i64 r_101, .int .i64 r_112, .bool r_121]), (.int .i64 r1)]) ∧
  (sxStore w7 ⟨b, 0, none⟩ 0 [(.int .i64 r_02), (.int .i64 r_13), (.int .i64 r_22), (.int .i64 r_32), (.int .i64 r_42), (.int .i64 r_52), (.int .i64 r_61), (.int .i64 r_71), (.slice r_8_a1 r_8_l1 r_8_c1), (.int .i64 r_91), (.int .i64 r_101), (.int .i64 r_112), (.bool r_121)] fun w8 =>
  (∃ x_01 x_13 x_21 x_31 x_41 x_51 x_61 x_71 : Int, ∃ x_8_a1 : Option Addr, ∃ x_8_l1 x_8_c1 : Nat, ∃ x_91 x_101 x_111 : Int, ∃ x_121 : Bool, cellsAt w8 ⟨b, 0, none⟩ 0 [(.int .i64 x_01), (.int .i64 x_13), (.int .i64 x_21), (.int .i64 x_31), (.int .i64 x_41), (.int .i64 x_51), (.int .i64 x_61), (.int .i64 x_71), (.slice x_8_a1 x_8_l1 x_8_c1), (.int .i64 x_91), (.int .i64 x_101), (.int .i64 x_111), (.bool x_121)] ∧
  (Calls Try.prog N_sender_Build #[(.agg #[.int .i64 x_01, .int .i64 x_13, .int .i64 x_21, .int .i64 x_31, .int .i64 x_41, .int .i64 x_51, .int .i64 x_61, .int .i64 x_71, .slice x_8_a1 x_8_l1 x_8_c1, .int .i64 x_91, .int .i64 x_101, .int .i64 x_111, .bool x_121]), (.int .i64 (5 : Int))] w8 fun e_4 w9 =>
  ∃ r_03 r_14 r_23 r_33 r_43 r_53 r_62 r_72 : Int, ∃ r_8_a2 : Option Addr, ∃ r_8_l2 r_8_c2 : Nat, ∃ r_92 r_102 r_113 : Int, ∃ r_122 : Bool, ∃ r_a1 : Option Addr, ∃ r_l1 r_c1 : Nat, ∃ r2 : Int, e_4 = .returned (.tuple #[(.agg #[.int .i64 r_03, .int .i64 r_14, .int .i64 r_23, .int .i64 r_33, .int .i64 r_43, .int .i64 r_53, .int .i64 r_62, .int .i64 r_72, .slice r_8_a2 r_8_l2 r_8_c2, .int .i64 r_92, .int .i64 r_102, .int .i64 r_113, .bool r_122]), (.slice r_a1 r_l1 r_c1), (.int .i64 r2)]) ∧
  (sxStore w9 ⟨b, 0, none⟩ 0 [(.int .i64 r_03), (.int .i64 r_14), (.int .i64 r_23), (.int .i64 r_33), (.int .i64 r_43), (.int .i64 r_53), (.int .i64 r_62), (.int .i64 r_72), (.slice r_8_a2 r_8_l2 r_8_c2), (.int .i64 r_92), (.int .i64 r_102), (.int .i64 r_113), (.bool r_122)] fun w10 =>
  (∃ x_02 x_14 x_22 x_32 x_42 x_52 x_62 x_72 : Int, ∃ x_8_a2 : Option Addr, ∃ x_8_l2 x_8_c2 : Nat, ∃ x_92 x_102 x_112 : Int, ∃ x_122 : Bool, cellsAt w10 ⟨b, 0, none⟩ 0 [(.int .i64 x_02), (.int .i64 x_14), (.int .i64 x_22), (.int .i64 x_32), (.int .i64 x_42), (.int .i64 x_52), (.int .i64 x_62), (.int .i64 x_72), (.slice x_8_a2 x_8_l2 x_8_c2), (.int .i64 x_92), (.int .i64 x_102), (.int .i64 x_112), (.bool x_122)] ∧
  (Calls Try.prog N_sender_Build #[(.agg #[.int .i64 x_02, .int .i64 x_14, .int .i64 x_22, .int .i64 x_32, .int .i64 x_42, .int .i64 x_52, .int .i64 x_62, .int .i64 x_72, .slice x_8_a2 x_8_l2 x_8_c2, .int .i64 x_92, .int .i64 x_102, .int .i64 x_112, .bool x_122]), (.int .i64 (9 : Int))] w10 fun e_5 w11 =>
  ∃ r_04 r_15 r_24 r_34 r_44 r_54 r_63 r_73 : Int, ∃ r_8_a3 : Option Addr, ∃ r_8_l3 r_8_c3 : Nat, ∃ r_93 r_103 r_114 : Int, ∃ r_123 : Bool, ∃ r_a2 : Option Addr, ∃ r_l2 r_c2 : Nat, ∃ r3 : Int, e_5 = .returned (.tuple #[(.agg #[.int .i64 r_04, .int .i64 r_15, .int .i64 r_24, .int .i64 r_34, .int .i64 r_44, .int .i64 r_54, .int .i64 r_63, .int .i64 r_73, .slice r_8_a3 r_8_l3 r_8_c3, .int .i64 r_93, .int .i64 r_103, .int .i64 r_114, .bool r_123]), (.slice r_a2 r_l2 r_c2), (.int .i64 r3)]) ∧
  (sxStore w11 ⟨b, 0, none⟩ 0 [(.int .i64 r_04), (.int .i64 r_15), (.int .i64 r_24), (.int .i64 r_34), (.int .i64 r_44), (.int .i64 r_54), (.int .i64 r_63), (.int .i64 r_73), (.slice r_8_a3 r_8_l3 r_8_c3), (.int .i64 r_93), (.int .i64 r_103), (.int .i64 r_114), (.bool r_123)] fun w12 =>
  (∃ x_03 x_15 x_23 x_33 x_43 x_53 x_63 x_73 : Int, ∃ x_8_a3 : Option Addr, ∃ x_8_l3 x_8_c3 : Nat, ∃ x_93 x_103 x_113 : Int, ∃ x_123 : Bool, cellsAt w12 ⟨b, 0, none⟩ 0 [(.int .i64 x_03), (.int .i64 x_15), (.int .i64 x_23), (.int .i64 x_33), (.int .i64 x_43), (.int .i64 x_53), (.int .i64 x_63), (.int .i64 x_73), (.slice x_8_a3 x_8_l3 x_8_c3), (.int .i64 x_93), (.int .i64 x_103), (.int .i64 x_113), (.bool x_123)] ∧
  (Calls Try.prog N_sender_Report #[(.agg #[.int .i64 x_03, .int .i64 x_15, .int .i64 x_23, .int .i64 x_33, .int .i64 x_43, .int .i64 x_53, .int .i64 x_63, .int .i64 x_73, .slice x_8_a3 x_8_l3 x_8_c3, .int .i64 x_93, .int .i64 x_103, .int .i64 x_113, .bool x_123]), (.agg #[.int .i64 (1 : Int), .slice none 0 0])] w12 fun e_6 w13 =>
  ∃ r_05 r_16 r_25 r_35 r_45 r_55 r_64 r_74 : Int, ∃ r_8_a4 : Option Addr, ∃ r_8_l4 r_8_c4 : Nat, ∃ r_94 r_104 r_115 : Int, ∃ r_124 : Bool, ∃ r4 : Int, e_6 = .returned (.tuple #[(.agg #[.int .i64 r_05, .int .i64 r_16, .int .i64 r_25, .int .i64 r_35, .int .i64 r_45, .int .i64 r_55, .int .i64 r_64, .int .i64 r_74, .slice r_8_a4 r_8_l4 r_8_c4, .int .i64 r_94, .int .i64 r_104, .int .i64 r_115, .bool r_124]), (.int .i64 r4)]) ∧
  (kAlloc w13 #[.int .i64 (0 : Int), .int .i64 (0 : Int), .int .i64 (0 : Int), .int .i64 (0 : Int), .int .i64 (0 : Int), .int .i64 (0 : Int), .int .i64 (0 : Int), .int .i64 (0 : Int), .slice none 0 0, .int .i64 (0 : Int), .int .i64 (0 : Int), .int .i64 (0 : Int), .bool false] Ty_api_Sender fun b1 w14 =>
  (sxStore w14 ⟨b1, 0, none⟩ 0 [(.int .i64 r_05), (.int .i64 r_16), (.int .i64 r_25), (.int .i64 r_35), (.int .i64 r_45), (.int .i64 r_55), (.int .i64 r_64), (.int .i64 r_74), (.slice r_8_a4 r_8_l4 r_8_c4), (.int .i64 r_94), (.int .i64 r_104), (.int .i64 r_115), (.bool r_124)] fun w15 =>
  (bsplit (decide (r = (0 : Int)))
    ((bsplit (decide (r1 = (0 : Int)))
      ((bsplit (decide (r2 = (0 : Int)))
        ((bsplit (decide (r3 = (0 : Int)))
          ((bsplit (decide (r4 = (0 : Int)))
            ((bsplit (decide ((r_l1 : Int) = (5 : Int)))
              ((bsplit (decide ((r_l2 : Int) = (6 : Int)))
                ((kIx r_a2 r_l2 (0 : Int) fun b2 =>
                (kLd w15 (b2.add ((0 : Int).toNat * 1)) .u8 fun x =>
                (kLet (bAnd .u8 x (64 : Int)) fun x1 =>
                (bsplit (!decide (x1 = (0 : Int)))
                  ((kLd w15 ⟨b, 11, none⟩ .i64 fun x2 =>
                  (bsplit (decide (x2 = (3 : Int)))
                    ((kLdS w15 ⟨b1, 8, none⟩ fun _ x_l _ =>
                    (bsplit (decide ((x_l : Int) = (0 : Int)))
                      ((kLd w15 ⟨b1, 6, none⟩ .i64 fun x3 =>
                      (bsplit (decide (x3 = (1 : Int)))
                        ((∃ x_04 x_16 x_24 x_34 x_44 x_54 x_64 x_74 : Int, ∃ x_8_a4 : Option Addr, ∃ x_8_l4 x_8_c4 : Nat, ∃ x_94 x_104 x_114 : Int, ∃ x_124 : Bool, cellsAt w15 ⟨b1, 0, none⟩ 0 [(.int .i64 x_04), (.int .i64 x_16), (.int .i64 x_24), (.int .i64 x_34), (.int .i64 x_44), (.int .i64 x_54), (.int .i64 x_64), (.int .i64 x_74), (.slice x_8_a4 x_8_l4 x_8_c4), (.int .i64 x_94), (.int .i64 x_104), (.int .i64 x_114), (.bool x_124)] ∧
                        (Calls Try.prog N_sender_Valid #[(.agg #[.int .i64 x_04, .int .i64 x_16, .int .i64 x_24, .int .i64 x_34, .int .i64 x_44, .int .i64 x_54, .int .i64 x_64, .int .i64 x_74, .slice x_8_a4 x_8_l4 x_8_c4, .int .i64 x_94, .int .i64 x_104, .int .i64 x_114, .bool x_124])] w15 fun e_7 w16 =>
                        ∃ r5 : Bool, e_7 = .returned (.bool r5) ∧
                        R (.bool r5) w16)))
                        (R (.bool false) w15))))
                      (R (.bool false) w15))))
                    (R (.bool false) w15))))
                  (R (.bool false) w15))))))
                (R (.bool false) w15)))
              (R (.bool false) w15)))
            (R (.bool false) w15)))
          (R (.bool false) w15)))
        (R (.bool false) w15)))
      (R (.bool false) w15)))
    (R (.bool false) w15))))))))))))))))))))))))
theorem F_law20_awake_eq  (w : World) (R : Value → World → Prop) : sxFn Try.prog TT h_law20_awake Try.f10 #[] w R = F_law20_awake  w R := by kernel_rfl
theorem F_law20_awake_ok {R : Ending → World → Prop}  (w : World) (h : F_law20_awake  w fun v w' => R (.returned v) w') : Calls Try.prog N_law20_awake #[] w R :=
  calls_of (f := 10) follows_ok Try.func10 (Eq.mpr (F_law20_awake_eq  w _) h)

def h_made_Roll : H := (.seq .reg (.seq .reg .leaf))
def F_made_Roll (t_a : Option Addr) (t_l : Nat) (t_c : Nat) (w : World) (R : Value → World → Prop) : Prop :=
  (kAlloc w #[(.slice t_a t_l t_c), (.int .i64 (0 : Int))] Ty_radiolinkmade_Dice fun b w1 =>
  R (.pointer (some ⟨b, 0, none⟩)) w1)
theorem F_made_Roll_eq (t_a : Option Addr) (t_l : Nat) (t_c : Nat) (w : World) (R : Value → World → Prop) : sxFn Try.prog TT h_made_Roll Try.f11 #[(.slice t_a t_l t_c)] w R = F_made_Roll t_a t_l t_c w R := by kernel_rfl
theorem F_made_Roll_ok {R : Ending → World → Prop} (t_a : Option Addr) (t_l : Nat) (t_c : Nat) (w : World) (h : F_made_Roll t_a t_l t_c w fun v w' => R (.returned v) w') : Calls Try.prog N_made_Roll #[(.slice t_a t_l t_c)] w R :=
  calls_of (f := 11) follows_ok Try.func11 (Eq.mpr (F_made_Roll_eq t_a t_l t_c w _) h)

def h_sender_New : H := (.seq .reg (.seq (.seq .reg (.cond (.seq .reg .leaf) .leaf)) (.seq .reg .leaf)))
def F_sender_New (l_0 : Int) (l_1 : Int) (l_2 : Int) (l_3 : Int) (l_4 : Int) (l_5 : Int) (w : World) (R : Value → World → Prop) : Prop :=
  (kAlloc w #[(.int .i64 l_0), (.int .i64 l_1), (.int .i64 l_2), (.int .i64 l_3), (.int .i64 l_4), (.int .i64 l_5)] Ty_api_Link fun b w1 =>
  (kAlloc w1 #[.int .i64 (0 : Int), .int .i64 (0 : Int), .int .i64 (0 : Int), .int .i64 (0 : Int), .int .i64 (0 : Int), .int .i64 (0 : Int), .int .i64 (0 : Int), .int .i64 (0 : Int), .slice none 0 0, .int .i64 (0 : Int), .int .i64 (0 : Int), .int .i64 (0 : Int), .bool false] Ty_api_Sender fun b1 w2 =>
  (∃ x_0 x_1 x_2 x_3 x_4 x_5 : Int, cellsAt w2 ⟨b, 0, none⟩ 0 [(.int .i64 x_0), (.int .i64 x_1), (.int .i64 x_2), (.int .i64 x_3), (.int .i64 x_4), (.int .i64 x_5)] ∧
  (Calls Try.prog N_sender_ValidLink #[(.agg #[.int .i64 x_0, .int .i64 x_1, .int .i64 x_2, .int .i64 x_3, .int .i64 x_4, .int .i64 x_5])] w2 fun e_ w3 =>
  ∃ r : Bool, e_ = .returned (.bool r) ∧
  (bsplit (!r)
    ((sxStore w3 ⟨b1, 0, none⟩ 0 [(.int .i64 (0 : Int)), (.int .i64 (0 : Int)), (.int .i64 (0 : Int)), (.int .i64 (0 : Int)), (.int .i64 (0 : Int)), (.int .i64 (0 : Int)), (.int .i64 (0 : Int)), (.int .i64 (0 : Int)), (.slice none 0 0), (.int .i64 (0 : Int)), (.int .i64 (0 : Int)), (.int .i64 (0 : Int)), (.bool false)] fun w4 =>
    (∃ r_0 r_1 r_2 r_3 r_4 r_5 r_6 r_7 : Int, ∃ r_8_a : Option Addr, ∃ r_8_l r_8_c : Nat, ∃ r_9 r_10 r_11 : Int, ∃ r_12 : Bool, cellsAt w4 ⟨b1, 0, none⟩ 0 [(.int .i64 r_0), (.int .i64 r_1), (.int .i64 r_2), (.int .i64 r_3), (.int .i64 r_4), (.int .i64 r_5), (.int .i64 r_6), (.int .i64 r_7), (.slice r_8_a r_8_l r_8_c), (.int .i64 r_9), (.int .i64 r_10), (.int .i64 r_11), (.bool r_12)] ∧
    R (.tuple #[(.agg #[.int .i64 r_0, .int .i64 r_1, .int .i64 r_2, .int .i64 r_3, .int .i64 r_4, .int .i64 r_5, .int .i64 r_6, .int .i64 r_7, .slice r_8_a r_8_l r_8_c, .int .i64 r_9, .int .i64 r_10, .int .i64 r_11, .bool r_12]), (.int .i64 (3 : Int))]) w4)))
    ((∃ x_01 x_11 x_21 x_31 x_41 x_51 : Int, cellsAt w3 ⟨b, 0, none⟩ 0 [(.int .i64 x_01), (.int .i64 x_11), (.int .i64 x_21), (.int .i64 x_31), (.int .i64 x_41), (.int .i64 x_51)] ∧
    (sxStore w3 ⟨b1, 0, none⟩ 0 [(.int .i64 x_01), (.int .i64 x_11), (.int .i64 x_21), (.int .i64 x_31), (.int .i64 x_41), (.int .i64 x_51), (.int .i64 (0 : Int)), (.int .i64 (0 : Int)), (.slice none 0 0), (.int .i64 (0 : Int)), (.int .i64 (-1 : Int)), (.int .i64 (0 : Int)), (.bool false)] fun w5 =>
    (∃ r_01 r_13 r_21 r_31 r_41 r_51 r_61 r_71 : Int, ∃ r_8_a1 : Option Addr, ∃ r_8_l1 r_8_c1 : Nat, ∃ r_91 r_101 r_111 : Int, ∃ r_121 : Bool, cellsAt w5 ⟨b1, 0, none⟩ 0 [(.int .i64 r_01), (.int .i64 r_13), (.int .i64 r_21), (.int .i64 r_31), (.int .i64 r_41), (.int .i64 r_51), (.int .i64 r_61), (.int .i64 r_71), (.slice r_8_a1 r_8_l1 r_8_c1), (.int .i64 r_91), (.int .i64 r_101), (.int .i64 r_111), (.bool r_121)] ∧
    R (.tuple #[(.agg #[.int .i64 r_01, .int .i64 r_13, .int .i64 r_21, .int .i64 r_31, .int .i64 r_41, .int .i64 r_51, .int .i64 r_61, .int .i64 r_71, .slice r_8_a1 r_8_l1 r_8_c1, .int .i64 r_91, .int .i64 r_101, .int .i64 r_111, .bool r_121]), (.int .i64 (0 : Int))]) w5)))))))))
theorem F_sender_New_eq (l_0 : Int) (l_1 : Int) (l_2 : Int) (l_3 : Int) (l_4 : Int) (l_5 : Int) (w : World) (R : Value → World → Prop) : sxFn Try.prog TT h_sender_New Try.f12 #[(.agg #[.int .i64 l_0, .int .i64 l_1, .int .i64 l_2, .int .i64 l_3, .int .i64 l_4, .int .i64 l_5])] w R = F_sender_New l_0 l_1 l_2 l_3 l_4 l_5 w R := by kernel_rfl
theorem F_sender_New_ok {R : Ending → World → Prop} (l_0 : Int) (l_1 : Int) (l_2 : Int) (l_3 : Int) (l_4 : Int) (l_5 : Int) (w : World) (h : F_sender_New l_0 l_1 l_2 l_3 l_4 l_5 w fun v w' => R (.returned v) w') : Calls Try.prog N_sender_New #[(.agg #[.int .i64 l_0, .int .i64 l_1, .int .i64 l_2, .int .i64 l_3, .int .i64 l_4, .int .i64 l_5])] w R :=
  calls_of (f := 12) follows_ok Try.func12 (Eq.mpr (F_sender_New_eq l_0 l_1 l_2 l_3 l_4 l_5 w _) h)

def h_made_Dice_Link : H := (.seq .reg (.seq .reg .leaf))
def F_made_Dice_Link (d_b : Nat) (d_o : Nat) (w : World) (R : Value → World → Prop) : Prop :=
  (kAlloc w #[.int .i64 (0 : Int), .int .i64 (0 : Int), .int .i64 (0 : Int), .int .i64 (0 : Int), .int .i64 (0 : Int), .int .i64 (0 : Int)] Ty_api_Link fun b w1 =>
  (Calls Try.prog N_made_Dice_Bits #[(.pointer (some ⟨d_b, d_o, none⟩))] w1 fun e_ w2 =>
  ∃ r : Int, e_ = .returned (.int .i64 r) ∧
  (Calls Try.prog N_made_Dice_Next #[(.pointer (some ⟨d_b, d_o, none⟩)), (.int .i64 (6 : Int))] w2 fun e_1 w3 =>
  ∃ r1 : Int, e_1 = .returned (.int .i64 r1) ∧
  (kW .i64 ((1 : Int) + r1) fun x =>
  (Calls Try.prog N_made_Dice_Next #[(.pointer (some ⟨d_b, d_o, none⟩)), (.int .i64 (6 : Int))] w3 fun e_2 w4 =>
  ∃ r2 : Int, e_2 = .returned (.int .i64 r2) ∧
  (kW .i64 ((1 : Int) + r2) fun x1 =>
  (Calls Try.prog N_made_Dice_Next #[(.pointer (some ⟨d_b, d_o, none⟩)), (.int .i64 (5 : Int))] w4 fun e_3 w5 =>
  ∃ r3 : Int, e_3 = .returned (.int .i64 r3) ∧
  (kW .i64 ((1 : Int) + r3) fun x2 =>
  (Calls Try.prog N_made_Dice_Next #[(.pointer (some ⟨d_b, d_o, none⟩)), (.int .i64 (3 : Int))] w5 fun e_4 w6 =>
  ∃ r4 : Int, e_4 = .returned (.int .i64 r4) ∧
  (Calls Try.prog N_made_Dice_Next #[(.pointer (some ⟨d_b, d_o, none⟩)), (.int .i64 (6 : Int))] w6 fun e_5 w7 =>
  ∃ r5 : Int, e_5 = .returned (.int .i64 r5) ∧
  (kW .i64 ((1 : Int) + r5) fun x3 =>
  (sxStore w7 ⟨b, 0, none⟩ 0 [(.int .i64 r), (.int .i64 x), (.int .i64 x1), (.int .i64 x2), (.int .i64 r4), (.int .i64 x3)] fun w8 =>
  (∃ r_0 r_1 r_2 r_3 r_4 r_5 : Int, cellsAt w8 ⟨b, 0, none⟩ 0 [(.int .i64 r_0), (.int .i64 r_1), (.int .i64 r_2), (.int .i64 r_3), (.int .i64 r_4), (.int .i64 r_5)] ∧
  R (.agg #[.int .i64 r_0, .int .i64 r_1, .int .i64 r_2, .int .i64 r_3, .int .i64 r_4, .int .i64 r_5]) w8)))))))))))))
theorem F_made_Dice_Link_eq (d_b : Nat) (d_o : Nat) (w : World) (R : Value → World → Prop) : sxFn Try.prog TT h_made_Dice_Link Try.f13 #[(.pointer (some ⟨d_b, d_o, none⟩))] w R = F_made_Dice_Link d_b d_o w R := by kernel_rfl
theorem F_made_Dice_Link_ok {R : Ending → World → Prop} (d_b : Nat) (d_o : Nat) (w : World) (h : F_made_Dice_Link d_b d_o w fun v w' => R (.returned v) w') : Calls Try.prog N_made_Dice_Link #[(.pointer (some ⟨d_b, d_o, none⟩))] w R :=
  calls_of (f := 13) follows_ok Try.func13 (Eq.mpr (F_made_Dice_Link_eq d_b d_o w _) h)

def h_made_Dice_Next : H := (.seq .reg (.seq (.seq (.draw .no (.one 0 .stable (.one 1 .stable (.one 2 .stable (.one 3 .stable (.one 4 .stable (.one 5 .stable (.one 6 .stable (.one 7 .stable (.one 8 .stable (.one 9 .stable .nil))))))))))) (.cond (.seq .reg .leaf) .leaf)) (.seq .reg (.seq (.draw .blk (.one 0 .pre (.one 1 .pre (.one 2 .pre (.one 3 .pre (.one 4 .pre (.one 5 .pre (.one 6 .pre (.one 7 .pre (.one 8 .pre (.one 9 .pre (.one 10 .pre (.one 11 .pre (.one 12 .keep (.one 13 .stable .nil))))))))))))))) .leaf))))
def F_made_Dice_Next (d_b : Nat) (d_o : Nat) (n : Int) (w : World) (R : Value → World → Prop) : Prop :=
  (kDrew w fun w1 =>
  (kLd w1 ⟨d_b, d_o + 1, none⟩ .i64 fun x =>
  (kLdS w1 ⟨d_b, d_o, none⟩ fun _ x_l _ =>
  (bsplit (decide (x ≥ (x_l : Int)))
    (R (.int .i64 (0 : Int)) w1)
    ((kLd w1 ⟨d_b, d_o + 1, none⟩ .i64 fun x1 =>
    (kW .i64 (x1 + (1 : Int)) fun x2 =>
    (kSet w1 ⟨d_b, d_o + 1, none⟩ (.int .i64 x2) fun w2 =>
    (kDrew w2 fun w3 =>
    (∃ S : Nat → Prop,
    (kLdS w3 ⟨d_b, d_o, none⟩ fun x_a1 x_l1 _ =>
    (kLd w3 ⟨d_b, d_o + 1, none⟩ .i64 fun x3 =>
    (kW .i64 (x3 - (1 : Int)) fun x4 =>
    (kIx x_a1 x_l1 x4 fun b =>
    (kLd w3 (b.add (x4.toNat * 1)) .i64 fun x5 =>
    (Calls Try.prog N_made_Mod #[(.int .i64 x5), (.int .i64 n)] w3 fun e_ w4 =>
    ∃ r : Int, e_ = .returned (.int .i64 r) ∧
    (KeepsB S w3 w4 ∧ R (.int .i64 r) w4)))))))))))))))))
theorem F_made_Dice_Next_eq (d_b : Nat) (d_o : Nat) (n : Int) (w : World) (R : Value → World → Prop) : sxFn Try.prog TT h_made_Dice_Next Try.f14 #[(.pointer (some ⟨d_b, d_o, none⟩)), (.int .i64 n)] w R = F_made_Dice_Next d_b d_o n w R := by kernel_rfl
theorem F_made_Dice_Next_ok {R : Ending → World → Prop} (d_b : Nat) (d_o : Nat) (n : Int) (w : World) (h : F_made_Dice_Next d_b d_o n w fun v w' => R (.returned v) w') : Calls Try.prog N_made_Dice_Next #[(.pointer (some ⟨d_b, d_o, none⟩)), (.int .i64 n)] w R :=
  calls_of (f := 14) follows_ok Try.func14 (Eq.mpr (F_made_Dice_Next_eq d_b d_o n w _) h)

def h_made_Dice_Some : H := (.seq .reg (.seq .reg .leaf))
def F_made_Dice_Some (d_b : Nat) (d_o : Nat) (most : Int) (w : World) (R : Value → World → Prop) : Prop :=
  (Calls Try.prog N_made_Dice_Next #[(.pointer (some ⟨d_b, d_o, none⟩)), (.int .i64 (256 : Int))] w fun e_ w1 =>
  ∃ r : Int, e_ = .returned (.int .i64 r) ∧
  (kW .u8 (r) fun x =>
  (kAlloc w1 #[(.int .u8 x)] Ty_uint8 fun b w2 =>
  (kW .i64 (most - (1 : Int)) fun x1 =>
  (Calls Try.prog N_made_Dice_Bytes #[(.pointer (some ⟨d_b, d_o, none⟩)), (.int .i64 x1)] w2 fun e_1 w3 =>
  ∃ r_a : Option Addr, ∃ r_l r_c : Nat, e_1 = .returned (.slice r_a r_l r_c) ∧
  (AppP Try.prog #[Ty_S_uint8, Ty_S_uint8] Ty_S_uint8 #[(.slice (some ⟨b, 0, none⟩) 1 1), (.slice r_a r_l r_c)] w3 fun x_a x_l x_c w4 =>
  R (.slice x_a x_l x_c) w4))))))
theorem F_made_Dice_Some_eq (d_b : Nat) (d_o : Nat) (most : Int) (w : World) (R : Value → World → Prop) : sxFn Try.prog TT h_made_Dice_Some Try.f15 #[(.pointer (some ⟨d_b, d_o, none⟩)), (.int .i64 most)] w R = F_made_Dice_Some d_b d_o most w R := by kernel_rfl
theorem F_made_Dice_Some_ok {R : Ending → World → Prop} (d_b : Nat) (d_o : Nat) (most : Int) (w : World) (h : F_made_Dice_Some d_b d_o most w fun v w' => R (.returned v) w') : Calls Try.prog N_made_Dice_Some #[(.pointer (some ⟨d_b, d_o, none⟩)), (.int .i64 most)] w R :=
  calls_of (f := 15) follows_ok Try.func15 (Eq.mpr (F_made_Dice_Some_eq d_b d_o most w _) h)

def h_sender_Submit : H := (.seq .reg (.seq .reg (.seq (.block (.seq .reg (.cond (.seq .reg .leaf) (.seq .reg (.cond (.seq .reg .leaf) (.seq (.draw .blk (.one 0 .pre (.one 1 .pre (.one 2 .pre (.one 3 .pre (.one 4 .pre (.one 5 .pre (.one 7 .stable (.one 8 .stable (.one 9 .stable (.one 10 .stable (.one 11 .stable (.one 12 .stable (.one 13 .stable (.one 14 .stable (.one 6 .keep (.one 15 .stable (.one 16 .stable .nil)))))))))))))))))) (.cond (.seq .reg .leaf) .leaf))))))) (.seq (.draw .blk (.one 0 .stable (.one 1 .stable (.one 2 .stable (.one 3 .stable (.one 4 .stable (.one 5 .stable (.one 6 .stable (.one 7 .stable (.one 8 .stable (.one 9 .stable (.one 10 .stable (.one 11 .pre (.one 12 .keep (.one 13 .keep (.one 14 .keep (.one 15 .keep (.one 16 .stable (.one 17 .stable (.one 18 .stable (.one 19 .last .nil))))))))))))))))))))) (.seq (.draw .blk (.one 0 .stable (.one 1 .pre (.one 2 .pre (.one 3 .pre (.one 4 .pre (.one 5 .pre (.one 6 .pre (.one 7 .pre (.one 8 .pre (.one 9 .pre (.one 10 .pre (.one 11 .pre (.one 12 .pre (.one 13 .keep (.one 14 .stable (.one 15 .stable (.one 16 .stable (.one 17 .last .nil))))))))))))))))))) (.seq .reg .leaf))))))
def F_sender_Submit (x_0 : Int) (x_1 : Int) (x_2 : Int) (x_3 : Int) (x_4 : Int) (x_5 : Int) (x_6 : Int) (x_7 : Int) (x_8_a : Option Addr) (x_8_l : Nat) (x_8_c : Nat) (x_9 : Int) (x_10 : Int) (x_11 : Int) (x_12 : Bool) (data_a : Option Addr) (data_l : Nat) (data_c : Nat) (w : World) (R : Value → World → Prop) : Prop :=
  (kAlloc w #[(.int .i64 x_0), (.int .i64 x_1), (.int .i64 x_2), (.int .i64 x_3), (.int .i64 x_4), (.int .i64 x_5), (.int .i64 x_6), (.int .i64 x_7), (.slice x_8_a x_8_l x_8_c), (.int .i64 x_9), (.int .i64 x_10), (.int .i64 x_11), (.bool x_12)] Ty_api_Sender fun b w1 =>
  (kAlloc w1 #[.int .i64 (0 : Int), .int .i64 (0 : Int), .int .i64 (0 : Int), .int .i64 (0 : Int), .int .i64 (0 : Int), .int .i64 (0 : Int), .int .i64 (0 : Int), .int .i64 (0 : Int), .slice none 0 0, .int .i64 (0 : Int), .int .i64 (0 : Int), .int .i64 (0 : Int), .bool false] Ty_api_Sender fun b1 w2 =>
  (∃ x_01 x_13 x_21 x_31 x_41 x_51 x_61 x_71 : Int, ∃ x_8_a1 : Option Addr, ∃ x_8_l1 x_8_c1 : Nat, ∃ x_91 x_101 x_111 : Int, ∃ x_121 : Bool, cellsAt w2 ⟨b, 0, none⟩ 0 [(.int .i64 x_01), (.int .i64 x_13), (.int .i64 x_21), (.int .i64 x_31), (.int .i64 x_41), (.int .i64 x_51), (.int .i64 x_61), (.int .i64 x_71), (.slice x_8_a1 x_8_l1 x_8_c1), (.int .i64 x_91), (.int .i64 x_101), (.int .i64 x_111), (.bool x_121)] ∧
  (Calls Try.prog N_sender_begin #[(.agg #[.int .i64 x_01, .int .i64 x_13, .int .i64 x_21, .int .i64 x_31, .int .i64 x_41, .int .i64 x_51, .int .i64 x_61, .int .i64 x_71, .slice x_8_a1 x_8_l1 x_8_c1, .int .i64 x_91, .int .i64 x_101, .int .i64 x_111, .bool x_121])] w2 fun e_ w3 =>
  ∃ r : Option Addr, ∃ r1 : Int, e_ = .returned (.tuple #[(.pointer r), (.int .i64 r1)]) ∧
  (kLet (!decide (r1 = (0 : Int))) fun x =>
  (bsplit x
    ((sxStore w3 ⟨b1, 0, none⟩ 0 [(.int .i64 (0 : Int)), (.int .i64 (0 : Int)), (.int .i64 (0 : Int)), (.int .i64 (0 : Int)), (.int .i64 (0 : Int)), (.int .i64 (0 : Int)), (.int .i64 (0 : Int)), (.int .i64 (0 : Int)), (.slice none 0 0), (.int .i64 (0 : Int)), (.int .i64 (0 : Int)), (.int .i64 (0 : Int)), (.bool false)] fun w4 =>
    (∃ r_0 r_1 r_2 r_3 r_4 r_5 r_6 r_7 : Int, ∃ r_8_a : Option Addr, ∃ r_8_l r_8_c : Nat, ∃ r_9 r_10 r_11 : Int, ∃ r_12 : Bool, cellsAt w4 ⟨b1, 0, none⟩ 0 [(.int .i64 r_0), (.int .i64 r_1), (.int .i64 r_2), (.int .i64 r_3), (.int .i64 r_4), (.int .i64 r_5), (.int .i64 r_6), (.int .i64 r_7), (.slice r_8_a r_8_l r_8_c), (.int .i64 r_9), (.int .i64 r_10), (.int .i64 r_11), (.bool r_12)] ∧
    R (.tuple #[(.agg #[.int .i64 r_0, .int .i64 r_1, .int .i64 r_2, .int .i64 r_3, .int .i64 r_4, .int .i64 r_5, .int .i64 r_6, .int .i64 r_7, .slice r_8_a r_8_l r_8_c, .int .i64 r_9, .int .i64 r_10, .int .i64 r_11, .bool r_12]), (.int .i64 r1)]) w4)))
    ((Calls Try.prog N_sender_between #[(.int .i64 (data_l : Int)), (.int .i64 (1 : Int)), (.int .i64 (2054 : Int))] w3 fun e_1 w5 =>
    ∃ r2 : Bool, e_1 = .returned (.bool r2) ∧
    (bsplit (!r2)
      ((sxStore w5 ⟨b1, 0, none⟩ 0 [(.int .i64 (0 : Int)), (.int .i64 (0 : Int)), (.int .i64 (0 : Int)), (.int .i64 (0 : Int)), (.int .i64 (0 : Int)), (.int .i64 (0 : Int)), (.int .i64 (0 : Int)), (.int .i64 (0 : Int)), (.slice none 0 0), (.int .i64 (0 : Int)), (.int .i64 (0 : Int)), (.int .i64 (0 : Int)), (.bool false)] fun w6 =>
      (∃ r_01 r_13 r_21 r_31 r_41 r_51 r_61 r_71 : Int, ∃ r_8_a1 : Option Addr, ∃ r_8_l1 r_8_c1 : Nat, ∃ r_91 r_101 r_111 : Int, ∃ r_121 : Bool, cellsAt w6 ⟨b1, 0, none⟩ 0 [(.int .i64 r_01), (.int .i64 r_13), (.int .i64 r_21), (.int .i64 r_31), (.int .i64 r_41), (.int .i64 r_51), (.int .i64 r_61), (.int .i64 r_71), (.slice r_8_a1 r_8_l1 r_8_c1), (.int .i64 r_91), (.int .i64 r_101), (.int .i64 r_111), (.bool r_121)] ∧
      R (.tuple #[(.agg #[.int .i64 r_01, .int .i64 r_13, .int .i64 r_21, .int .i64 r_31, .int .i64 r_41, .int .i64 r_51, .int .i64 r_61, .int .i64 r_71, .slice r_8_a1 r_8_l1 r_8_c1, .int .i64 r_91, .int .i64 r_101, .int .i64 r_111, .bool r_121]), (.int .i64 (2 : Int))]) w6)))
      ((kDrew w5 fun w7 =>
      (∃ S : Nat → Prop,
      (kNil r fun x1 =>
      (kLd w7 (x1.add 7) .i64 fun x2 =>
      (kNil r fun x3 =>
      (S x3.block ∧
      (kLd w7 x3 .i64 fun x4 =>
      (kW .i64 (x4 - (1 : Int)) fun x5 =>
      (0 ≤ x5 ∧ (kW .i64 ((1 : Int) * 2 ^ (min x5.toNat (IntKind.bits .i64))) fun x6 =>
      (Calls Try.prog N_sender_side_place #[(.pointer r), (.int .i64 x2)] w7 fun e_2 w8 =>
      ∃ r3 : Int, e_2 = .returned (.int .i64 r3) ∧
      (KeepsB S w7 w8 ∧ (kLet (decide (r3 = x6)) fun x7 =>
      (bsplit x7
        ((sxStore w8 ⟨b1, 0, none⟩ 0 [(.int .i64 (0 : Int)), (.int .i64 (0 : Int)), (.int .i64 (0 : Int)), (.int .i64 (0 : Int)), (.int .i64 (0 : Int)), (.int .i64 (0 : Int)), (.int .i64 (0 : Int)), (.int .i64 (0 : Int)), (.slice none 0 0), (.int .i64 (0 : Int)), (.int .i64 (0 : Int)), (.int .i64 (0 : Int)), (.bool false)] fun w9 =>
        (∃ r_02 r_14 r_22 r_32 r_42 r_52 r_62 r_72 : Int, ∃ r_8_a2 : Option Addr, ∃ r_8_l2 r_8_c2 : Nat, ∃ r_92 r_102 r_112 : Int, ∃ r_122 : Bool, cellsAt w9 ⟨b1, 0, none⟩ 0 [(.int .i64 r_02), (.int .i64 r_14), (.int .i64 r_22), (.int .i64 r_32), (.int .i64 r_42), (.int .i64 r_52), (.int .i64 r_62), (.int .i64 r_72), (.slice r_8_a2 r_8_l2 r_8_c2), (.int .i64 r_92), (.int .i64 r_102), (.int .i64 r_112), (.bool r_122)] ∧
        R (.tuple #[(.agg #[.int .i64 r_02, .int .i64 r_14, .int .i64 r_22, .int .i64 r_32, .int .i64 r_42, .int .i64 r_52, .int .i64 r_62, .int .i64 r_72, .slice r_8_a2 r_8_l2 r_8_c2, .int .i64 r_92, .int .i64 r_102, .int .i64 r_112, .bool r_122]), (.int .i64 (13 : Int))]) w9)))
        ((kDrew w8 fun w10 =>
        (∃ S1 : Nat → Prop,
        (kNil r fun x8 =>
        (S1 (x8.add 8).block ∧
        (kLdS w10 (x8.add 8) fun x_a x_l x_c =>
        (kNil r fun x9 =>
        (S1 (x9.add 7).block ∧
        (kLd w10 (x9.add 7) .i64 fun x10 =>
        (Calls Try.prog N_slices_Clone_Sbyte_byte #[(.slice data_a data_l data_c)] w10 fun e_3 w11 =>
        ∃ r_a : Option Addr, ∃ r_l r_c : Nat, e_3 = .returned (.slice r_a r_l r_c) ∧
        (KeepsB S1 w10 w11 ∧ (KeepsB S1 w10 w11 ∧ (kAlloc w11 #[(.int .i64 x10), (.slice r_a r_l r_c), (.int .i64 (0 : Int)), (.int .i64 (0 : Int)), (.slice none 0 0)] Ty_api_Unit fun b2 w12 =>
        (KeepsB S1 w10 w12 ∧ (AppP Try.prog #[Ty_S_api_Unit, Ty_S_api_Unit] Ty_S_api_Unit #[(.slice x_a x_l x_c), (.slice (some ⟨b2, 0, none⟩) 1 1)] w12 fun x_a1 x_l1 x_c1 w13 =>
        (KeepsB S1 w10 w13 ∧ (kNil r fun x11 =>
        (kSet w13 (x11.add 8) (.slice x_a1 x_l1 x_c1) fun w14 =>
        (kDrew w14 fun w15 =>
        (∃ S2 : Nat → Prop,
        (kNil r fun x12 =>
        (kLd w15 x12 .i64 fun x13 =>
        (kNil r fun x14 =>
        (kLd w15 (x14.add 7) .i64 fun x15 =>
        (kW .i64 (x15 + (1 : Int)) fun x16 =>
        (Calls Try.prog N_serial_Low #[(.int .i64 x13), (.int .i64 x16)] w15 fun e_4 w16 =>
        ∃ r4 : Int, e_4 = .returned (.int .i64 r4) ∧
        (KeepsB S2 w15 w16 ∧ (kNil r fun x17 =>
        (kSet w16 (x17.add 7) (.int .i64 r4) fun w17 =>
        (kNil r fun x18 =>
        (∃ x_02 x_14 x_22 x_32 x_42 x_52 x_62 x_72 : Int, ∃ x_8_a2 : Option Addr, ∃ x_8_l2 x_8_c2 : Nat, ∃ x_92 x_102 x_112 : Int, ∃ x_122 : Bool, cellsAt w17 x18 0 [(.int .i64 x_02), (.int .i64 x_14), (.int .i64 x_22), (.int .i64 x_32), (.int .i64 x_42), (.int .i64 x_52), (.int .i64 x_62), (.int .i64 x_72), (.slice x_8_a2 x_8_l2 x_8_c2), (.int .i64 x_92), (.int .i64 x_102), (.int .i64 x_112), (.bool x_122)] ∧
        (sxStore w17 ⟨b1, 0, none⟩ 0 [(.int .i64 x_02), (.int .i64 x_14), (.int .i64 x_22), (.int .i64 x_32), (.int .i64 x_42), (.int .i64 x_52), (.int .i64 x_62), (.int .i64 x_72), (.slice x_8_a2 x_8_l2 x_8_c2), (.int .i64 x_92), (.int .i64 x_102), (.int .i64 x_112), (.bool x_122)] fun w18 =>
        (∃ r_03 r_15 r_23 r_33 r_43 r_53 r_63 r_73 : Int, ∃ r_8_a3 : Option Addr, ∃ r_8_l3 r_8_c3 : Nat, ∃ r_93 r_103 r_113 : Int, ∃ r_123 : Bool, cellsAt w18 ⟨b1, 0, none⟩ 0 [(.int .i64 r_03), (.int .i64 r_15), (.int .i64 r_23), (.int .i64 r_33), (.int .i64 r_43), (.int .i64 r_53), (.int .i64 r_63), (.int .i64 r_73), (.slice r_8_a3 r_8_l3 r_8_c3), (.int .i64 r_93), (.int .i64 r_103), (.int .i64 r_113), (.bool r_123)] ∧
        R (.tuple #[(.agg #[.int .i64 r_03, .int .i64 r_15, .int .i64 r_23, .int .i64 r_33, .int .i64 r_43, .int .i64 r_53, .int .i64 r_63, .int .i64 r_73, .slice r_8_a3 r_8_l3 r_8_c3, .int .i64 r_93, .int .i64 r_103, .int .i64 r_113, .bool r_123]), (.int .i64 (0 : Int))]) w18)))))))))))))))))))))))))))))))))))))))))))))))))))))))))
theorem F_sender_Submit_eq (x_0 : Int) (x_1 : Int) (x_2 : Int) (x_3 : Int) (x_4 : Int) (x_5 : Int) (x_6 : Int) (x_7 : Int) (x_8_a : Option Addr) (x_8_l : Nat) (x_8_c : Nat) (x_9 : Int) (x_10 : Int) (x_11 : Int) (x_12 : Bool) (data_a : Option Addr) (data_l : Nat) (data_c : Nat) (w : World) (R : Value → World → Prop) : sxFn Try.prog TT h_sender_Submit Try.f16 #[(.agg #[.int .i64 x_0, .int .i64 x_1, .int .i64 x_2, .int .i64 x_3, .int .i64 x_4, .int .i64 x_5, .int .i64 x_6, .int .i64 x_7, .slice x_8_a x_8_l x_8_c, .int .i64 x_9, .int .i64 x_10, .int .i64 x_11, .bool x_12]), (.slice data_a data_l data_c)] w R = F_sender_Submit x_0 x_1 x_2 x_3 x_4 x_5 x_6 x_7 x_8_a x_8_l x_8_c x_9 x_10 x_11 x_12 data_a data_l data_c w R := by kernel_rfl
theorem F_sender_Submit_ok {R : Ending → World → Prop} (x_0 : Int) (x_1 : Int) (x_2 : Int) (x_3 : Int) (x_4 : Int) (x_5 : Int) (x_6 : Int) (x_7 : Int) (x_8_a : Option Addr) (x_8_l : Nat) (x_8_c : Nat) (x_9 : Int) (x_10 : Int) (x_11 : Int) (x_12 : Bool) (data_a : Option Addr) (data_l : Nat) (data_c : Nat) (w : World) (h : F_sender_Submit x_0 x_1 x_2 x_3 x_4 x_5 x_6 x_7 x_8_a x_8_l x_8_c x_9 x_10 x_11 x_12 data_a data_l data_c w fun v w' => R (.returned v) w') : Calls Try.prog N_sender_Submit #[(.agg #[.int .i64 x_0, .int .i64 x_1, .int .i64 x_2, .int .i64 x_3, .int .i64 x_4, .int .i64 x_5, .int .i64 x_6, .int .i64 x_7, .slice x_8_a x_8_l x_8_c, .int .i64 x_9, .int .i64 x_10, .int .i64 x_11, .bool x_12]), (.slice data_a data_l data_c)] w R :=
  calls_of (f := 16) follows_ok Try.func16 (Eq.mpr (F_sender_Submit_eq x_0 x_1 x_2 x_3 x_4 x_5 x_6 x_7 x_8_a x_8_l x_8_c x_9 x_10 x_11 x_12 data_a data_l data_c w _) h)

def h_sender_Build : H := (.seq .reg (.seq .reg (.seq (.seq .reg (.cond (.seq .reg .leaf) .leaf)) (.seq .reg (.seq (.block (.seq .reg (.cond (.seq .reg .leaf) (.seq .reg (.cond (.seq .reg .leaf) .leaf))))) (.seq .reg (.seq .reg (.cut [(12, .p .addr)] [12, 47, 48, 49, 50, 51, 52, 53, 54, 55, 56, 57, 58, 59, 60, 61, 62, 63, 64, 65, 66, 67, 68, 69, 70, 71, 72, 73, 74] (.draw .blk (.one 0 .stable (.one 1 .stable (.one 2 .stable (.one 3 .stable (.one 4 .stable (.one 5 .stable (.one 6 .stable (.one 7 .stable (.one 8 .stable (.one 9 .stable (.one 10 .stable (.one 11 .stable (.one 12 .stable (.one 13 .stable (.one 14 .stable (.one 16 .stable (.one 17 .stable (.one 18 .stable (.one 19 .stable (.one 20 .stable (.one 21 .stable (.one 22 .stable (.one 23 .stable (.one 24 .stable (.one 25 .stable (.one 26 .stable (.alt 15 (.alt 27 (.one 28 .keep (.one 29 .last .nil)) (.alt 28 (.one 27 .keep (.one 29 .last .nil)) .endAlt)) (.alt 28 (.one 15 .keep (.one 27 .keep (.one 29 .last .nil))) .endAlt))))))))))))))))))))))))))))) (.cut [(8, .p (.int .i64)), (13, .p .addr)] [8, 13, 14, 75, 76, 77, 78, 79, 80, 81, 82, 83, 84, 85, 86, 87] (.draw .blk (.one 0 .stable (.one 1 .stable (.one 2 .stable (.one 3 .stable (.one 4 .stable (.one 5 .stable (.one 6 .stable (.one 7 .stable (.alt 8 (.one 9 .stable (.one 10 .stable (.one 11 .stable (.one 12 .stable (.alt 13 (.one 14 .keep (.one 15 .keep (.one 16 .keep (.one 17 .stable .nil)))) (.alt 14 (.one 13 .keep (.one 15 .keep (.one 16 .keep (.one 17 .stable .nil)))) .endAlt)))))) (.alt 13 (.alt 8 (.one 9 .stable (.one 10 .stable (.one 11 .stable (.one 12 .stable (.one 14 .keep (.one 15 .keep (.one 16 .keep (.one 17 .stable .nil)))))))) (.alt 14 (.one 8 .keep (.one 9 .stable (.one 10 .stable (.one 11 .stable (.one 12 .stable (.one 15 .keep (.one 16 .keep (.one 17 .stable .nil)))))))) .endAlt)) (.alt 14 (.alt 8 (.one 9 .stable (.one 10 .stable (.one 11 .stable (.one 12 .stable (.one 13 .keep (.one 15 .keep (.one 16 .keep (.one 17 .stable .nil)))))))) (.alt 13 (.one 8 .keep (.one 9 .stable (.one 10 .stable (.one 11 .stable (.one 12 .stable (.one 15 .keep (.one 16 .keep (.one 17 .stable .nil)))))))) .endAlt)) .endAlt)))))))))))) (.seq (.seq .reg (.cond (.seq .reg .leaf) .leaf)) (.seq .reg (.seq .reg (.cut [] [106, 107, 108, 109, 110, 111, 112, 113, 114, 115, 116, 117, 118, 119, 120, 121, 122, 123, 124] (.seq (.draw .blk (.one 0 .pre (.one 1 .pre (.one 2 .pre (.one 3 .pre (.one 4 .pre (.one 5 .pre (.one 6 .pre (.one 7 .pre (.one 8 .pre (.one 9 .pre (.one 10 .pre (.one 11 .pre (.one 12 .pre (.one 13 .pre (.one 14 .keep (.one 15 .stable (.one 16 .stable .nil)))))))))))))))))) (.cond .reg .leaf)) (.seq (.draw .blk (.one 0 .pre (.one 1 .pre (.one 2 .pre (.one 3 .pre (.one 4 .pre (.one 5 .pre (.one 6 .pre (.one 7 .keep (.one 8 .stable (.one 9 .stable (.one 10 .stable (.one 11 .stable (.one 12 .stable .nil)))))))))))))) (.seq .reg .leaf)))))))))))))))
def F_sender_Build (x_0 : Int) (x_1 : Int) (x_2 : Int) (x_3 : Int) (x_4 : Int) (x_5 : Int) (x_6 : Int) (x_7 : Int) (x_8_a : Option Addr) (x_8_l : Nat) (x_8_c : Nat) (x_9 : Int) (x_10 : Int) (x_11 : Int) (x_12 : Bool) (size : Int) (w : World) (R : Value → World → Prop) : Prop :=
  (kAlloc w #[(.int .i64 x_0), (.int .i64 x_1), (.int .i64 x_2), (.int .i64 x_3), (.int .i64 x_4), (.int .i64 x_5), (.int .i64 x_6), (.int .i64 x_7), (.slice x_8_a x_8_l x_8_c), (.int .i64 x_9), (.int .i64 x_10), (.int .i64 x_11), (.bool x_12)] Ty_api_Sender fun b w1 =>
  (kAlloc w1 #[.int .i64 (0 : Int), .int .i64 (0 : Int), .int .i64 (0 : Int), .int .i64 (0 : Int), .int .i64 (0 : Int), .int .i64 (0 : Int), .int .i64 (0 : Int), .int .i64 (0 : Int), .slice none 0 0, .int .i64 (0 : Int), .int .i64 (0 : Int), .int .i64 (0 : Int), .bool false] Ty_api_Sender fun b1 w2 =>
  (∃ x_01 x_13 x_21 x_31 x_41 x_51 x_61 x_71 : Int, ∃ x_8_a1 : Option Addr, ∃ x_8_l1 x_8_c1 : Nat, ∃ x_91 x_101 x_111 : Int, ∃ x_121 : Bool, cellsAt w2 ⟨b, 0, none⟩ 0 [(.int .i64 x_01), (.int .i64 x_13), (.int .i64 x_21), (.int .i64 x_31), (.int .i64 x_41), (.int .i64 x_51), (.int .i64 x_61), (.int .i64 x_71), (.slice x_8_a1 x_8_l1 x_8_c1), (.int .i64 x_91), (.int .i64 x_101), (.int .i64 x_111), (.bool x_121)] ∧
  (Calls Try.prog N_sender_begin #[(.agg #[.int .i64 x_01, .int .i64 x_13, .int .i64 x_21, .int .i64 x_31, .int .i64 x_41, .int .i64 x_51, .int .i64 x_61, .int .i64 x_71, .slice x_8_a1 x_8_l1 x_8_c1, .int .i64 x_91, .int .i64 x_101, .int .i64 x_111, .bool x_121])] w2 fun e_ w3 =>
  ∃ r : Option Addr, ∃ r1 : Int, e_ = .returned (.tuple #[(.pointer r), (.int .i64 r1)]) ∧
  (bsplit (!decide (r1 = (0 : Int)))
    ((sxStore w3 ⟨b1, 0, none⟩ 0 [(.int .i64 (0 : Int)), (.int .i64 (0 : Int)), (.int .i64 (0 : Int)), (.int .i64 (0 : Int)), (.int .i64 (0 : Int)), (.int .i64 (0 : Int)), (.int .i64 (0 : Int)), (.int .i64 (0 : Int)), (.slice none 0 0), (.int .i64 (0 : Int)), (.int .i64 (0 : Int)), (.int .i64 (0 : Int)), (.bool false)] fun w4 =>
    (∃ r_0 r_1 r_2 r_3 r_4 r_5 r_6 r_7 : Int, ∃ r_8_a : Option Addr, ∃ r_8_l r_8_c : Nat, ∃ r_9 r_10 r_11 : Int, ∃ r_12 : Bool, cellsAt w4 ⟨b1, 0, none⟩ 0 [(.int .i64 r_0), (.int .i64 r_1), (.int .i64 r_2), (.int .i64 r_3), (.int .i64 r_4), (.int .i64 r_5), (.int .i64 r_6), (.int .i64 r_7), (.slice r_8_a r_8_l r_8_c), (.int .i64 r_9), (.int .i64 r_10), (.int .i64 r_11), (.bool r_12)] ∧
    R (.tuple #[(.agg #[.int .i64 r_0, .int .i64 r_1, .int .i64 r_2, .int .i64 r_3, .int .i64 r_4, .int .i64 r_5, .int .i64 r_6, .int .i64 r_7, .slice r_8_a r_8_l r_8_c, .int .i64 r_9, .int .i64 r_10, .int .i64 r_11, .bool r_12]), (.slice none 0 0), (.int .i64 r1)]) w4)))
    ((Calls Try.prog N_sender_side_left #[(.pointer r)] w3 fun e_1 w5 =>
    ∃ r2 : Int, e_1 = .returned (.int .i64 r2) ∧
    (Calls Try.prog N_sender_between #[(.int .i64 size), (.int .i64 (0 : Int)), (.int .i64 (4096 : Int))] w5 fun e_2 w6 =>
    ∃ r3 : Bool, e_2 = .returned (.bool r3) ∧
    (bsplit (!r3)
      ((sxStore w6 ⟨b1, 0, none⟩ 0 [(.int .i64 (0 : Int)), (.int .i64 (0 : Int)), (.int .i64 (0 : Int)), (.int .i64 (0 : Int)), (.int .i64 (0 : Int)), (.int .i64 (0 : Int)), (.int .i64 (0 : Int)), (.int .i64 (0 : Int)), (.slice none 0 0), (.int .i64 (0 : Int)), (.int .i64 (0 : Int)), (.int .i64 (0 : Int)), (.bool false)] fun w7 =>
      (∃ r_01 r_13 r_21 r_31 r_41 r_51 r_61 r_71 : Int, ∃ r_8_a1 : Option Addr, ∃ r_8_l1 r_8_c1 : Nat, ∃ r_91 r_101 r_111 : Int, ∃ r_121 : Bool, cellsAt w7 ⟨b1, 0, none⟩ 0 [(.int .i64 r_01), (.int .i64 r_13), (.int .i64 r_21), (.int .i64 r_31), (.int .i64 r_41), (.int .i64 r_51), (.int .i64 r_61), (.int .i64 r_71), (.slice r_8_a1 r_8_l1 r_8_c1), (.int .i64 r_91), (.int .i64 r_101), (.int .i64 r_111), (.bool r_121)] ∧
      R (.tuple #[(.agg #[.int .i64 r_01, .int .i64 r_13, .int .i64 r_21, .int .i64 r_31, .int .i64 r_41, .int .i64 r_51, .int .i64 r_61, .int .i64 r_71, .slice r_8_a1 r_8_l1 r_8_c1, .int .i64 r_91, .int .i64 r_101, .int .i64 r_111, .bool r_121]), (.slice none 0 0), (.int .i64 (3 : Int))]) w7)))
      ((kLet (decide (r2 < (0 : Int))) fun x =>
      (bsplit x
        ((sxStore w6 ⟨b1, 0, none⟩ 0 [(.int .i64 (0 : Int)), (.int .i64 (0 : Int)), (.int .i64 (0 : Int)), (.int .i64 (0 : Int)), (.int .i64 (0 : Int)), (.int .i64 (0 : Int)), (.int .i64 (0 : Int)), (.int .i64 (0 : Int)), (.slice none 0 0), (.int .i64 (0 : Int)), (.int .i64 (0 : Int)), (.int .i64 (0 : Int)), (.bool false)] fun w8 =>
        (∃ r_02 r_14 r_22 r_32 r_42 r_52 r_62 r_72 : Int, ∃ r_8_a2 : Option Addr, ∃ r_8_l2 r_8_c2 : Nat, ∃ r_92 r_102 r_112 : Int, ∃ r_122 : Bool, cellsAt w8 ⟨b1, 0, none⟩ 0 [(.int .i64 r_02), (.int .i64 r_14), (.int .i64 r_22), (.int .i64 r_32), (.int .i64 r_42), (.int .i64 r_52), (.int .i64 r_62), (.int .i64 r_72), (.slice r_8_a2 r_8_l2 r_8_c2), (.int .i64 r_92), (.int .i64 r_102), (.int .i64 r_112), (.bool r_122)] ∧
        R (.tuple #[(.agg #[.int .i64 r_02, .int .i64 r_14, .int .i64 r_22, .int .i64 r_32, .int .i64 r_42, .int .i64 r_52, .int .i64 r_62, .int .i64 r_72, .slice r_8_a2 r_8_l2 r_8_c2, .int .i64 r_92, .int .i64 r_102, .int .i64 r_112, .bool r_122]), (.slice none 0 0), (.int .i64 (14 : Int))]) w8)))
        ((kNil r fun x1 =>
        (kLdS w6 (x1.add 8) fun x_a x_l _ =>
        (kIx x_a x_l r2 fun b2 =>
        (∃ x_02 : Int, ∃ x_1_a : Option Addr, ∃ x_1_l x_1_c : Nat, ∃ x_22 x_32 : Int, ∃ x_4_a : Option Addr, ∃ x_4_l x_4_c : Nat, cellsAt w6 (b2.add (r2.toNat * 5)) 0 [(.int .i64 x_02), (.slice x_1_a x_1_l x_1_c), (.int .i64 x_22), (.int .i64 x_32), (.slice x_4_a x_4_l x_4_c)] ∧
        (Calls Try.prog N_sender_part #[(.agg #[.int .i64 x_02, .slice x_1_a x_1_l x_1_c, .int .i64 x_22, .int .i64 x_32, .slice x_4_a x_4_l x_4_c])] w6 fun e_3 w9 =>
        ∃ r_03 r_15 r_23 : Int, e_3 = .returned (.agg #[.int .i64 r_03, .int .i64 r_15, .int .i64 r_23]) ∧
        (kAlloc w9 #[.int .i64 (0 : Int), .int .i64 (0 : Int), .int .i64 (0 : Int)] Ty_api_Range fun b3 w10 =>
        (sxStore w10 ⟨b3, 0, none⟩ 0 [(.int .i64 r_03), (.int .i64 r_15), (.int .i64 r_23)] fun w11 =>
        (∃ J : Addr → World → Prop,
        (∀ (_junk : Env) (whole : Addr) (w21 : World), J whole w21 →
          (∃ J1 : Int → Addr → World → Prop,
          (∀ (_junk : Env) (e1 : Int) (p : Addr) (w50 : World), J1 e1 p w50 →
            (bsplit (!decide (e1 = (0 : Int)))
              ((sxStore w50 ⟨b1, 0, none⟩ 0 [(.int .i64 (0 : Int)), (.int .i64 (0 : Int)), (.int .i64 (0 : Int)), (.int .i64 (0 : Int)), (.int .i64 (0 : Int)), (.int .i64 (0 : Int)), (.int .i64 (0 : Int)), (.int .i64 (0 : Int)), (.slice none 0 0), (.int .i64 (0 : Int)), (.int .i64 (0 : Int)), (.int .i64 (0 : Int)), (.bool false)] fun w51 =>
              (∃ r_014 r_118 r_214 r_313 r_43 r_53 r_63 r_73 : Int, ∃ r_8_a3 : Option Addr, ∃ r_8_l3 r_8_c3 : Nat, ∃ r_93 r_103 r_119 : Int, ∃ r_123 : Bool, cellsAt w51 ⟨b1, 0, none⟩ 0 [(.int .i64 r_014), (.int .i64 r_118), (.int .i64 r_214), (.int .i64 r_313), (.int .i64 r_43), (.int .i64 r_53), (.int .i64 r_63), (.int .i64 r_73), (.slice r_8_a3 r_8_l3 r_8_c3), (.int .i64 r_93), (.int .i64 r_103), (.int .i64 r_119), (.bool r_123)] ∧
              R (.tuple #[(.agg #[.int .i64 r_014, .int .i64 r_118, .int .i64 r_214, .int .i64 r_313, .int .i64 r_43, .int .i64 r_53, .int .i64 r_63, .int .i64 r_73, .slice r_8_a3 r_8_l3 r_8_c3, .int .i64 r_93, .int .i64 r_103, .int .i64 r_119, .bool r_123]), (.slice none 0 0), (.int .i64 e1)]) w51)))
              ((kLdS w50 (p.add 4) fun _ x_l3 _ =>
              (Calls Try.prog N_sender_take #[(.pointer (some (b2.add (r2.toNat * 5)))), (.int .i64 (x_l3 : Int))] w50 fun e_11 w52 =>
              e_11 = .returned (.tuple #[]) ∧
              (kNil r fun x10 =>
              (kLd w52 (x10.add 9) .i64 fun x11 =>
              (kW .i64 (x11 + (1 : Int)) fun x12 =>
              (kNil r fun x13 =>
              (kSet w52 (x13.add 9) (.int .i64 x12) fun w53 =>
              (∃ J2 : World → Prop,
              (∀ (_junk : Env)  (w58 : World), J2 w58 →
                (kDrew w58 fun w59 =>
                (∃ S3 : Nat → Prop,
                (kNil r fun x18 =>
                (kLd w59 x18 .i64 fun x19 =>
                (∃ x_04 x_15 x_24 x_34 : Int, ∃ x_4_a2 : Option Addr, ∃ x_4_l2 x_4_c2 : Nat, cellsAt w59 p 0 [(.int .i64 x_04), (.int .i64 x_15), (.int .i64 x_24), (.int .i64 x_34), (.slice x_4_a2 x_4_l2 x_4_c2)] ∧
                (Calls Try.prog N_segment_Encode #[(.int .i64 x19), (.agg #[.int .i64 x_04, .int .i64 x_15, .int .i64 x_24, .int .i64 x_34, .slice x_4_a2 x_4_l2 x_4_c2])] w59 fun e_15 w60 =>
                ∃ r_a : Option Addr, ∃ r_l r_c : Nat, ∃ r12 : Int, e_15 = .returned (.tuple #[(.slice r_a r_l r_c), (.int .i64 r12)]) ∧
                (KeepsB S3 w59 w60 ∧ (kNil r fun x20 =>
                (∃ x_05 x_16 x_25 x_35 x_42 x_52 x_62 x_72 : Int, ∃ x_8_a2 : Option Addr, ∃ x_8_l2 x_8_c2 : Nat, ∃ x_92 x_102 x_112 : Int, ∃ x_122 : Bool, cellsAt w60 x20 0 [(.int .i64 x_05), (.int .i64 x_16), (.int .i64 x_25), (.int .i64 x_35), (.int .i64 x_42), (.int .i64 x_52), (.int .i64 x_62), (.int .i64 x_72), (.slice x_8_a2 x_8_l2 x_8_c2), (.int .i64 x_92), (.int .i64 x_102), (.int .i64 x_112), (.bool x_122)] ∧
                (sxStore w60 ⟨b1, 0, none⟩ 0 [(.int .i64 x_05), (.int .i64 x_16), (.int .i64 x_25), (.int .i64 x_35), (.int .i64 x_42), (.int .i64 x_52), (.int .i64 x_62), (.int .i64 x_72), (.slice x_8_a2 x_8_l2 x_8_c2), (.int .i64 x_92), (.int .i64 x_102), (.int .i64 x_112), (.bool x_122)] fun w61 =>
                (∃ r_015 r_120 r_215 r_314 r_44 r_54 r_64 r_74 : Int, ∃ r_8_a4 : Option Addr, ∃ r_8_l4 r_8_c4 : Nat, ∃ r_94 r_104 r_1110 : Int, ∃ r_124 : Bool, cellsAt w61 ⟨b1, 0, none⟩ 0 [(.int .i64 r_015), (.int .i64 r_120), (.int .i64 r_215), (.int .i64 r_314), (.int .i64 r_44), (.int .i64 r_54), (.int .i64 r_64), (.int .i64 r_74), (.slice r_8_a4 r_8_l4 r_8_c4), (.int .i64 r_94), (.int .i64 r_104), (.int .i64 r_1110), (.bool r_124)] ∧
                R (.tuple #[(.agg #[.int .i64 r_015, .int .i64 r_120, .int .i64 r_215, .int .i64 r_314, .int .i64 r_44, .int .i64 r_54, .int .i64 r_64, .int .i64 r_74, .slice r_8_a4 r_8_l4 r_8_c4, .int .i64 r_94, .int .i64 r_104, .int .i64 r_1110, .bool r_124]), (.slice r_a r_l r_c), (.int .i64 r12)]) w61)))))))))))) ∧
              (kDrew w53 fun w54 =>
              (∃ S2 : Nat → Prop,
              (kNil r fun x14 =>
              (kLd w54 (x14.add 9) .i64 fun x15 =>
              (kNil r fun x16 =>
              (kLd w54 (x16.add 1) .i64 fun x17 =>
              (bsplit (decide (x15 = x17))
                ((Calls Try.prog N_sender_side_ask #[(.pointer r), (.pointer (some p))] w54 fun e_12 w55 =>
                  e_12 = .returned (.tuple #[]) ∧
                  J2 w55))
                ((Calls Try.prog N_sender_side_left #[(.pointer r)] w54 fun e_13 w56 =>
                ∃ r11 : Int, e_13 = .returned (.int .i64 r11) ∧
                (KeepsB S2 w54 w56 ∧ (bsplit (decide (r11 < (0 : Int)))
                  ((Calls Try.prog N_sender_side_ask #[(.pointer r), (.pointer (some p))] w56 fun e_14 w57 =>
                  e_14 = .returned (.tuple #[]) ∧
                  J2 w57))
                  (J2 w56))))))))))))))))))))))) ∧
          (kDrew w21 fun w22 =>
          (∃ S1 : Nat → Prop,
          (kNil r fun x8 =>
          (S1 x8.block ∧
          (kLd w22 x8 .i64 fun x9 =>
          (S1 whole.block ∧
          (∃ x_03 x_14 x_23 x_33 : Int, ∃ x_4_a1 : Option Addr, ∃ x_4_l1 x_4_c1 : Nat, cellsAt w22 whole 0 [(.int .i64 x_03), (.int .i64 x_14), (.int .i64 x_23), (.int .i64 x_33), (.slice x_4_a1 x_4_l1 x_4_c1)] ∧
          ((Calls Try.prog N_segment_Cut #[(.int .i64 x9), (.agg #[.int .i64 x_03, .int .i64 x_14, .int .i64 x_23, .int .i64 x_33, .slice x_4_a1 x_4_l1 x_4_c1]), (.int .i64 size)] w22 fun e_10 w41 =>
          ∃ r_012 r_116 r_212 r_311 : Int, ∃ r_4_a8 : Option Addr, ∃ r_4_l8 r_4_c8 : Nat, ∃ r_013 r_117 r_213 r_312 : Int, ∃ r_4_a9 : Option Addr, ∃ r_4_l9 r_4_c9 : Nat, ∃ r10 : Int, e_10 = .returned (.tuple #[(.agg #[.int .i64 r_012, .int .i64 r_116, .int .i64 r_212, .int .i64 r_311, .slice r_4_a8 r_4_l8 r_4_c8]), (.agg #[.int .i64 r_013, .int .i64 r_117, .int .i64 r_213, .int .i64 r_312, .slice r_4_a9 r_4_l9 r_4_c9]), (.int .i64 r10)]) ∧
          (KeepsB S1 w22 w41 ∧ ((kAlloc w41 #[.int .i64 (0 : Int), .int .i64 (0 : Int), .int .i64 (0 : Int), .int .i64 (0 : Int), .slice none 0 0] Ty_api_Piece fun b15 w46 =>
          (KeepsB S1 w22 w46 ∧ (kAlloc w46 #[.int .i64 (0 : Int), .int .i64 (0 : Int), .int .i64 (0 : Int), .int .i64 (0 : Int), .slice none 0 0] Ty_api_Piece fun b16 w47 =>
          (KeepsB S1 w22 w47 ∧ (sxStore w47 ⟨b15, 0, none⟩ 0 [(.int .i64 r_012), (.int .i64 r_116), (.int .i64 r_212), (.int .i64 r_311), (.slice r_4_a8 r_4_l8 r_4_c8)] fun w48 =>
          (KeepsB S1 w22 w48 ∧ (sxStore w48 ⟨b16, 0, none⟩ 0 [(.int .i64 r_013), (.int .i64 r_117), (.int .i64 r_213), (.int .i64 r_312), (.slice r_4_a9 r_4_l9 r_4_c9)] fun w49 =>
          (KeepsB S1 w22 w49 ∧ J1 r10 ⟨b15, 0, none⟩ w49)))))))) ∧
          ((kAlloc w41 #[.int .i64 (0 : Int), .int .i64 (0 : Int), .int .i64 (0 : Int), .int .i64 (0 : Int), .slice none 0 0] Ty_api_Piece fun b13 w42 =>
          (KeepsB S1 w22 w42 ∧ (kAlloc w42 #[.int .i64 (0 : Int), .int .i64 (0 : Int), .int .i64 (0 : Int), .int .i64 (0 : Int), .slice none 0 0] Ty_api_Piece fun b14 w43 =>
          (KeepsB S1 w22 w43 ∧ (sxStore w43 ⟨b14, 0, none⟩ 0 [(.int .i64 r_012), (.int .i64 r_116), (.int .i64 r_212), (.int .i64 r_311), (.slice r_4_a8 r_4_l8 r_4_c8)] fun w44 =>
          (KeepsB S1 w22 w44 ∧ (sxStore w44 ⟨b13, 0, none⟩ 0 [(.int .i64 r_013), (.int .i64 r_117), (.int .i64 r_213), (.int .i64 r_312), (.slice r_4_a9 r_4_l9 r_4_c9)] fun w45 =>
          (KeepsB S1 w22 w45 ∧ J1 r10 ⟨b14, 0, none⟩ w45)))))))) ∧
          True)))) ∧
          ((kAlloc w22 #[.int .i64 (0 : Int), .int .i64 (0 : Int), .int .i64 (0 : Int), .int .i64 (0 : Int), .slice none 0 0] Ty_api_Piece fun b10 w32 =>
          (KeepsB S1 w22 w32 ∧ ((Calls Try.prog N_segment_Cut #[(.int .i64 x9), (.agg #[.int .i64 x_03, .int .i64 x_14, .int .i64 x_23, .int .i64 x_33, .slice x_4_a1 x_4_l1 x_4_c1]), (.int .i64 size)] w32 fun e_9 w37 =>
          ∃ r_010 r_114 r_210 r_39 : Int, ∃ r_4_a6 : Option Addr, ∃ r_4_l6 r_4_c6 : Nat, ∃ r_011 r_115 r_211 r_310 : Int, ∃ r_4_a7 : Option Addr, ∃ r_4_l7 r_4_c7 : Nat, ∃ r9 : Int, e_9 = .returned (.tuple #[(.agg #[.int .i64 r_010, .int .i64 r_114, .int .i64 r_210, .int .i64 r_39, .slice r_4_a6 r_4_l6 r_4_c6]), (.agg #[.int .i64 r_011, .int .i64 r_115, .int .i64 r_211, .int .i64 r_310, .slice r_4_a7 r_4_l7 r_4_c7]), (.int .i64 r9)]) ∧
          (KeepsB S1 w22 w37 ∧ (kAlloc w37 #[.int .i64 (0 : Int), .int .i64 (0 : Int), .int .i64 (0 : Int), .int .i64 (0 : Int), .slice none 0 0] Ty_api_Piece fun b12 w38 =>
          (KeepsB S1 w22 w38 ∧ (sxStore w38 ⟨b10, 0, none⟩ 0 [(.int .i64 r_010), (.int .i64 r_114), (.int .i64 r_210), (.int .i64 r_39), (.slice r_4_a6 r_4_l6 r_4_c6)] fun w39 =>
          (KeepsB S1 w22 w39 ∧ (sxStore w39 ⟨b12, 0, none⟩ 0 [(.int .i64 r_011), (.int .i64 r_115), (.int .i64 r_211), (.int .i64 r_310), (.slice r_4_a7 r_4_l7 r_4_c7)] fun w40 =>
          (KeepsB S1 w22 w40 ∧ J1 r9 ⟨b10, 0, none⟩ w40)))))))) ∧
          ((kAlloc w32 #[.int .i64 (0 : Int), .int .i64 (0 : Int), .int .i64 (0 : Int), .int .i64 (0 : Int), .slice none 0 0] Ty_api_Piece fun b11 w33 =>
          (KeepsB S1 w22 w33 ∧ (Calls Try.prog N_segment_Cut #[(.int .i64 x9), (.agg #[.int .i64 x_03, .int .i64 x_14, .int .i64 x_23, .int .i64 x_33, .slice x_4_a1 x_4_l1 x_4_c1]), (.int .i64 size)] w33 fun e_8 w34 =>
          ∃ r_08 r_110 r_28 r_37 : Int, ∃ r_4_a4 : Option Addr, ∃ r_4_l4 r_4_c4 : Nat, ∃ r_09 r_113 r_29 r_38 : Int, ∃ r_4_a5 : Option Addr, ∃ r_4_l5 r_4_c5 : Nat, ∃ r8 : Int, e_8 = .returned (.tuple #[(.agg #[.int .i64 r_08, .int .i64 r_110, .int .i64 r_28, .int .i64 r_37, .slice r_4_a4 r_4_l4 r_4_c4]), (.agg #[.int .i64 r_09, .int .i64 r_113, .int .i64 r_29, .int .i64 r_38, .slice r_4_a5 r_4_l5 r_4_c5]), (.int .i64 r8)]) ∧
          (KeepsB S1 w22 w34 ∧ (sxStore w34 ⟨b10, 0, none⟩ 0 [(.int .i64 r_08), (.int .i64 r_110), (.int .i64 r_28), (.int .i64 r_37), (.slice r_4_a4 r_4_l4 r_4_c4)] fun w35 =>
          (KeepsB S1 w22 w35 ∧ (sxStore w35 ⟨b11, 0, none⟩ 0 [(.int .i64 r_09), (.int .i64 r_113), (.int .i64 r_29), (.int .i64 r_38), (.slice r_4_a5 r_4_l5 r_4_c5)] fun w36 =>
          (KeepsB S1 w22 w36 ∧ J1 r8 ⟨b10, 0, none⟩ w36)))))))) ∧
          True)))) ∧
          ((kAlloc w22 #[.int .i64 (0 : Int), .int .i64 (0 : Int), .int .i64 (0 : Int), .int .i64 (0 : Int), .slice none 0 0] Ty_api_Piece fun b7 w23 =>
          (KeepsB S1 w22 w23 ∧ ((Calls Try.prog N_segment_Cut #[(.int .i64 x9), (.agg #[.int .i64 x_03, .int .i64 x_14, .int .i64 x_23, .int .i64 x_33, .slice x_4_a1 x_4_l1 x_4_c1]), (.int .i64 size)] w23 fun e_7 w28 =>
          ∃ r_06 r_18 r_26 r_35 : Int, ∃ r_4_a2 : Option Addr, ∃ r_4_l2 r_4_c2 : Nat, ∃ r_07 r_19 r_27 r_36 : Int, ∃ r_4_a3 : Option Addr, ∃ r_4_l3 r_4_c3 : Nat, ∃ r7 : Int, e_7 = .returned (.tuple #[(.agg #[.int .i64 r_06, .int .i64 r_18, .int .i64 r_26, .int .i64 r_35, .slice r_4_a2 r_4_l2 r_4_c2]), (.agg #[.int .i64 r_07, .int .i64 r_19, .int .i64 r_27, .int .i64 r_36, .slice r_4_a3 r_4_l3 r_4_c3]), (.int .i64 r7)]) ∧
          (KeepsB S1 w22 w28 ∧ (kAlloc w28 #[.int .i64 (0 : Int), .int .i64 (0 : Int), .int .i64 (0 : Int), .int .i64 (0 : Int), .slice none 0 0] Ty_api_Piece fun b9 w29 =>
          (KeepsB S1 w22 w29 ∧ (sxStore w29 ⟨b9, 0, none⟩ 0 [(.int .i64 r_06), (.int .i64 r_18), (.int .i64 r_26), (.int .i64 r_35), (.slice r_4_a2 r_4_l2 r_4_c2)] fun w30 =>
          (KeepsB S1 w22 w30 ∧ (sxStore w30 ⟨b7, 0, none⟩ 0 [(.int .i64 r_07), (.int .i64 r_19), (.int .i64 r_27), (.int .i64 r_36), (.slice r_4_a3 r_4_l3 r_4_c3)] fun w31 =>
          (KeepsB S1 w22 w31 ∧ J1 r7 ⟨b9, 0, none⟩ w31)))))))) ∧
          ((kAlloc w23 #[.int .i64 (0 : Int), .int .i64 (0 : Int), .int .i64 (0 : Int), .int .i64 (0 : Int), .slice none 0 0] Ty_api_Piece fun b8 w24 =>
          (KeepsB S1 w22 w24 ∧ (Calls Try.prog N_segment_Cut #[(.int .i64 x9), (.agg #[.int .i64 x_03, .int .i64 x_14, .int .i64 x_23, .int .i64 x_33, .slice x_4_a1 x_4_l1 x_4_c1]), (.int .i64 size)] w24 fun e_6 w25 =>
          ∃ r_04 r_16 r_24 r_33 : Int, ∃ r_4_a : Option Addr, ∃ r_4_l r_4_c : Nat, ∃ r_05 r_17 r_25 r_34 : Int, ∃ r_4_a1 : Option Addr, ∃ r_4_l1 r_4_c1 : Nat, ∃ r6 : Int, e_6 = .returned (.tuple #[(.agg #[.int .i64 r_04, .int .i64 r_16, .int .i64 r_24, .int .i64 r_33, .slice r_4_a r_4_l r_4_c]), (.agg #[.int .i64 r_05, .int .i64 r_17, .int .i64 r_25, .int .i64 r_34, .slice r_4_a1 r_4_l1 r_4_c1]), (.int .i64 r6)]) ∧
          (KeepsB S1 w22 w25 ∧ (sxStore w25 ⟨b8, 0, none⟩ 0 [(.int .i64 r_04), (.int .i64 r_16), (.int .i64 r_24), (.int .i64 r_33), (.slice r_4_a r_4_l r_4_c)] fun w26 =>
          (KeepsB S1 w22 w26 ∧ (sxStore w26 ⟨b7, 0, none⟩ 0 [(.int .i64 r_05), (.int .i64 r_17), (.int .i64 r_25), (.int .i64 r_34), (.slice r_4_a1 r_4_l1 r_4_c1)] fun w27 =>
          (KeepsB S1 w22 w27 ∧ J1 r6 ⟨b8, 0, none⟩ w27)))))))) ∧
          True)))) ∧
          True)))))))))))) ∧
        (kDrew w11 fun w12 =>
        (∃ S : Nat → Prop,
        (S (b2.add (r2.toNat * 5)).block ∧
        (kLd w12 (b2.add (r2.toNat * 5)) .i64 fun x2 =>
        (S b3 ∧
        (kLd w12 ⟨b3, 1, none⟩ .i64 fun x3 =>
        (S b3 ∧
        (kLd w12 ⟨b3, 2, none⟩ .i64 fun x4 =>
        (S ((b2.add (r2.toNat * 5)).add 1).block ∧
        (kLdS w12 ((b2.add (r2.toNat * 5)).add 1) fun _ x_l1 _ =>
        (S b3 ∧
        (kLd w12 ⟨b3, 1, none⟩ .i64 fun x5 =>
        (S ((b2.add (r2.toNat * 5)).add 1).block ∧
        (kLdS w12 ((b2.add (r2.toNat * 5)).add 1) fun x_a2 _ x_c2 =>
        (S b3 ∧
        (kLd w12 ⟨b3, 1, none⟩ .i64 fun x6 =>
        (S b3 ∧
        (kLd w12 ⟨b3, 2, none⟩ .i64 fun x7 =>
        ((0 ≤ x7 ∧ x7 ≤ ((x_c2 : Nat) : Int)) ∧ ((0 ≤ x6 ∧ x6 ≤ ((x7.toNat : Nat) : Int)) ∧ ((Calls Try.prog N_segment_Part #[(.bool (decide (x3 = (0 : Int)))), (.bool (decide (x4 = (x_l1 : Int))))] w12 fun e_5 w16 =>
        ∃ r5 : Int, e_5 = .returned (.int .i64 r5) ∧
        (KeepsB S w12 w16 ∧ ((KeepsB S w12 w16 ∧ (kAlloc w16 #[.int .i64 (0 : Int), .int .i64 (0 : Int), .int .i64 (0 : Int), .int .i64 (0 : Int), .slice none 0 0] Ty_api_Piece fun b6 w19 =>
        (KeepsB S w12 w19 ∧ (sxStore w19 ⟨b6, 0, none⟩ 0 [(.int .i64 x2), (.int .i64 r5), (.int .i64 (0 : Int)), (.int .i64 x5), (.slice (slAddr x_c2 (x6.toNat) 1 x_a2) (x7.toNat - x6.toNat) (x_c2 - x6.toNat))] fun w20 =>
        J ⟨b6, 0, none⟩ w20)))) ∧
        ((kAlloc w16 #[.int .i64 (0 : Int), .int .i64 (0 : Int), .int .i64 (0 : Int), .int .i64 (0 : Int), .slice none 0 0] Ty_api_Piece fun b5 w17 =>
        (KeepsB S w12 w17 ∧ (KeepsB S w12 w17 ∧ (sxStore w17 ⟨b5, 0, none⟩ 0 [(.int .i64 x2), (.int .i64 r5), (.int .i64 (0 : Int)), (.int .i64 x5), (.slice (slAddr x_c2 (x6.toNat) 1 x_a2) (x7.toNat - x6.toNat) (x_c2 - x6.toNat))] fun w18 =>
        J ⟨b5, 0, none⟩ w18)))) ∧
        True)))) ∧
        ((kAlloc w12 #[.int .i64 (0 : Int), .int .i64 (0 : Int), .int .i64 (0 : Int), .int .i64 (0 : Int), .slice none 0 0] Ty_api_Piece fun b4 w13 =>
        (KeepsB S w12 w13 ∧ (Calls Try.prog N_segment_Part #[(.bool (decide (x3 = (0 : Int)))), (.bool (decide (x4 = (x_l1 : Int))))] w13 fun e_4 w14 =>
        ∃ r4 : Int, e_4 = .returned (.int .i64 r4) ∧
        (KeepsB S w12 w14 ∧ (KeepsB S w12 w14 ∧ (sxStore w14 ⟨b4, 0, none⟩ 0 [(.int .i64 x2), (.int .i64 r4), (.int .i64 (0 : Int)), (.int .i64 x5), (.slice (slAddr x_c2 (x6.toNat) 1 x_a2) (x7.toNat - x6.toNat) (x_c2 - x6.toNat))] fun w15 =>
        J ⟨b4, 0, none⟩ w15)))))) ∧
        True)))))))))))))))))))))))))))))))))))))))))))
theorem F_sender_Build_eq (x_0 : Int) (x_1 : Int) (x_2 : Int) (x_3 : Int) (x_4 : Int) (x_5 : Int) (x_6 : Int) (x_7 : Int) (x_8_a : Option Addr) (x_8_l : Nat) (x_8_c : Nat) (x_9 : Int) (x_10 : Int) (x_11 : Int) (x_12 : Bool) (size : Int) (w : World) (R : Value → World → Prop) : sxFn Try.prog TT h_sender_Build Try.f17 #[(.agg #[.int .i64 x_0, .int .i64 x_1, .int .i64 x_2, .int .i64 x_3, .int .i64 x_4, .int .i64 x_5, .int .i64 x_6, .int .i64 x_7, .slice x_8_a x_8_l x_8_c, .int .i64 x_9, .int .i64 x_10, .int .i64 x_11, .bool x_12]), (.int .i64 size)] w R = F_sender_Build x_0 x_1 x_2 x_3 x_4 x_5 x_6 x_7 x_8_a x_8_l x_8_c x_9 x_10 x_11 x_12 size w R := by kernel_rfl
theorem F_sender_Build_ok {R : Ending → World → Prop} (x_0 : Int) (x_1 : Int) (x_2 : Int) (x_3 : Int) (x_4 : Int) (x_5 : Int) (x_6 : Int) (x_7 : Int) (x_8_a : Option Addr) (x_8_l : Nat) (x_8_c : Nat) (x_9 : Int) (x_10 : Int) (x_11 : Int) (x_12 : Bool) (size : Int) (w : World) (h : F_sender_Build x_0 x_1 x_2 x_3 x_4 x_5 x_6 x_7 x_8_a x_8_l x_8_c x_9 x_10 x_11 x_12 size w fun v w' => R (.returned v) w') : Calls Try.prog N_sender_Build #[(.agg #[.int .i64 x_0, .int .i64 x_1, .int .i64 x_2, .int .i64 x_3, .int .i64 x_4, .int .i64 x_5, .int .i64 x_6, .int .i64 x_7, .slice x_8_a x_8_l x_8_c, .int .i64 x_9, .int .i64 x_10, .int .i64 x_11, .bool x_12]), (.int .i64 size)] w R :=
  calls_of (f := 17) follows_ok Try.func17 (Eq.mpr (F_sender_Build_eq x_0 x_1 x_2 x_3 x_4 x_5 x_6 x_7 x_8_a x_8_l x_8_c x_9 x_10 x_11 x_12 size w _) h)

def h_ref01_Same : H := (.seq .reg (.seq .reg .leaf))
def F_ref01_Same (a_a : Option Addr) (a_l : Nat) (a_c : Nat) (b_a : Option Addr) (b_l : Nat) (b_c : Nat) (w : World) (R : Value → World → Prop) : Prop :=
  (ConvS Try.prog Ty_S_uint8 Ty_string (.slice a_a a_l a_c) w fun x =>
  (ConvS Try.prog Ty_S_uint8 Ty_string (.slice b_a b_l b_c) w fun x1 =>
  R (.bool (x == x1)) w))
theorem F_ref01_Same_eq (a_a : Option Addr) (a_l : Nat) (a_c : Nat) (b_a : Option Addr) (b_l : Nat) (b_c : Nat) (w : World) (R : Value → World → Prop) : sxFn Try.prog TT h_ref01_Same Try.f18 #[(.slice a_a a_l a_c), (.slice b_a b_l b_c)] w R = F_ref01_Same a_a a_l a_c b_a b_l b_c w R := by kernel_rfl
theorem F_ref01_Same_ok {R : Ending → World → Prop} (a_a : Option Addr) (a_l : Nat) (a_c : Nat) (b_a : Option Addr) (b_l : Nat) (b_c : Nat) (w : World) (h : F_ref01_Same a_a a_l a_c b_a b_l b_c w fun v w' => R (.returned v) w') : Calls Try.prog N_ref01_Same #[(.slice a_a a_l a_c), (.slice b_a b_l b_c)] w R :=
  calls_of (f := 18) follows_ok Try.func18 (Eq.mpr (F_ref01_Same_eq a_a a_l a_c b_a b_l b_c w _) h)

def h_ref18_Decode : H := (.seq .reg (.seq (.seq .reg (.cond (.seq .reg .leaf) .leaf)) (.seq (.seq .reg (.cond (.seq .reg .leaf) .leaf)) (.seq .reg (.seq .reg (.seq .reg (.seq (.seq .reg (.cond (.seq .reg .leaf) .leaf)) (.cut [] [36, 37, 38, 39, 40] (.seq .reg (.cond .reg .leaf)) (.seq .reg (.seq (.seq .reg (.cond (.seq .reg .leaf) .leaf)) (.seq .reg .leaf)))))))))))
def F_ref18_Decode (bits : Int) (b_a : Option Addr) (b_l : Nat) (b_c : Nat) (w : World) (R : Value → World → Prop) : Prop :=
  (kAlloc w #[.int .i64 (0 : Int), .int .i64 (0 : Int), .int .i64 (0 : Int), .int .i64 (0 : Int), .slice none 0 0] Ty_api_Piece fun b w1 =>
  (Calls Try.prog N_ref15_Bits #[(.int .i64 bits)] w1 fun e_ w2 =>
  ∃ r : Bool, e_ = .returned (.bool r) ∧
  (bsplit (!r)
    ((sxStore w2 ⟨b, 0, none⟩ 0 [(.int .i64 (0 : Int)), (.int .i64 (0 : Int)), (.int .i64 (0 : Int)), (.int .i64 (0 : Int)), (.slice none 0 0)] fun w3 =>
    (∃ r_0 r_1 r_2 r_3 : Int, ∃ r_4_a : Option Addr, ∃ r_4_l r_4_c : Nat, cellsAt w3 ⟨b, 0, none⟩ 0 [(.int .i64 r_0), (.int .i64 r_1), (.int .i64 r_2), (.int .i64 r_3), (.slice r_4_a r_4_l r_4_c)] ∧
    R (.tuple #[(.agg #[.int .i64 r_0, .int .i64 r_1, .int .i64 r_2, .int .i64 r_3, .slice r_4_a r_4_l r_4_c]), (.int .i64 (3 : Int))]) w3)))
    ((bsplit (decide ((b_l : Int) < (2 : Int)))
      ((sxStore w2 ⟨b, 0, none⟩ 0 [(.int .i64 (0 : Int)), (.int .i64 (0 : Int)), (.int .i64 (0 : Int)), (.int .i64 (0 : Int)), (.slice none 0 0)] fun w4 =>
      (∃ r_01 r_11 r_21 r_31 : Int, ∃ r_4_a1 : Option Addr, ∃ r_4_l1 r_4_c1 : Nat, cellsAt w4 ⟨b, 0, none⟩ 0 [(.int .i64 r_01), (.int .i64 r_11), (.int .i64 r_21), (.int .i64 r_31), (.slice r_4_a1 r_4_l1 r_4_c1)] ∧
      R (.tuple #[(.agg #[.int .i64 r_01, .int .i64 r_11, .int .i64 r_21, .int .i64 r_31, .slice r_4_a1 r_4_l1 r_4_c1]), (.int .i64 (5 : Int))]) w4)))
      ((Calls Try.prog N_ref01_Get #[(.slice b_a b_l b_c), (.int .i64 (0 : Int)), (.int .i64 (2 : Int))] w2 fun e_1 w5 =>
      ∃ r1 : Int, e_1 = .returned (.int .i64 r1) ∧
      (kLet (Int.fdiv r1 (2 ^ 14)) fun x =>
      (kLet (bAnd .i64 x (1 : Int)) fun x1 =>
      (kLet (Int.fdiv r1 (2 ^ 12)) fun x2 =>
      (kLet (bAnd .i64 x2 (3 : Int)) fun x3 =>
      (kLet (bAnd .i64 r1 (4095 : Int)) fun x4 =>
      (kAlloc w5 #[.int .i64 (0 : Int), .int .i64 (0 : Int), .int .i64 (0 : Int), .int .i64 (0 : Int), .slice none 0 0] Ty_api_Piece fun b1 w6 =>
      (sxStore w6 ⟨b1, 0, none⟩ 0 [(.int .i64 x4), (.int .i64 x3), (.int .i64 x1), (.int .i64 (0 : Int)), (.slice none 0 0)] fun w7 =>
      (kLd w7 ⟨b1, 1, none⟩ .i64 fun x5 =>
      (Calls Try.prog N_ref18_Head #[(.int .i64 x5)] w7 fun e_2 w8 =>
      ∃ r2 : Int, e_2 = .returned (.int .i64 r2) ∧
      (bsplit (decide ((b_l : Int) ≤ r2))
        ((sxStore w8 ⟨b, 0, none⟩ 0 [(.int .i64 (0 : Int)), (.int .i64 (0 : Int)), (.int .i64 (0 : Int)), (.int .i64 (0 : Int)), (.slice none 0 0)] fun w9 =>
        (∃ r_02 r_12 r_22 r_32 : Int, ∃ r_4_a2 : Option Addr, ∃ r_4_l2 r_4_c2 : Nat, cellsAt w9 ⟨b, 0, none⟩ 0 [(.int .i64 r_02), (.int .i64 r_12), (.int .i64 r_22), (.int .i64 r_32), (.slice r_4_a2 r_4_l2 r_4_c2)] ∧
        R (.tuple #[(.agg #[.int .i64 r_02, .int .i64 r_12, .int .i64 r_22, .int .i64 r_32, .slice r_4_a2 r_4_l2 r_4_c2]), (.int .i64 (5 : Int))]) w9)))
        ((∃ J : World → Prop,
        (∀ (_junk : Env)  (w12 : World), J w12 →
          ((0 ≤ r2 ∧ r2 ≤ ((b_l : Nat) : Int)) ∧ (AppP Try.prog #[Ty_S_uint8, Ty_S_uint8] Ty_S_uint8 #[(.slice none 0 0), (.slice (slAddr b_c (r2.toNat) 1 b_a) (b_l - r2.toNat) (b_c - r2.toNat))] w12 fun x_a x_l x_c w13 =>
          (kSet w13 ⟨b1, 4, none⟩ (.slice x_a x_l x_c) fun w14 =>
          (bsplit (decide (r1 < (32768 : Int)))
            ((sxStore w14 ⟨b, 0, none⟩ 0 [(.int .i64 (0 : Int)), (.int .i64 (0 : Int)), (.int .i64 (0 : Int)), (.int .i64 (0 : Int)), (.slice none 0 0)] fun w15 =>
              (∃ r_03 r_13 r_23 r_33 : Int, ∃ r_4_a3 : Option Addr, ∃ r_4_l3 r_4_c3 : Nat, cellsAt w15 ⟨b, 0, none⟩ 0 [(.int .i64 r_03), (.int .i64 r_13), (.int .i64 r_23), (.int .i64 r_33), (.slice r_4_a3 r_4_l3 r_4_c3)] ∧
              R (.tuple #[(.agg #[.int .i64 r_03, .int .i64 r_13, .int .i64 r_23, .int .i64 r_33, .slice r_4_a3 r_4_l3 r_4_c3]), (.int .i64 (4 : Int))]) w15)))
            ((∃ x_01 x_11 x_21 x_31 : Int, ∃ x_4_a1 : Option Addr, ∃ x_4_l1 x_4_c1 : Nat, cellsAt w14 ⟨b1, 0, none⟩ 0 [(.int .i64 x_01), (.int .i64 x_11), (.int .i64 x_21), (.int .i64 x_31), (.slice x_4_a1 x_4_l1 x_4_c1)] ∧
            (Calls Try.prog N_ref18_Valid #[(.int .i64 bits), (.agg #[.int .i64 x_01, .int .i64 x_11, .int .i64 x_21, .int .i64 x_31, .slice x_4_a1 x_4_l1 x_4_c1])] w14 fun e_4 w17 =>
            ∃ r4 : Bool, e_4 = .returned (.bool r4) ∧
            (bsplit (!r4)
              ((sxStore w17 ⟨b, 0, none⟩ 0 [(.int .i64 (0 : Int)), (.int .i64 (0 : Int)), (.int .i64 (0 : Int)), (.int .i64 (0 : Int)), (.slice none 0 0)] fun w18 =>
              (∃ r_05 r_15 r_25 r_35 : Int, ∃ r_4_a5 : Option Addr, ∃ r_4_l5 r_4_c5 : Nat, cellsAt w18 ⟨b, 0, none⟩ 0 [(.int .i64 r_05), (.int .i64 r_15), (.int .i64 r_25), (.int .i64 r_35), (.slice r_4_a5 r_4_l5 r_4_c5)] ∧
              R (.tuple #[(.agg #[.int .i64 r_05, .int .i64 r_15, .int .i64 r_25, .int .i64 r_35, .slice r_4_a5 r_4_l5 r_4_c5]), (.int .i64 (4 : Int))]) w18)))
              ((∃ x_02 x_12 x_22 x_32 : Int, ∃ x_4_a2 : Option Addr, ∃ x_4_l2 x_4_c2 : Nat, cellsAt w17 ⟨b1, 0, none⟩ 0 [(.int .i64 x_02), (.int .i64 x_12), (.int .i64 x_22), (.int .i64 x_32), (.slice x_4_a2 x_4_l2 x_4_c2)] ∧
              (sxStore w17 ⟨b, 0, none⟩ 0 [(.int .i64 x_02), (.int .i64 x_12), (.int .i64 x_22), (.int .i64 x_32), (.slice x_4_a2 x_4_l2 x_4_c2)] fun w19 =>
              (∃ r_06 r_16 r_26 r_36 : Int, ∃ r_4_a6 : Option Addr, ∃ r_4_l6 r_4_c6 : Nat, cellsAt w19 ⟨b, 0, none⟩ 0 [(.int .i64 r_06), (.int .i64 r_16), (.int .i64 r_26), (.int .i64 r_36), (.slice r_4_a6 r_4_l6 r_4_c6)] ∧
              R (.tuple #[(.agg #[.int .i64 r_06, .int .i64 r_16, .int .i64 r_26, .int .i64 r_36, .slice r_4_a6 r_4_l6 r_4_c6]), (.int .i64 (0 : Int))]) w19))))))))))))) ∧
        (bsplit (decide (r2 = (4 : Int)))
          ((Calls Try.prog N_ref01_Get #[(.slice b_a b_l b_c), (.int .i64 (2 : Int)), (.int .i64 (2 : Int))] w8 fun e_3 w10 =>
          ∃ r3 : Int, e_3 = .returned (.int .i64 r3) ∧
          (kSet w10 ⟨b1, 3, none⟩ (.int .i64 r3) fun w11 =>
          J w11)))
          (J w8)))))))))))))))))))))
theorem F_ref18_Decode_eq (bits : Int) (b_a : Option Addr) (b_l : Nat) (b_c : Nat) (w : World) (R : Value → World → Prop) : sxFn Try.prog TT h_ref18_Decode Try.f19 #[(.int .i64 bits), (.slice b_a b_l b_c)] w R = F_ref18_Decode bits b_a b_l b_c w R := by kernel_rfl
theorem F_ref18_Decode_ok {R : Ending → World → Prop} (bits : Int) (b_a : Option Addr) (b_l : Nat) (b_c : Nat) (w : World) (h : F_ref18_Decode bits b_a b_l b_c w fun v w' => R (.returned v) w') : Calls Try.prog N_ref18_Decode #[(.int .i64 bits), (.slice b_a b_l b_c)] w R :=
  calls_of (f := 19) follows_ok Try.func19 (Eq.mpr (F_ref18_Decode_eq bits b_a b_l b_c w _) h)

def h_law20_random : H := (.seq .reg (.seq .reg (.seq .reg (.seq .reg (.seq (.seq .reg (.block (.loop [(5, .p (.int .i64))] [5, 6, 7, 27, 28, 29, 30, 31, 32, 33, 34, 35, 36, 37, 38, 39, 40, 41, 42, 43, 44, 45, 46, 47, 48, 49, 50, 51, 52, 53, 54, 55, 56, 57, 58, 59, 60, 61, 62, 63, 64, 65, 66, 67, 68, 69, 70, 71, 72, 73] (.seq (.seq .reg (.cond .leaf .leaf)) (.seq (.block (.seq .reg (.cut [(7, .p (.int .i64))] [7, 32, 33, 34, 35, 36, 37, 38, 39, 40, 41, 42, 43, 44, 45, 46, 47, 48, 49, 50, 51, 52, 53, 54, 55, 56, 57, 58, 59, 60, 61, 62, 63, 64, 65, 66, 67, 68, 69, 70] (.seq .reg (.block (.cut [(39, .p .bool)] [39, 40, 41] (.seq .reg (.cond .leaf .reg)) (.cond (.draw .blk (.one 0 .stable (.one 1 .pur (.one 2 .keep (.one 3 .last (.one 4 .pur (.one 5 .pur (.one 6 .pur (.one 7 .last (.one 8 .pur .nil)))))))))) (.cut [(49, .p .bool)] [49, 50, 51] (.seq .reg (.cond .leaf .reg)) (.cond (.draw .blk (.one 0 .stable (.one 1 .pur (.one 2 .keep (.one 3 .pur (.one 4 .last (.one 5 .pur (.one 6 .pur (.one 7 .pur (.one 8 .pur (.one 9 .last (.one 10 .pur .nil)))))))))))) (.seq .reg (.cond (.draw .blk (.one 0 .stable (.one 1 .pur (.one 2 .pre (.one 3 .keep (.one 4 .last (.one 5 .pur (.one 6 .pur (.one 7 .pur (.one 8 .last (.one 9 .pur .nil))))))))))) .reg)))))))) (.seq .reg (.cond .reg .leaf))))) .reg))))) (.seq .reg .leaf))))))
def F_law20_random (d_b : Nat) (d_o : Nat) (w : World) (R : Value → World → Prop) : Prop :=
  (kAlloc w #[.int .i64 (0 : Int), .int .i64 (0 : Int), .int .i64 (0 : Int), .int .i64 (0 : Int), .int .i64 (0 : Int), .int .i64 (0 : Int), .int .i64 (0 : Int), .int .i64 (0 : Int), .slice none 0 0, .int .i64 (0 : Int), .int .i64 (0 : Int), .int .i64 (0 : Int), .bool false] Ty_api_Sender fun b w1 =>
  (Calls Try.prog N_made_Dice_Link #[(.pointer (some ⟨d_b, d_o, none⟩))] w1 fun e_ w2 =>
  ∃ r_0 r_1 r_2 r_3 r_4 r_5 : Int, e_ = .returned (.agg #[.int .i64 r_0, .int .i64 r_1, .int .i64 r_2, .int .i64 r_3, .int .i64 r_4, .int .i64 r_5]) ∧
  (Calls Try.prog N_ref20_New #[(.agg #[.int .i64 r_0, .int .i64 r_1, .int .i64 r_2, .int .i64 r_3, .int .i64 r_4, .int .i64 r_5])] w2 fun e_1 w3 =>
  ∃ r_01 r_11 r_21 r_31 r_41 r_51 r_6 r_7 : Int, ∃ r_8_a : Option Addr, ∃ r_8_l r_8_c : Nat, ∃ r_9 r_10 r_111 : Int, ∃ r_12 : Bool, ∃ r : Int, e_1 = .returned (.tuple #[(.agg #[.int .i64 r_01, .int .i64 r_11, .int .i64 r_21, .int .i64 r_31, .int .i64 r_41, .int .i64 r_51, .int .i64 r_6, .int .i64 r_7, .slice r_8_a r_8_l r_8_c, .int .i64 r_9, .int .i64 r_10, .int .i64 r_111, .bool r_12]), (.int .i64 r)]) ∧
  (kAlloc w3 #[.int .i64 (0 : Int), .int .i64 (0 : Int), .int .i64 (0 : Int), .int .i64 (0 : Int), .int .i64 (0 : Int), .int .i64 (0 : Int), .int .i64 (0 : Int), .int .i64 (0 : Int), .slice none 0 0, .int .i64 (0 : Int), .int .i64 (0 : Int), .int .i64 (0 : Int), .bool false] Ty_api_Sender fun b1 w4 =>
  (sxStore w4 ⟨b1, 0, none⟩ 0 [(.int .i64 r_01), (.int .i64 r_11), (.int .i64 r_21), (.int .i64 r_31), (.int .i64 r_41), (.int .i64 r_51), (.int .i64 r_6), (.int .i64 r_7), (.slice r_8_a r_8_l r_8_c), (.int .i64 r_9), (.int .i64 r_10), (.int .i64 r_111), (.bool r_12)] fun w5 =>
  (kLd w5 ⟨b1, 0, none⟩ .i64 fun x =>
  (kW .u64 (x) fun x1 =>
  (0 ≤ x1 ∧ (kW .i64 ((1 : Int) * 2 ^ (min x1.toNat (IntKind.bits .i64))) fun x2 =>
  (Calls Try.prog N_made_Dice_Next #[(.pointer (some ⟨d_b, d_o, none⟩)), (.int .i64 x2)] w5 fun e_2 w6 =>
  ∃ r1 : Int, e_2 = .returned (.int .i64 r1) ∧
  (kSet w6 ⟨b1, 6, none⟩ (.int .i64 r1) fun w7 =>
  (kLd w7 ⟨b1, 6, none⟩ .i64 fun x3 =>
  (kSet w7 ⟨b1, 7, none⟩ (.int .i64 x3) fun w8 =>
  (Calls Try.prog N_made_Dice_Next #[(.pointer (some ⟨d_b, d_o, none⟩)), (.int .i64 (40 : Int))] w8 fun e_3 w9 =>
  ∃ r2 : Int, e_3 = .returned (.int .i64 r2) ∧
  (∃ I : Int → Nat × (World → Prop), (I r2).2 w9 ∧
  (∀ (_junk : Env) (n : Int) (w10 : World), (I n).2 w10 →
    (bsplit (decide (n > (0 : Int)))
      ((∃ x_0 x_1 x_2 x_3 x_4 x_5 x_6 x_7 : Int, ∃ x_8_a : Option Addr, ∃ x_8_l x_8_c : Nat, ∃ x_9 x_10 x_11 : Int, ∃ x_12 : Bool, cellsAt w10 ⟨b1, 0, none⟩ 0 [(.int .i64 x_0), (.int .i64 x_1), (.int .i64 x_2), (.int .i64 x_3), (.int .i64 x_4), (.int .i64 x_5), (.int .i64 x_6), (.int .i64 x_7), (.slice x_8_a x_8_l x_8_c), (.int .i64 x_9), (.int .i64 x_10), (.int .i64 x_11), (.bool x_12)] ∧
      (kAlloc w10 #[.int .i64 (0 : Int), .int .i64 (0 : Int), .int .i64 (0 : Int), .int .i64 (0 : Int), .int .i64 (0 : Int), .int .i64 (0 : Int), .int .i64 (0 : Int), .int .i64 (0 : Int), .slice none 0 0, .int .i64 (0 : Int), .int .i64 (0 : Int), .int .i64 (0 : Int), .bool false] Ty_api_Sender fun b2 w11 =>
      (sxStore w11 ⟨b2, 0, none⟩ 0 [(.int .i64 x_0), (.int .i64 x_1), (.int .i64 x_2), (.int .i64 x_3), (.int .i64 x_4), (.int .i64 x_5), (.int .i64 x_6), (.int .i64 x_7), (.slice x_8_a x_8_l x_8_c), (.int .i64 x_9), (.int .i64 x_10), (.int .i64 x_11), (.bool x_12)] fun w12 =>
      (∃ J : Int → World → Prop,
      (∀ (_junk : Env) (e1 : Int) (w30 : World), J e1 w30 →
        (bsplit (decide (e1 = (0 : Int)))
          ((∃ x_06 x_18 x_26 x_36 x_46 x_56 x_66 x_76 : Int, ∃ x_8_a6 : Option Addr, ∃ x_8_l6 x_8_c6 : Nat, ∃ x_96 x_106 x_116 : Int, ∃ x_126 : Bool, cellsAt w30 ⟨b2, 0, none⟩ 0 [(.int .i64 x_06), (.int .i64 x_18), (.int .i64 x_26), (.int .i64 x_36), (.int .i64 x_46), (.int .i64 x_56), (.int .i64 x_66), (.int .i64 x_76), (.slice x_8_a6 x_8_l6 x_8_c6), (.int .i64 x_96), (.int .i64 x_106), (.int .i64 x_116), (.bool x_126)] ∧
          (sxStore w30 ⟨b1, 0, none⟩ 0 [(.int .i64 x_06), (.int .i64 x_18), (.int .i64 x_26), (.int .i64 x_36), (.int .i64 x_46), (.int .i64 x_56), (.int .i64 x_66), (.int .i64 x_76), (.slice x_8_a6 x_8_l6 x_8_c6), (.int .i64 x_96), (.int .i64 x_106), (.int .i64 x_116), (.bool x_126)] fun w31 =>
          (kW .i64 (n - (1 : Int)) fun x12 =>
          ((I x12).2 w31 ∧ (I x12).1 < (I n).1)))))
          ((kW .i64 (n - (1 : Int)) fun x13 =>
          ((I x13).2 w30 ∧ (I x13).1 < (I n).1))))) ∧
      (Calls Try.prog N_made_Dice_Next #[(.pointer (some ⟨d_b, d_o, none⟩)), (.int .i64 (6 : Int))] w12 fun e_4 w13 =>
      ∃ r3 : Int, e_4 = .returned (.int .i64 r3) ∧
      (∃ J1 : Bool → World → Prop,
      (∀ (_junk : Env) (x6 : Bool) (w14 : World), J1 x6 w14 →
        (bsplit x6
          ((kDrew w14 fun w15 =>
          (∃ S : Nat → Prop,
          (S b1 ∧
          (∃ x_01 x_13 x_21 x_31 x_41 x_51 x_61 x_71 : Int, ∃ x_8_a1 : Option Addr, ∃ x_8_l1 x_8_c1 : Nat, ∃ x_91 x_101 x_111 : Int, ∃ x_121 : Bool, cellsAt w15 ⟨b1, 0, none⟩ 0 [(.int .i64 x_01), (.int .i64 x_13), (.int .i64 x_21), (.int .i64 x_31), (.int .i64 x_41), (.int .i64 x_51), (.int .i64 x_61), (.int .i64 x_71), (.slice x_8_a1 x_8_l1 x_8_c1), (.int .i64 x_91), (.int .i64 x_101), (.int .i64 x_111), (.bool x_121)] ∧
          (Calls Try.prog N_made_Dice_Some #[(.pointer (some ⟨d_b, d_o, none⟩)), (.int .i64 (14 : Int))] w15 fun e_5 w16 =>
          ∃ r_a : Option Addr, ∃ r_l r_c : Nat, e_5 = .returned (.slice r_a r_l r_c) ∧
          (KeepsB S w15 w16 ∧ (Calls Try.prog N_ref20_Submit #[(.agg #[.int .i64 x_01, .int .i64 x_13, .int .i64 x_21, .int .i64 x_31, .int .i64 x_41, .int .i64 x_51, .int .i64 x_61, .int .i64 x_71, .slice x_8_a1 x_8_l1 x_8_c1, .int .i64 x_91, .int .i64 x_101, .int .i64 x_111, .bool x_121]), (.slice r_a r_l r_c)] w16 fun e_6 w17 =>
          ∃ r_02 r_13 r_22 r_32 r_42 r_52 r_61 r_71 : Int, ∃ r_8_a1 : Option Addr, ∃ r_8_l1 r_8_c1 : Nat, ∃ r_91 r_101 r_112 : Int, ∃ r_121 : Bool, ∃ r4 : Int, e_6 = .returned (.tuple #[(.agg #[.int .i64 r_02, .int .i64 r_13, .int .i64 r_22, .int .i64 r_32, .int .i64 r_42, .int .i64 r_52, .int .i64 r_61, .int .i64 r_71, .slice r_8_a1 r_8_l1 r_8_c1, .int .i64 r_91, .int .i64 r_101, .int .i64 r_112, .bool r_121]), (.int .i64 r4)]) ∧
          (sxStore w17 ⟨b2, 0, none⟩ 0 [(.int .i64 r_02), (.int .i64 r_13), (.int .i64 r_22), (.int .i64 r_32), (.int .i64 r_42), (.int .i64 r_52), (.int .i64 r_61), (.int .i64 r_71), (.slice r_8_a1 r_8_l1 r_8_c1), (.int .i64 r_91), (.int .i64 r_101), (.int .i64 r_112), (.bool r_121)] fun w18 =>
          J r4 w18)))))))))
          ((∃ J2 : Bool → World → Prop,
          (∀ (_junk : Env) (x9 : Bool) (w19 : World), J2 x9 w19 →
            (bsplit x9
              ((kDrew w19 fun w20 =>
              (∃ S1 : Nat → Prop,
              (S1 b1 ∧
              (∃ x_02 x_14 x_22 x_32 x_42 x_52 x_62 x_72 : Int, ∃ x_8_a2 : Option Addr, ∃ x_8_l2 x_8_c2 : Nat, ∃ x_92 x_102 x_112 : Int, ∃ x_122 : Bool, cellsAt w20 ⟨b1, 0, none⟩ 0 [(.int .i64 x_02), (.int .i64 x_14), (.int .i64 x_22), (.int .i64 x_32), (.int .i64 x_42), (.int .i64 x_52), (.int .i64 x_62), (.int .i64 x_72), (.slice x_8_a2 x_8_l2 x_8_c2), (.int .i64 x_92), (.int .i64 x_102), (.int .i64 x_112), (.bool x_122)] ∧
              (Calls Try.prog N_made_Dice_Next #[(.pointer (some ⟨d_b, d_o, none⟩)), (.int .i64 (12 : Int))] w20 fun e_7 w21 =>
              ∃ r5 : Int, e_7 = .returned (.int .i64 r5) ∧
              (KeepsB S1 w20 w21 ∧ (kW .i64 ((3 : Int) + r5) fun x10 =>
              (Calls Try.prog N_ref20_Build #[(.agg #[.int .i64 x_02, .int .i64 x_14, .int .i64 x_22, .int .i64 x_32, .int .i64 x_42, .int .i64 x_52, .int .i64 x_62, .int .i64 x_72, .slice x_8_a2 x_8_l2 x_8_c2, .int .i64 x_92, .int .i64 x_102, .int .i64 x_112, .bool x_122]), (.int .i64 x10)] w21 fun e_8 w22 =>
              ∃ r_03 r_14 r_23 r_33 r_43 r_53 r_62 r_72 : Int, ∃ r_8_a2 : Option Addr, ∃ r_8_l2 r_8_c2 : Nat, ∃ r_92 r_102 r_113 : Int, ∃ r_122 : Bool, ∃ r_a1 : Option Addr, ∃ r_l1 r_c1 : Nat, ∃ r6 : Int, e_8 = .returned (.tuple #[(.agg #[.int .i64 r_03, .int .i64 r_14, .int .i64 r_23, .int .i64 r_33, .int .i64 r_43, .int .i64 r_53, .int .i64 r_62, .int .i64 r_72, .slice r_8_a2 r_8_l2 r_8_c2, .int .i64 r_92, .int .i64 r_102, .int .i64 r_113, .bool r_122]), (.slice r_a1 r_l1 r_c1), (.int .i64 r6)]) ∧
              (sxStore w22 ⟨b2, 0, none⟩ 0 [(.int .i64 r_03), (.int .i64 r_14), (.int .i64 r_23), (.int .i64 r_33), (.int .i64 r_43), (.int .i64 r_53), (.int .i64 r_62), (.int .i64 r_72), (.slice r_8_a2 r_8_l2 r_8_c2), (.int .i64 r_92), (.int .i64 r_102), (.int .i64 r_113), (.bool r_122)] fun w23 =>
              J r6 w23))))))))))
              ((kLet (decide (r3 = (4 : Int))) fun x11 =>
              (bsplit x11
                ((kDrew w19 fun w24 =>
                (∃ S2 : Nat → Prop,
                (S2 b1 ∧
                (∃ x_03 x_15 x_23 x_33 x_43 x_53 x_63 x_73 : Int, ∃ x_8_a3 : Option Addr, ∃ x_8_l3 x_8_c3 : Nat, ∃ x_93 x_103 x_113 : Int, ∃ x_123 : Bool, cellsAt w24 ⟨b1, 0, none⟩ 0 [(.int .i64 x_03), (.int .i64 x_15), (.int .i64 x_23), (.int .i64 x_33), (.int .i64 x_43), (.int .i64 x_53), (.int .i64 x_63), (.int .i64 x_73), (.slice x_8_a3 x_8_l3 x_8_c3), (.int .i64 x_93), (.int .i64 x_103), (.int .i64 x_113), (.bool x_123)] ∧
                (∃ x_04 x_16 x_24 x_34 x_44 x_54 x_64 x_74 : Int, ∃ x_8_a4 : Option Addr, ∃ x_8_l4 x_8_c4 : Nat, ∃ x_94 x_104 x_114 : Int, ∃ x_124 : Bool, cellsAt w24 ⟨b1, 0, none⟩ 0 [(.int .i64 x_04), (.int .i64 x_16), (.int .i64 x_24), (.int .i64 x_34), (.int .i64 x_44), (.int .i64 x_54), (.int .i64 x_64), (.int .i64 x_74), (.slice x_8_a4 x_8_l4 x_8_c4), (.int .i64 x_94), (.int .i64 x_104), (.int .i64 x_114), (.bool x_124)] ∧
                (Calls Try.prog N_law20_report #[(.pointer (some ⟨d_b, d_o, none⟩)), (.agg #[.int .i64 x_04, .int .i64 x_16, .int .i64 x_24, .int .i64 x_34, .int .i64 x_44, .int .i64 x_54, .int .i64 x_64, .int .i64 x_74, .slice x_8_a4 x_8_l4 x_8_c4, .int .i64 x_94, .int .i64 x_104, .int .i64 x_114, .bool x_124])] w24 fun e_9 w25 =>
                ∃ r_04 : Int, ∃ r_1_a : Option Addr, ∃ r_1_l r_1_c : Nat, e_9 = .returned (.agg #[.int .i64 r_04, .slice r_1_a r_1_l r_1_c]) ∧
                (KeepsB S2 w24 w25 ∧ (Calls Try.prog N_ref20_Report #[(.agg #[.int .i64 x_03, .int .i64 x_15, .int .i64 x_23, .int .i64 x_33, .int .i64 x_43, .int .i64 x_53, .int .i64 x_63, .int .i64 x_73, .slice x_8_a3 x_8_l3 x_8_c3, .int .i64 x_93, .int .i64 x_103, .int .i64 x_113, .bool x_123]), (.agg #[.int .i64 r_04, .slice r_1_a r_1_l r_1_c])] w25 fun e_10 w26 =>
                ∃ r_05 r_15 r_24 r_34 r_44 r_54 r_63 r_73 : Int, ∃ r_8_a3 : Option Addr, ∃ r_8_l3 r_8_c3 : Nat, ∃ r_93 r_103 r_114 : Int, ∃ r_123 : Bool, ∃ r7 : Int, e_10 = .returned (.tuple #[(.agg #[.int .i64 r_05, .int .i64 r_15, .int .i64 r_24, .int .i64 r_34, .int .i64 r_44, .int .i64 r_54, .int .i64 r_63, .int .i64 r_73, .slice r_8_a3 r_8_l3 r_8_c3, .int .i64 r_93, .int .i64 r_103, .int .i64 r_114, .bool r_123]), (.int .i64 r7)]) ∧
                (sxStore w26 ⟨b2, 0, none⟩ 0 [(.int .i64 r_05), (.int .i64 r_15), (.int .i64 r_24), (.int .i64 r_34), (.int .i64 r_44), (.int .i64 r_54), (.int .i64 r_63), (.int .i64 r_73), (.slice r_8_a3 r_8_l3 r_8_c3), (.int .i64 r_93), (.int .i64 r_103), (.int .i64 r_114), (.bool r_123)] fun w27 =>
                J r7 w27))))))))))
                ((∃ x_05 x_17 x_25 x_35 x_45 x_55 x_65 x_75 : Int, ∃ x_8_a5 : Option Addr, ∃ x_8_l5 x_8_c5 : Nat, ∃ x_95 x_105 x_115 : Int, ∃ x_125 : Bool, cellsAt w19 ⟨b1, 0, none⟩ 0 [(.int .i64 x_05), (.int .i64 x_17), (.int .i64 x_25), (.int .i64 x_35), (.int .i64 x_45), (.int .i64 x_55), (.int .i64 x_65), (.int .i64 x_75), (.slice x_8_a5 x_8_l5 x_8_c5), (.int .i64 x_95), (.int .i64 x_105), (.int .i64 x_115), (.bool x_125)] ∧
                (Calls Try.prog N_ref20_Tick #[(.agg #[.int .i64 x_05, .int .i64 x_17, .int .i64 x_25, .int .i64 x_35, .int .i64 x_45, .int .i64 x_55, .int .i64 x_65, .int .i64 x_75, .slice x_8_a5 x_8_l5 x_8_c5, .int .i64 x_95, .int .i64 x_105, .int .i64 x_115, .bool x_125])] w19 fun e_11 w28 =>
                ∃ r_06 r_16 r_25 r_35 r_45 r_55 r_64 r_74 : Int, ∃ r_8_a4 : Option Addr, ∃ r_8_l4 r_8_c4 : Nat, ∃ r_94 r_104 r_115 : Int, ∃ r_124 : Bool, ∃ r8 : Int, e_11 = .returned (.tuple #[(.agg #[.int .i64 r_06, .int .i64 r_16, .int .i64 r_25, .int .i64 r_35, .int .i64 r_45, .int .i64 r_55, .int .i64 r_64, .int .i64 r_74, .slice r_8_a4 r_8_l4 r_8_c4, .int .i64 r_94, .int .i64 r_104, .int .i64 r_115, .bool r_124]), (.int .i64 r8)]) ∧
                (sxStore w28 ⟨b2, 0, none⟩ 0 [(.int .i64 r_06), (.int .i64 r_16), (.int .i64 r_25), (.int .i64 r_35), (.int .i64 r_45), (.int .i64 r_55), (.int .i64 r_64), (.int .i64 r_74), (.slice r_8_a4 r_8_l4 r_8_c4), (.int .i64 r_94), (.int .i64 r_104), (.int .i64 r_115), (.bool r_124)] fun w29 =>
                J r8 w29))))))))) ∧
          (kLet (decide (r3 = (2 : Int))) fun x7 =>
          (bsplit x7
            (J2 x7 w14)
            ((kLet (decide (r3 = (3 : Int))) fun x8 =>
            J2 x8 w14)))))))) ∧
      (kLet (decide (r3 = (0 : Int))) fun x4 =>
      (bsplit x4
        (J1 x4 w13)
        ((kLet (decide (r3 = (1 : Int))) fun x5 =>
        J1 x5 w13)))))))))))
      ((∃ x_07 x_19 x_27 x_37 x_47 x_57 x_67 x_77 : Int, ∃ x_8_a7 : Option Addr, ∃ x_8_l7 x_8_c7 : Nat, ∃ x_97 x_107 x_117 : Int, ∃ x_127 : Bool, cellsAt w10 ⟨b1, 0, none⟩ 0 [(.int .i64 x_07), (.int .i64 x_19), (.int .i64 x_27), (.int .i64 x_37), (.int .i64 x_47), (.int .i64 x_57), (.int .i64 x_67), (.int .i64 x_77), (.slice x_8_a7 x_8_l7 x_8_c7), (.int .i64 x_97), (.int .i64 x_107), (.int .i64 x_117), (.bool x_127)] ∧
      (sxStore w10 ⟨b, 0, none⟩ 0 [(.int .i64 x_07), (.int .i64 x_19), (.int .i64 x_27), (.int .i64 x_37), (.int .i64 x_47), (.int .i64 x_57), (.int .i64 x_67), (.int .i64 x_77), (.slice x_8_a7 x_8_l7 x_8_c7), (.int .i64 x_97), (.int .i64 x_107), (.int .i64 x_117), (.bool x_127)] fun w32 =>
      (∃ r_07 r_17 r_26 r_36 r_46 r_56 r_65 r_75 : Int, ∃ r_8_a5 : Option Addr, ∃ r_8_l5 r_8_c5 : Nat, ∃ r_95 r_105 r_116 : Int, ∃ r_125 : Bool, cellsAt w32 ⟨b, 0, none⟩ 0 [(.int .i64 r_07), (.int .i64 r_17), (.int .i64 r_26), (.int .i64 r_36), (.int .i64 r_46), (.int .i64 r_56), (.int .i64 r_65), (.int .i64 r_75), (.slice r_8_a5 r_8_l5 r_8_c5), (.int .i64 r_95), (.int .i64 r_105), (.int .i64 r_116), (.bool r_125)] ∧
      R (.agg #[.int .i64 r_07, .int .i64 r_17, .int .i64 r_26, .int .i64 r_36, .int .i64 r_46, .int .i64 r_56, .int .i64 r_65, .int .i64 r_75, .slice r_8_a5 r_8_l5 r_8_c5, .int .i64 r_95, .int .i64 r_105, .int .i64 r_116, .bool r_125]) w32)))))))))))))))))))))
theorem F_law20_random_eq (d_b : Nat) (d_o : Nat) (w : World) (R : Value → World → Prop) : sxFn Try.prog TT h_law20_random Try.f20 #[(.pointer (some ⟨d_b, d_o, none⟩))] w R = F_law20_random d_b d_o w R := by kernel_rfl
theorem F_law20_random_ok {R : Ending → World → Prop} (d_b : Nat) (d_o : Nat) (w : World) (h : F_law20_random d_b d_o w fun v w' => R (.returned v) w') : Calls Try.prog N_law20_random #[(.pointer (some ⟨d_b, d_o, none⟩))] w R :=
  calls_of (f := 20) follows_ok Try.func20 (Eq.mpr (F_law20_random_eq d_b d_o w _) h)

def h_law20_report : H := (.seq .reg (.seq .reg (.seq .reg (.seq .reg (.seq (.seq .reg (.block (.loop [(8, .p (.int .i64))] [8, 9, 29, 30, 31, 32, 33, 34, 35, 36, 37, 38, 39, 40, 41, 42, 43, 44, 45, 46, 47, 48, 49, 50, 51, 52, 53, 54, 55, 56, 57, 58, 59, 60, 61, 62, 63, 64, 65, 66, 67, 68, 69, 70, 71, 72, 73, 74] (.cut [] [29, 30, 31, 32, 33, 34, 35] (.seq .reg (.cond .leaf .leaf)) (.seq (.block (.seq .reg (.seq .reg (.block (.seq .reg (.cond .reg (.seq .reg (.cond (.draw .blk (.one 0 .pur (.one 1 .stable (.one 2 .pur (.one 3 .pur (.one 4 .keep (.one 5 .last (.one 6 .pur (.one 7 .last .nil))))))))) (.seq .reg (.cond (.draw .blk (.one 0 .pur (.one 1 .stable (.one 2 .pur (.one 3 .pur (.one 4 .keep (.one 5 .keep (.one 6 .keep (.one 7 .last (.one 8 .pur (.one 9 .last .nil))))))))))) .leaf)))))))))) .reg))))) (.seq .reg .leaf))))))
def F_law20_report (d_b : Nat) (d_o : Nat) (s_0 : Int) (s_1 : Int) (s_2 : Int) (s_3 : Int) (s_4 : Int) (s_5 : Int) (s_6 : Int) (s_7 : Int) (s_8_a : Option Addr) (s_8_l : Nat) (s_8_c : Nat) (s_9 : Int) (s_10 : Int) (s_11 : Int) (s_12 : Bool) (w : World) (R : Value → World → Prop) : Prop :=
  (kAlloc w #[(.int .i64 s_0), (.int .i64 s_1), (.int .i64 s_2), (.int .i64 s_3), (.int .i64 s_4), (.int .i64 s_5), (.int .i64 s_6), (.int .i64 s_7), (.slice s_8_a s_8_l s_8_c), (.int .i64 s_9), (.int .i64 s_10), (.int .i64 s_11), (.bool s_12)] Ty_api_Sender fun b w1 =>
  (kAlloc w1 #[.int .i64 (0 : Int), .slice none 0 0] Ty_api_Status fun b1 w2 =>
  (kLd w2 ⟨b, 0, none⟩ .i64 fun x =>
  (kLd w2 ⟨b, 6, none⟩ .i64 fun x1 =>
  (kLd w2 ⟨b, 7, none⟩ .i64 fun x2 =>
  (Calls Try.prog N_ref20_Place #[(.int .i64 x), (.int .i64 x1), (.int .i64 x2)] w2 fun e_ w3 =>
  ∃ r : Int, e_ = .returned (.int .i64 r) ∧
  (kW .i64 (r + (1 : Int)) fun x3 =>
  (Calls Try.prog N_made_Dice_Next #[(.pointer (some ⟨d_b, d_o, none⟩)), (.int .i64 x3)] w3 fun e_1 w4 =>
  ∃ r1 : Int, e_1 = .returned (.int .i64 r1) ∧
  (kLd w4 ⟨b, 6, none⟩ .i64 fun x4 =>
  (kW .i64 (x4 + r1) fun x5 =>
  (Calls Try.prog N_ref02_Low #[(.int .i64 x), (.int .i64 x5)] w4 fun e_2 w5 =>
  ∃ r2 : Int, e_2 = .returned (.int .i64 r2) ∧
  (kAlloc w5 #[.int .i64 (0 : Int), .slice none 0 0] Ty_api_Status fun b2 w6 =>
  (sxStore w6 ⟨b2, 0, none⟩ 0 [(.int .i64 r2), (.slice none 0 0)] fun w7 =>
  (∃ I : Int → Nat × (World → Prop), (I (0 : Int)).2 w7 ∧
  (∀ (_junk : Env) (i : Int) (w8 : World), (I i).2 w8 →
    (∃ J : World → Prop,
    (∀ (_junk : Env)  (w11 : World), J w11 →
      (kLd w11 ⟨b, 6, none⟩ .i64 fun x6 =>
      (kW .i64 (x6 + i) fun x7 =>
      (Calls Try.prog N_ref02_Low #[(.int .i64 x), (.int .i64 x7)] w11 fun e_3 w12 =>
      ∃ r3 : Int, e_3 = .returned (.int .i64 r3) ∧
      (Calls Try.prog N_made_Dice_Next #[(.pointer (some ⟨d_b, d_o, none⟩)), (.int .i64 (5 : Int))] w12 fun e_4 w13 =>
      ∃ r4 : Int, e_4 = .returned (.int .i64 r4) ∧
      (kLet (decide (r4 = (0 : Int))) fun x8 =>
      (bsplit x8
        ((kLdS w13 ⟨b2, 1, none⟩ fun x_a x_l x_c =>
        (kAlloc w13 #[(.int .i64 r3), (.int .i64 (0 : Int)), (.int .i64 (0 : Int))] Ty_api_Range fun b3 w14 =>
        (AppP Try.prog #[Ty_S_api_Range, Ty_S_api_Range] Ty_S_api_Range #[(.slice x_a x_l x_c), (.slice (some ⟨b3, 0, none⟩) 1 1)] w14 fun x_a1 x_l1 x_c1 w15 =>
        (kSet w15 ⟨b2, 1, none⟩ (.slice x_a1 x_l1 x_c1) fun w16 =>
        (kW .i64 (i + (1 : Int)) fun x9 =>
        ((I x9).2 w16 ∧ (I x9).1 < (I i).1)))))))
        ((kLet (decide (r4 = (1 : Int))) fun x10 =>
        (bsplit x10
          ((kDrew w13 fun w17 =>
          (∃ S : Nat → Prop,
          (S b2 ∧
          (kLdS w17 ⟨b2, 1, none⟩ fun x_a2 x_l2 x_c2 =>
          (Calls Try.prog N_made_Dice_Ranges #[(.pointer (some ⟨d_b, d_o, none⟩)), (.int .i64 r3), (.int .i64 (2 : Int))] w17 fun e_5 w18 =>
          ∃ r_a : Option Addr, ∃ r_l r_c : Nat, e_5 = .returned (.slice r_a r_l r_c) ∧
          (KeepsB S w17 w18 ∧ (AppP Try.prog #[Ty_S_api_Range, Ty_S_api_Range] Ty_S_api_Range #[(.slice x_a2 x_l2 x_c2), (.slice r_a r_l r_c)] w18 fun x_a3 x_l3 x_c3 w19 =>
          (kSet w19 ⟨b2, 1, none⟩ (.slice x_a3 x_l3 x_c3) fun w20 =>
          (kW .i64 (i + (1 : Int)) fun x11 =>
          ((I x11).2 w20 ∧ (I x11).1 < (I i).1)))))))))))
          ((kLet (decide (r4 = (2 : Int))) fun x12 =>
          (bsplit x12
            ((kDrew w13 fun w21 =>
            (∃ S1 : Nat → Prop,
            (S1 b2 ∧
            (kLdS w21 ⟨b2, 1, none⟩ fun x_a4 x_l4 x_c4 =>
            (Calls Try.prog N_made_Dice_Next #[(.pointer (some ⟨d_b, d_o, none⟩)), (.int .i64 (4 : Int))] w21 fun e_6 w22 =>
            ∃ r5 : Int, e_6 = .returned (.int .i64 r5) ∧
            (KeepsB S1 w21 w22 ∧ (KeepsB S1 w21 w22 ∧ (kAlloc w22 #[(.int .i64 r3), (.int .i64 r5), (.int .i64 (65535 : Int))] Ty_api_Range fun b4 w23 =>
            (KeepsB S1 w21 w23 ∧ (AppP Try.prog #[Ty_S_api_Range, Ty_S_api_Range] Ty_S_api_Range #[(.slice x_a4 x_l4 x_c4), (.slice (some ⟨b4, 0, none⟩) 1 1)] w23 fun x_a5 x_l5 x_c5 w24 =>
            (kSet w24 ⟨b2, 1, none⟩ (.slice x_a5 x_l5 x_c5) fun w25 =>
            (kW .i64 (i + (1 : Int)) fun x13 =>
            ((I x13).2 w25 ∧ (I x13).1 < (I i).1))))))))))))))
            ((kW .i64 (i + (1 : Int)) fun x14 =>
            ((I x14).2 w13 ∧ (I x14).1 < (I i).1)))))))))))))))) ∧
    (bsplit (decide (i < r1))
      ((bsplit (decide (i < (20 : Int)))
        (J w8)
        ((∃ x_0 : Int, ∃ x_1_a : Option Addr, ∃ x_1_l x_1_c : Nat, cellsAt w8 ⟨b2, 0, none⟩ 0 [(.int .i64 x_0), (.slice x_1_a x_1_l x_1_c)] ∧
        (sxStore w8 ⟨b1, 0, none⟩ 0 [(.int .i64 x_0), (.slice x_1_a x_1_l x_1_c)] fun w9 =>
        (∃ r_0 : Int, ∃ r_1_a : Option Addr, ∃ r_1_l r_1_c : Nat, cellsAt w9 ⟨b1, 0, none⟩ 0 [(.int .i64 r_0), (.slice r_1_a r_1_l r_1_c)] ∧
        R (.agg #[.int .i64 r_0, .slice r_1_a r_1_l r_1_c]) w9))))))
      ((∃ x_01 : Int, ∃ x_1_a1 : Option Addr, ∃ x_1_l1 x_1_c1 : Nat, cellsAt w8 ⟨b2, 0, none⟩ 0 [(.int .i64 x_01), (.slice x_1_a1 x_1_l1 x_1_c1)] ∧
        (sxStore w8 ⟨b1, 0, none⟩ 0 [(.int .i64 x_01), (.slice x_1_a1 x_1_l1 x_1_c1)] fun w10 =>
        (∃ r_01 : Int, ∃ r_1_a1 : Option Addr, ∃ r_1_l1 r_1_c1 : Nat, cellsAt w10 ⟨b1, 0, none⟩ 0 [(.int .i64 r_01), (.slice r_1_a1 r_1_l1 r_1_c1)] ∧
        R (.agg #[.int .i64 r_01, .slice r_1_a1 r_1_l1 r_1_c1]) w10)))))))))))))))))))))
theorem F_law20_report_eq (d_b : Nat) (d_o : Nat) (s_0 : Int) (s_1 : Int) (s_2 : Int) (s_3 : Int) (s_4 : Int) (s_5 : Int) (s_6 : Int) (s_7 : Int) (s_8_a : Option Addr) (s_8_l : Nat) (s_8_c : Nat) (s_9 : Int) (s_10 : Int) (s_11 : Int) (s_12 : Bool) (w : World) (R : Value → World → Prop) : sxFn Try.prog TT h_law20_report Try.f21 #[(.pointer (some ⟨d_b, d_o, none⟩)), (.agg #[.int .i64 s_0, .int .i64 s_1, .int .i64 s_2, .int .i64 s_3, .int .i64 s_4, .int .i64 s_5, .int .i64 s_6, .int .i64 s_7, .slice s_8_a s_8_l s_8_c, .int .i64 s_9, .int .i64 s_10, .int .i64 s_11, .bool s_12])] w R = F_law20_report d_b d_o s_0 s_1 s_2 s_3 s_4 s_5 s_6 s_7 s_8_a s_8_l s_8_c s_9 s_10 s_11 s_12 w R := by kernel_rfl
theorem F_law20_report_ok {R : Ending → World → Prop} (d_b : Nat) (d_o : Nat) (s_0 : Int) (s_1 : Int) (s_2 : Int) (s_3 : Int) (s_4 : Int) (s_5 : Int) (s_6 : Int) (s_7 : Int) (s_8_a : Option Addr) (s_8_l : Nat) (s_8_c : Nat) (s_9 : Int) (s_10 : Int) (s_11 : Int) (s_12 : Bool) (w : World) (h : F_law20_report d_b d_o s_0 s_1 s_2 s_3 s_4 s_5 s_6 s_7 s_8_a s_8_l s_8_c s_9 s_10 s_11 s_12 w fun v w' => R (.returned v) w') : Calls Try.prog N_law20_report #[(.pointer (some ⟨d_b, d_o, none⟩)), (.agg #[.int .i64 s_0, .int .i64 s_1, .int .i64 s_2, .int .i64 s_3, .int .i64 s_4, .int .i64 s_5, .int .i64 s_6, .int .i64 s_7, .slice s_8_a s_8_l s_8_c, .int .i64 s_9, .int .i64 s_10, .int .i64 s_11, .bool s_12])] w R :=
  calls_of (f := 21) follows_ok Try.func21 (Eq.mpr (F_law20_report_eq d_b d_o s_0 s_1 s_2 s_3 s_4 s_5 s_6 s_7 s_8_a s_8_l s_8_c s_9 s_10 s_11 s_12 w _) h)

def h_sender_Report : H := (.seq .reg (.cut [] [5, 15, 16, 17, 18, 19, 20, 21, 22, 23, 24, 25, 26] (.seq .reg (.cond (.seq .reg .leaf) .leaf)) (.seq .reg (.seq (.seq .reg (.cond (.seq .reg .leaf) .leaf)) (.seq .reg (.seq (.seq .reg (.cond (.seq .reg .leaf) .leaf)) (.cut [] [50, 51, 52, 53, 54, 55, 56, 57, 58, 59, 60, 61, 62, 63, 64, 65, 66, 67, 68, 69, 70, 71, 72, 73, 74] (.seq .reg (.cond .reg .leaf)) (.seq .reg (.seq (.seq .reg (.block (.loop [(9, .p .slice), (81, .p (.int .i64))] [9, 11, 12, 13, 14, 81, 82, 83, 84, 85, 86, 87, 88, 89, 90, 91, 92, 93, 94, 95, 96, 97, 98, 99, 100, 101, 102, 103, 104, 105, 106, 107, 108, 109, 110, 111, 112, 113, 114, 115, 116, 117, 118, 119, 120, 121] (.seq .reg (.seq (.cond .leaf .leaf) (.seq (.block (.seq .reg (.seq .reg (.cut [] [14, 91, 92, 93, 94, 95, 96, 97, 98, 99, 100, 101, 102, 103, 104, 105, 106, 107, 108, 109, 110, 111, 112, 113, 114, 115, 116] (.block (.seq .reg (.cond .leaf (.seq .reg (.cond (.seq .reg (.seq .reg (.seq .reg (.cond .reg .leaf)))) (.seq .reg (.cond .leaf .leaf))))))) .reg)))) .reg)))))) (.seq .reg (.seq (.seq .reg (.cond .reg .leaf)) (.seq .reg .leaf))))))))))))
def F_sender_Report (x_0 : Int) (x_1 : Int) (x_2 : Int) (x_3 : Int) (x_4 : Int) (x_5 : Int) (x_6 : Int) (x_7 : Int) (x_8_a : Option Addr) (x_8_l : Nat) (x_8_c : Nat) (x_9 : Int) (x_10 : Int) (x_11 : Int) (x_12 : Bool) (r_0 : Int) (r_1_a : Option Addr) (r_1_l : Nat) (r_1_c : Nat) (w : World) (R : Value → World → Prop) : Prop :=
  (kAlloc w #[(.int .i64 x_0), (.int .i64 x_1), (.int .i64 x_2), (.int .i64 x_3), (.int .i64 x_4), (.int .i64 x_5), (.int .i64 x_6), (.int .i64 x_7), (.slice x_8_a x_8_l x_8_c), (.int .i64 x_9), (.int .i64 x_10), (.int .i64 x_11), (.bool x_12)] Ty_api_Sender fun b w1 =>
  (kAlloc w1 #[(.int .i64 r_0), (.slice r_1_a r_1_l r_1_c)] Ty_api_Status fun b1 w2 =>
  (kAlloc w2 #[.int .i64 (0 : Int), .int .i64 (0 : Int), .int .i64 (0 : Int), .int .i64 (0 : Int), .int .i64 (0 : Int), .int .i64 (0 : Int), .int .i64 (0 : Int), .int .i64 (0 : Int), .slice none 0 0, .int .i64 (0 : Int), .int .i64 (0 : Int), .int .i64 (0 : Int), .bool false] Ty_api_Sender fun b2 w3 =>
  (∃ J : World → Prop,
  (∀ (_junk : Env)  (w8 : World), J w8 →
    (∃ x_03 x_14 x_22 x_32 x_42 x_52 x_62 x_72 : Int, ∃ x_8_a2 : Option Addr, ∃ x_8_l2 x_8_c2 : Nat, ∃ x_92 x_102 x_112 : Int, ∃ x_122 : Bool, cellsAt w8 ⟨b, 0, none⟩ 0 [(.int .i64 x_03), (.int .i64 x_14), (.int .i64 x_22), (.int .i64 x_32), (.int .i64 x_42), (.int .i64 x_52), (.int .i64 x_62), (.int .i64 x_72), (.slice x_8_a2 x_8_l2 x_8_c2), (.int .i64 x_92), (.int .i64 x_102), (.int .i64 x_112), (.bool x_122)] ∧
    (Calls Try.prog N_sender_begin #[(.agg #[.int .i64 x_03, .int .i64 x_14, .int .i64 x_22, .int .i64 x_32, .int .i64 x_42, .int .i64 x_52, .int .i64 x_62, .int .i64 x_72, .slice x_8_a2 x_8_l2 x_8_c2, .int .i64 x_92, .int .i64 x_102, .int .i64 x_112, .bool x_122])] w8 fun e_2 w9 =>
    ∃ r2 : Option Addr, ∃ r3 : Int, e_2 = .returned (.tuple #[(.pointer r2), (.int .i64 r3)]) ∧
    (bsplit (!decide (r3 = (0 : Int)))
      ((sxStore w9 ⟨b2, 0, none⟩ 0 [(.int .i64 (0 : Int)), (.int .i64 (0 : Int)), (.int .i64 (0 : Int)), (.int .i64 (0 : Int)), (.int .i64 (0 : Int)), (.int .i64 (0 : Int)), (.int .i64 (0 : Int)), (.int .i64 (0 : Int)), (.slice none 0 0), (.int .i64 (0 : Int)), (.int .i64 (0 : Int)), (.int .i64 (0 : Int)), (.bool false)] fun w10 =>
      (∃ r_03 r_14 r_22 r_32 r_42 r_52 r_62 r_72 : Int, ∃ r_8_a2 : Option Addr, ∃ r_8_l2 r_8_c2 : Nat, ∃ r_92 r_102 r_112 : Int, ∃ r_122 : Bool, cellsAt w10 ⟨b2, 0, none⟩ 0 [(.int .i64 r_03), (.int .i64 r_14), (.int .i64 r_22), (.int .i64 r_32), (.int .i64 r_42), (.int .i64 r_52), (.int .i64 r_62), (.int .i64 r_72), (.slice r_8_a2 r_8_l2 r_8_c2), (.int .i64 r_92), (.int .i64 r_102), (.int .i64 r_112), (.bool r_122)] ∧
      R (.tuple #[(.agg #[.int .i64 r_03, .int .i64 r_14, .int .i64 r_22, .int .i64 r_32, .int .i64 r_42, .int .i64 r_52, .int .i64 r_62, .int .i64 r_72, .slice r_8_a2 r_8_l2 r_8_c2, .int .i64 r_92, .int .i64 r_102, .int .i64 r_112, .bool r_122]), (.int .i64 r3)]) w10)))
      ((kLd w9 ⟨b1, 0, none⟩ .i64 fun x1 =>
      (Calls Try.prog N_sender_side_place #[(.pointer r2), (.int .i64 x1)] w9 fun e_3 w11 =>
      ∃ r4 : Int, e_3 = .returned (.int .i64 r4) ∧
      (kNil r2 fun x2 =>
      (kLd w11 (x2.add 7) .i64 fun x3 =>
      (Calls Try.prog N_sender_side_place #[(.pointer r2), (.int .i64 x3)] w11 fun e_4 w12 =>
      ∃ r5 : Int, e_4 = .returned (.int .i64 r5) ∧
      (bsplit (decide (r4 > r5))
        ((sxStore w12 ⟨b2, 0, none⟩ 0 [(.int .i64 (0 : Int)), (.int .i64 (0 : Int)), (.int .i64 (0 : Int)), (.int .i64 (0 : Int)), (.int .i64 (0 : Int)), (.int .i64 (0 : Int)), (.int .i64 (0 : Int)), (.int .i64 (0 : Int)), (.slice none 0 0), (.int .i64 (0 : Int)), (.int .i64 (0 : Int)), (.int .i64 (0 : Int)), (.bool false)] fun w13 =>
        (∃ r_04 r_15 r_23 r_33 r_43 r_53 r_63 r_73 : Int, ∃ r_8_a3 : Option Addr, ∃ r_8_l3 r_8_c3 : Nat, ∃ r_93 r_103 r_113 : Int, ∃ r_123 : Bool, cellsAt w13 ⟨b2, 0, none⟩ 0 [(.int .i64 r_04), (.int .i64 r_15), (.int .i64 r_23), (.int .i64 r_33), (.int .i64 r_43), (.int .i64 r_53), (.int .i64 r_63), (.int .i64 r_73), (.slice r_8_a3 r_8_l3 r_8_c3), (.int .i64 r_93), (.int .i64 r_103), (.int .i64 r_113), (.bool r_123)] ∧
        R (.tuple #[(.agg #[.int .i64 r_04, .int .i64 r_15, .int .i64 r_23, .int .i64 r_33, .int .i64 r_43, .int .i64 r_53, .int .i64 r_63, .int .i64 r_73, .slice r_8_a3 r_8_l3 r_8_c3, .int .i64 r_93, .int .i64 r_103, .int .i64 r_113, .bool r_123]), (.int .i64 (3 : Int))]) w13)))
        ((∃ J1 : World → Prop,
        (∀ (_junk : Env)  (w19 : World), J1 w19 →
          (kNil r2 fun x12 =>
          (kLdS w19 (x12.add 8) fun x_a x_l _ =>
          (∃ I : Option Addr → Nat → Nat → Int → Nat × (World → Prop), (I none 0 0 (0 : Int)).2 w19 ∧
          (∀ (_junk : Env) (left_a : Option Addr) (left_l : Nat) (left_c : Nat) (x13 : Int) (w20 : World), (I left_a left_l left_c x13).2 w20 →
            (bsplit (decide (x13 < (x_l : Int)))
              ((kIx x_a x_l x13 fun b3 =>
              (∃ x_04 : Int, ∃ x_1_a1 : Option Addr, ∃ x_1_l1 x_1_c1 : Nat, ∃ x_23 x_33 : Int, ∃ x_4_a : Option Addr, ∃ x_4_l x_4_c : Nat, cellsAt w20 (b3.add (x13.toNat * 5)) 0 [(.int .i64 x_04), (.slice x_1_a1 x_1_l1 x_1_c1), (.int .i64 x_23), (.int .i64 x_33), (.slice x_4_a x_4_l x_4_c)] ∧
              (kAlloc w20 #[.int .i64 (0 : Int), .slice none 0 0, .int .i64 (0 : Int), .int .i64 (0 : Int), .slice none 0 0] Ty_api_Unit fun b4 w21 =>
              (sxStore w21 ⟨b4, 0, none⟩ 0 [(.int .i64 x_04), (.slice x_1_a1 x_1_l1 x_1_c1), (.int .i64 x_23), (.int .i64 x_33), (.slice x_4_a x_4_l x_4_c)] fun w22 =>
              (∃ x_05 : Int, ∃ x_1_a2 : Option Addr, ∃ x_1_l2 x_1_c2 : Nat, ∃ x_24 x_34 : Int, ∃ x_4_a1 : Option Addr, ∃ x_4_l1 x_4_c1 : Nat, cellsAt w22 ⟨b4, 0, none⟩ 0 [(.int .i64 x_05), (.slice x_1_a2 x_1_l2 x_1_c2), (.int .i64 x_24), (.int .i64 x_34), (.slice x_4_a1 x_4_l1 x_4_c1)] ∧
              (∃ x_06 : Int, ∃ x_1_a3 : Option Addr, ∃ x_1_l3 x_1_c3 : Nat, cellsAt w22 ⟨b1, 0, none⟩ 0 [(.int .i64 x_06), (.slice x_1_a3 x_1_l3 x_1_c3)] ∧
              (Calls Try.prog N_sender_missing #[(.agg #[.int .i64 x_05, .slice x_1_a2 x_1_l2 x_1_c2, .int .i64 x_24, .int .i64 x_34, .slice x_4_a1 x_4_l1 x_4_c1]), (.agg #[.int .i64 x_06, .slice x_1_a3 x_1_l3 x_1_c3])] w22 fun e_6 w23 =>
              ∃ r_a : Option Addr, ∃ r_l r_c : Nat, ∃ r7 : Bool, e_6 = .returned (.tuple #[(.slice r_a r_l r_c), (.bool r7)]) ∧
              (∃ J2 : World → Prop,
              (∀ (_junk : Env)  (w29 : World), J2 w29 →
                (∃ x_08 : Int, ∃ x_1_a5 : Option Addr, ∃ x_1_l5 x_1_c5 : Nat, ∃ x_26 x_36 : Int, ∃ x_4_a3 : Option Addr, ∃ x_4_l3 x_4_c3 : Nat, cellsAt w29 ⟨b4, 0, none⟩ 0 [(.int .i64 x_08), (.slice x_1_a5 x_1_l5 x_1_c5), (.int .i64 x_26), (.int .i64 x_36), (.slice x_4_a3 x_4_l3 x_4_c3)] ∧
                (kAlloc w29 #[(.int .i64 x_08), (.slice x_1_a5 x_1_l5 x_1_c5), (.int .i64 x_26), (.int .i64 x_36), (.slice x_4_a3 x_4_l3 x_4_c3)] Ty_api_Unit fun b5 w30 =>
                (AppP Try.prog #[Ty_S_api_Unit, Ty_S_api_Unit] Ty_S_api_Unit #[(.slice left_a left_l left_c), (.slice (some ⟨b5, 0, none⟩) 1 1)] w30 fun x_a2 x_l2 x_c2 w31 =>
                (kW .i64 (x13 + (1 : Int)) fun x17 =>
                ((I x_a2 x_l2 x_c2 x17).2 w31 ∧ (I x_a2 x_l2 x_c2 x17).1 < (I left_a left_l left_c x13).1)))))) ∧
              (kLd w23 ⟨b4, 0, none⟩ .i64 fun x14 =>
              (Calls Try.prog N_sender_side_place #[(.pointer r2), (.int .i64 x14)] w23 fun e_7 w24 =>
              ∃ r8 : Int, e_7 = .returned (.int .i64 r8) ∧
              (kLet (decide (r8 ≥ r4)) fun x15 =>
              (bsplit x15
                (J2 w24)
                ((bsplit r7
                  ((kLdS w24 ⟨b4, 4, none⟩ fun _ x_l1 _ =>
                  (kLet (decide ((x_l1 : Int) = (0 : Int))) fun fresh =>
                  (kSet w24 ⟨b4, 4, none⟩ (.slice r_a r_l r_c) fun w25 =>
                  (bsplit fresh
                    ((bsplit (decide ((r_l : Int) > (0 : Int)))
                      ((Calls Try.prog N_sender_side_again #[(.pointer r2), (.pointer (some ⟨b4, 0, none⟩))] w25 fun e_8 w26 =>
                      e_8 = .returned (.tuple #[]) ∧
                      J2 w26))
                      (J2 w25)))
                    (J2 w25))))))
                  ((∃ x_07 : Int, ∃ x_1_a4 : Option Addr, ∃ x_1_l4 x_1_c4 : Nat, ∃ x_25 x_35 : Int, ∃ x_4_a2 : Option Addr, ∃ x_4_l2 x_4_c2 : Nat, cellsAt w24 ⟨b4, 0, none⟩ 0 [(.int .i64 x_07), (.slice x_1_a4 x_1_l4 x_1_c4), (.int .i64 x_25), (.int .i64 x_35), (.slice x_4_a2 x_4_l2 x_4_c2)] ∧
                  (Calls Try.prog N_sender_whole #[(.agg #[.int .i64 x_07, .slice x_1_a4 x_1_l4 x_1_c4, .int .i64 x_25, .int .i64 x_35, .slice x_4_a2 x_4_l2 x_4_c2])] w24 fun e_10 w28 =>
                  ∃ r9 : Bool, e_10 = .returned (.bool r9) ∧
                  (bsplit r9
                    ((kW .i64 (x13 + (1 : Int)) fun x16 =>
                    ((I left_a left_l left_c x16).2 w28 ∧ (I left_a left_l left_c x16).1 < (I left_a left_l left_c x13).1)))
                    (J2 w28))))))))))))))))))))
              ((kNil r2 fun x18 =>
              (kLd w20 (x18.add 7) .i64 fun x19 =>
              (kNil r2 fun x20 =>
              (kSet w20 (x20.add 8) (.slice left_a left_l left_c) fun w32 =>
              (kNil r2 fun x21 =>
              (kSet w32 (x21.add 6) (.int .i64 x19) fun w33 =>
              (bsplit (decide ((left_l : Int) > (0 : Int)))
                ((kIx left_a left_l (0 : Int) fun b6 =>
                (kLd w33 (b6.add ((0 : Int).toNat * 5)) .i64 fun x22 =>
                (kNil r2 fun x23 =>
                (kSet w33 (x23.add 6) (.int .i64 x22) fun w34 =>
                (kNil r2 fun x24 =>
                (∃ x_09 x_15 x_27 x_37 x_43 x_53 x_63 x_73 : Int, ∃ x_8_a3 : Option Addr, ∃ x_8_l3 x_8_c3 : Nat, ∃ x_93 x_103 x_113 : Int, ∃ x_123 : Bool, cellsAt w34 x24 0 [(.int .i64 x_09), (.int .i64 x_15), (.int .i64 x_27), (.int .i64 x_37), (.int .i64 x_43), (.int .i64 x_53), (.int .i64 x_63), (.int .i64 x_73), (.slice x_8_a3 x_8_l3 x_8_c3), (.int .i64 x_93), (.int .i64 x_103), (.int .i64 x_113), (.bool x_123)] ∧
                (sxStore w34 ⟨b2, 0, none⟩ 0 [(.int .i64 x_09), (.int .i64 x_15), (.int .i64 x_27), (.int .i64 x_37), (.int .i64 x_43), (.int .i64 x_53), (.int .i64 x_63), (.int .i64 x_73), (.slice x_8_a3 x_8_l3 x_8_c3), (.int .i64 x_93), (.int .i64 x_103), (.int .i64 x_113), (.bool x_123)] fun w35 =>
                (∃ r_05 r_16 r_24 r_34 r_44 r_54 r_64 r_74 : Int, ∃ r_8_a4 : Option Addr, ∃ r_8_l4 r_8_c4 : Nat, ∃ r_94 r_104 r_114 : Int, ∃ r_124 : Bool, cellsAt w35 ⟨b2, 0, none⟩ 0 [(.int .i64 r_05), (.int .i64 r_16), (.int .i64 r_24), (.int .i64 r_34), (.int .i64 r_44), (.int .i64 r_54), (.int .i64 r_64), (.int .i64 r_74), (.slice r_8_a4 r_8_l4 r_8_c4), (.int .i64 r_94), (.int .i64 r_104), (.int .i64 r_114), (.bool r_124)] ∧
                R (.tuple #[(.agg #[.int .i64 r_05, .int .i64 r_16, .int .i64 r_24, .int .i64 r_34, .int .i64 r_44, .int .i64 r_54, .int .i64 r_64, .int .i64 r_74, .slice r_8_a4 r_8_l4 r_8_c4, .int .i64 r_94, .int .i64 r_104, .int .i64 r_114, .bool r_124]), (.int .i64 (0 : Int))]) w35)))))))))
                ((kNil r2 fun x25 =>
                (∃ x_010 x_16 x_28 x_38 x_44 x_54 x_64 x_74 : Int, ∃ x_8_a4 : Option Addr, ∃ x_8_l4 x_8_c4 : Nat, ∃ x_94 x_104 x_114 : Int, ∃ x_124 : Bool, cellsAt w33 x25 0 [(.int .i64 x_010), (.int .i64 x_16), (.int .i64 x_28), (.int .i64 x_38), (.int .i64 x_44), (.int .i64 x_54), (.int .i64 x_64), (.int .i64 x_74), (.slice x_8_a4 x_8_l4 x_8_c4), (.int .i64 x_94), (.int .i64 x_104), (.int .i64 x_114), (.bool x_124)] ∧
                (sxStore w33 ⟨b2, 0, none⟩ 0 [(.int .i64 x_010), (.int .i64 x_16), (.int .i64 x_28), (.int .i64 x_38), (.int .i64 x_44), (.int .i64 x_54), (.int .i64 x_64), (.int .i64 x_74), (.slice x_8_a4 x_8_l4 x_8_c4), (.int .i64 x_94), (.int .i64 x_104), (.int .i64 x_114), (.bool x_124)] fun w36 =>
                (∃ r_06 r_17 r_25 r_35 r_45 r_55 r_65 r_75 : Int, ∃ r_8_a5 : Option Addr, ∃ r_8_l5 r_8_c5 : Nat, ∃ r_95 r_105 r_115 : Int, ∃ r_125 : Bool, cellsAt w36 ⟨b2, 0, none⟩ 0 [(.int .i64 r_06), (.int .i64 r_17), (.int .i64 r_25), (.int .i64 r_35), (.int .i64 r_45), (.int .i64 r_55), (.int .i64 r_65), (.int .i64 r_75), (.slice r_8_a5 r_8_l5 r_8_c5), (.int .i64 r_95), (.int .i64 r_105), (.int .i64 r_115), (.bool r_125)] ∧
                R (.tuple #[(.agg #[.int .i64 r_06, .int .i64 r_17, .int .i64 r_25, .int .i64 r_35, .int .i64 r_45, .int .i64 r_55, .int .i64 r_65, .int .i64 r_75, .slice r_8_a5 r_8_l5 r_8_c5, .int .i64 r_95, .int .i64 r_105, .int .i64 r_115, .bool r_125]), (.int .i64 (0 : Int))]) w36))))))))))))))))))) ∧
        (kNil r2 fun x4 =>
        (kLd w12 (x4.add 10) .i64 fun x5 =>
        (bsplit (!decide (x5 = (-1 : Int)))
          ((kNil r2 fun x6 =>
          (kLd w12 (x6.add 10) .i64 fun x7 =>
          (Calls Try.prog N_sender_side_place #[(.pointer r2), (.int .i64 x7)] w12 fun e_5 w14 =>
          ∃ r6 : Int, e_5 = .returned (.int .i64 r6) ∧
          (bsplit (decide (r6 < r4))
            ((kNil r2 fun x8 =>
            (kSet w14 (x8.add 10) (.int .i64 (-1 : Int)) fun w15 =>
            (kNil r2 fun x9 =>
            (kSet w15 (x9.add 11) (.int .i64 (0 : Int)) fun w16 =>
            J1 w16)))))
            (J1 w14))))))
          (J1 w12))))))))))))))))) ∧
  (∃ x_01 x_13 x_21 x_31 x_41 x_51 x_61 x_71 : Int, ∃ x_8_a1 : Option Addr, ∃ x_8_l1 x_8_c1 : Nat, ∃ x_91 x_101 x_111 : Int, ∃ x_121 : Bool, cellsAt w3 ⟨b, 0, none⟩ 0 [(.int .i64 x_01), (.int .i64 x_13), (.int .i64 x_21), (.int .i64 x_31), (.int .i64 x_41), (.int .i64 x_51), (.int .i64 x_61), (.int .i64 x_71), (.slice x_8_a1 x_8_l1 x_8_c1), (.int .i64 x_91), (.int .i64 x_101), (.int .i64 x_111), (.bool x_121)] ∧
  (Calls Try.prog N_sender_Valid #[(.agg #[.int .i64 x_01, .int .i64 x_13, .int .i64 x_21, .int .i64 x_31, .int .i64 x_41, .int .i64 x_51, .int .i64 x_61, .int .i64 x_71, .slice x_8_a1 x_8_l1 x_8_c1, .int .i64 x_91, .int .i64 x_101, .int .i64 x_111, .bool x_121])] w3 fun e_ w4 =>
  ∃ r : Bool, e_ = .returned (.bool r) ∧
  (bsplit (!r)
    ((sxStore w4 ⟨b2, 0, none⟩ 0 [(.int .i64 (0 : Int)), (.int .i64 (0 : Int)), (.int .i64 (0 : Int)), (.int .i64 (0 : Int)), (.int .i64 (0 : Int)), (.int .i64 (0 : Int)), (.int .i64 (0 : Int)), (.int .i64 (0 : Int)), (.slice none 0 0), (.int .i64 (0 : Int)), (.int .i64 (0 : Int)), (.int .i64 (0 : Int)), (.bool false)] fun w5 =>
      (∃ r_01 r_1 r_2 r_3 r_4 r_5 r_6 r_7 : Int, ∃ r_8_a : Option Addr, ∃ r_8_l r_8_c : Nat, ∃ r_9 r_10 r_11 : Int, ∃ r_12 : Bool, cellsAt w5 ⟨b2, 0, none⟩ 0 [(.int .i64 r_01), (.int .i64 r_1), (.int .i64 r_2), (.int .i64 r_3), (.int .i64 r_4), (.int .i64 r_5), (.int .i64 r_6), (.int .i64 r_7), (.slice r_8_a r_8_l r_8_c), (.int .i64 r_9), (.int .i64 r_10), (.int .i64 r_11), (.bool r_12)] ∧
      R (.tuple #[(.agg #[.int .i64 r_01, .int .i64 r_1, .int .i64 r_2, .int .i64 r_3, .int .i64 r_4, .int .i64 r_5, .int .i64 r_6, .int .i64 r_7, .slice r_8_a r_8_l r_8_c, .int .i64 r_9, .int .i64 r_10, .int .i64 r_11, .bool r_12]), (.int .i64 (1 : Int))]) w5)))
    ((kLd w4 ⟨b, 0, none⟩ .i64 fun x =>
    (∃ x_02 : Int, ∃ x_1_a : Option Addr, ∃ x_1_l x_1_c : Nat, cellsAt w4 ⟨b1, 0, none⟩ 0 [(.int .i64 x_02), (.slice x_1_a x_1_l x_1_c)] ∧
    (Calls Try.prog N_status_Valid #[(.int .i64 x), (.agg #[.int .i64 x_02, .slice x_1_a x_1_l x_1_c])] w4 fun e_1 w6 =>
    ∃ r1 : Bool, e_1 = .returned (.bool r1) ∧
    (bsplit (!r1)
      ((sxStore w6 ⟨b2, 0, none⟩ 0 [(.int .i64 (0 : Int)), (.int .i64 (0 : Int)), (.int .i64 (0 : Int)), (.int .i64 (0 : Int)), (.int .i64 (0 : Int)), (.int .i64 (0 : Int)), (.int .i64 (0 : Int)), (.int .i64 (0 : Int)), (.slice none 0 0), (.int .i64 (0 : Int)), (.int .i64 (0 : Int)), (.int .i64 (0 : Int)), (.bool false)] fun w7 =>
      (∃ r_02 r_13 r_21 r_31 r_41 r_51 r_61 r_71 : Int, ∃ r_8_a1 : Option Addr, ∃ r_8_l1 r_8_c1 : Nat, ∃ r_91 r_101 r_111 : Int, ∃ r_121 : Bool, cellsAt w7 ⟨b2, 0, none⟩ 0 [(.int .i64 r_02), (.int .i64 r_13), (.int .i64 r_21), (.int .i64 r_31), (.int .i64 r_41), (.int .i64 r_51), (.int .i64 r_61), (.int .i64 r_71), (.slice r_8_a1 r_8_l1 r_8_c1), (.int .i64 r_91), (.int .i64 r_101), (.int .i64 r_111), (.bool r_121)] ∧
      R (.tuple #[(.agg #[.int .i64 r_02, .int .i64 r_13, .int .i64 r_21, .int .i64 r_31, .int .i64 r_41, .int .i64 r_51, .int .i64 r_61, .int .i64 r_71, .slice r_8_a1 r_8_l1 r_8_c1, .int .i64 r_91, .int .i64 r_101, .int .i64 r_111, .bool r_121]), (.int .i64 (1 : Int))]) w7)))
      (J w6)))))))))))))
theorem F_sender_Report_eq (x_0 : Int) (x_1 : Int) (x_2 : Int) (x_3 : Int) (x_4 : Int) (x_5 : Int) (x_6 : Int) (x_7 : Int) (x_8_a : Option Addr) (x_8_l : Nat) (x_8_c : Nat) (x_9 : Int) (x_10 : Int) (x_11 : Int) (x_12 : Bool) (r_0 : Int) (r_1_a : Option Addr) (r_1_l : Nat) (r_1_c : Nat) (w : World) (R : Value → World → Prop) : sxFn Try.prog TT h_sender_Report Try.f22 #[(.agg #[.int .i64 x_0, .int .i64 x_1, .int .i64 x_2, .int .i64 x_3, .int .i64 x_4, .int .i64 x_5, .int .i64 x_6, .int .i64 x_7, .slice x_8_a x_8_l x_8_c, .int .i64 x_9, .int .i64 x_10, .int .i64 x_11, .bool x_12]), (.agg #[.int .i64 r_0, .slice r_1_a r_1_l r_1_c])] w R = F_sender_Report x_0 x_1 x_2 x_3 x_4 x_5 x_6 x_7 x_8_a x_8_l x_8_c x_9 x_10 x_11 x_12 r_0 r_1_a r_1_l r_1_c w R := by kernel_rfl
theorem F_sender_Report_ok {R : Ending → World → Prop} (x_0 : Int) (x_1 : Int) (x_2 : Int) (x_3 : Int) (x_4 : Int) (x_5 : Int) (x_6 : Int) (x_7 : Int) (x_8_a : Option Addr) (x_8_l : Nat) (x_8_c : Nat) (x_9 : Int) (x_10 : Int) (x_11 : Int) (x_12 : Bool) (r_0 : Int) (r_1_a : Option Addr) (r_1_l : Nat) (r_1_c : Nat) (w : World) (h : F_sender_Report x_0 x_1 x_2 x_3 x_4 x_5 x_6 x_7 x_8_a x_8_l x_8_c x_9 x_10 x_11 x_12 r_0 r_1_a r_1_l r_1_c w fun v w' => R (.returned v) w') : Calls Try.prog N_sender_Report #[(.agg #[.int .i64 x_0, .int .i64 x_1, .int .i64 x_2, .int .i64 x_3, .int .i64 x_4, .int .i64 x_5, .int .i64 x_6, .int .i64 x_7, .slice x_8_a x_8_l x_8_c, .int .i64 x_9, .int .i64 x_10, .int .i64 x_11, .bool x_12]), (.agg #[.int .i64 r_0, .slice r_1_a r_1_l r_1_c])] w R :=
  calls_of (f := 22) follows_ok Try.func22 (Eq.mpr (F_sender_Report_eq x_0 x_1 x_2 x_3 x_4 x_5 x_6 x_7 x_8_a x_8_l x_8_c x_9 x_10 x_11 x_12 r_0 r_1_a r_1_l r_1_c w _) h)

def h_ref20_Report : H := (.seq .reg (.seq (.block (.cut [(15, .p .bool)] [15, 16, 17, 18, 19, 20, 21, 22, 23, 24, 25, 26] .reg (.cond (.seq .reg .leaf) (.seq .reg (.cond (.seq .reg .leaf) .leaf))))) (.seq .reg (.seq .reg (.seq (.seq .reg (.cond (.seq .reg .leaf) .leaf)) (.seq .reg (.seq .reg (.seq .reg (.seq (.seq .reg (.block (.loop [(10, .p (.int .i64))] [10, 11, 12, 13, 14, 55, 56, 57, 58, 59, 60, 61, 62, 63, 64, 65, 66, 67, 68, 69, 70, 71, 72, 73, 74, 75, 76, 77, 78, 79, 80, 81, 82, 83, 84, 85, 86, 87, 88, 89, 90, 91, 92, 93, 94, 95, 96, 97, 98, 99, 100, 101, 102, 103, 104, 105, 106, 107, 108, 109, 110, 111] (.seq (.seq .reg (.cond .leaf .leaf)) (.seq (.block (.seq .reg (.cut [] [12, 13, 14, 67, 68, 69, 70, 71, 72, 73, 74, 75, 76, 77, 78, 79, 80, 81, 82, 83, 84, 85, 86, 87, 88, 89, 90, 91, 92, 93, 94, 95, 96, 97, 98, 99, 100, 101, 102, 103, 104, 105] (.seq .reg (.cond (.seq .reg (.cut [] [81, 82, 83, 84, 85, 86, 87, 88, 89, 90] (.seq .reg (.cond .leaf .leaf)) (.seq .reg (.cond (.seq .reg (.seq .reg (.seq .reg (.cond .reg .leaf)))) .leaf)))) .leaf)) .reg))) .reg))))) (.cut [] [112, 113, 114, 115, 116, 117, 118, 119, 120, 121, 122, 123, 124, 125, 126] (.seq .reg (.cond .reg .leaf)) (.seq .reg (.seq (.seq .reg (.cond .reg .leaf)) (.seq .reg .leaf)))))))))))))
def F_ref20_Report (s_0 : Int) (s_1 : Int) (s_2 : Int) (s_3 : Int) (s_4 : Int) (s_5 : Int) (s_6 : Int) (s_7 : Int) (s_8_a : Option Addr) (s_8_l : Nat) (s_8_c : Nat) (s_9 : Int) (s_10 : Int) (s_11 : Int) (s_12 : Bool) (r_0 : Int) (r_1_a : Option Addr) (r_1_l : Nat) (r_1_c : Nat) (w : World) (R : Value → World → Prop) : Prop :=
  (kAlloc w #[(.int .i64 s_0), (.int .i64 s_1), (.int .i64 s_2), (.int .i64 s_3), (.int .i64 s_4), (.int .i64 s_5), (.int .i64 s_6), (.int .i64 s_7), (.slice s_8_a s_8_l s_8_c), (.int .i64 s_9), (.int .i64 s_10), (.int .i64 s_11), (.bool s_12)] Ty_api_Sender fun b w1 =>
  (kAlloc w1 #[(.int .i64 r_0), (.slice r_1_a r_1_l r_1_c)] Ty_api_Status fun b1 w2 =>
  (kAlloc w2 #[.int .i64 (0 : Int), .int .i64 (0 : Int), .int .i64 (0 : Int), .int .i64 (0 : Int), .int .i64 (0 : Int), .int .i64 (0 : Int), .int .i64 (0 : Int), .int .i64 (0 : Int), .slice none 0 0, .int .i64 (0 : Int), .int .i64 (0 : Int), .int .i64 (0 : Int), .bool false] Ty_api_Sender fun b2 w3 =>
  (∃ J : Bool → World → Prop,
  (∀ (_junk : Env) (x1 : Bool) (w6 : World), J x1 w6 →
    (bsplit x1
      ((sxStore w6 ⟨b2, 0, none⟩ 0 [(.int .i64 (0 : Int)), (.int .i64 (0 : Int)), (.int .i64 (0 : Int)), (.int .i64 (0 : Int)), (.int .i64 (0 : Int)), (.int .i64 (0 : Int)), (.int .i64 (0 : Int)), (.int .i64 (0 : Int)), (.slice none 0 0), (.int .i64 (0 : Int)), (.int .i64 (0 : Int)), (.int .i64 (0 : Int)), (.bool false)] fun w7 =>
      (∃ r_01 r_1 r_2 r_3 r_4 r_5 r_6 r_7 : Int, ∃ r_8_a : Option Addr, ∃ r_8_l r_8_c : Nat, ∃ r_9 r_10 r_11 : Int, ∃ r_12 : Bool, cellsAt w7 ⟨b2, 0, none⟩ 0 [(.int .i64 r_01), (.int .i64 r_1), (.int .i64 r_2), (.int .i64 r_3), (.int .i64 r_4), (.int .i64 r_5), (.int .i64 r_6), (.int .i64 r_7), (.slice r_8_a r_8_l r_8_c), (.int .i64 r_9), (.int .i64 r_10), (.int .i64 r_11), (.bool r_12)] ∧
      R (.tuple #[(.agg #[.int .i64 r_01, .int .i64 r_1, .int .i64 r_2, .int .i64 r_3, .int .i64 r_4, .int .i64 r_5, .int .i64 r_6, .int .i64 r_7, .slice r_8_a r_8_l r_8_c, .int .i64 r_9, .int .i64 r_10, .int .i64 r_11, .bool r_12]), (.int .i64 (1 : Int))]) w7)))
      ((kLdB w6 ⟨b, 12, none⟩ fun x2 =>
      (bsplit x2
        ((sxStore w6 ⟨b2, 0, none⟩ 0 [(.int .i64 (0 : Int)), (.int .i64 (0 : Int)), (.int .i64 (0 : Int)), (.int .i64 (0 : Int)), (.int .i64 (0 : Int)), (.int .i64 (0 : Int)), (.int .i64 (0 : Int)), (.int .i64 (0 : Int)), (.slice none 0 0), (.int .i64 (0 : Int)), (.int .i64 (0 : Int)), (.int .i64 (0 : Int)), (.bool false)] fun w8 =>
        (∃ r_02 r_13 r_21 r_31 r_41 r_51 r_61 r_71 : Int, ∃ r_8_a1 : Option Addr, ∃ r_8_l1 r_8_c1 : Nat, ∃ r_91 r_101 r_111 : Int, ∃ r_121 : Bool, cellsAt w8 ⟨b2, 0, none⟩ 0 [(.int .i64 r_02), (.int .i64 r_13), (.int .i64 r_21), (.int .i64 r_31), (.int .i64 r_41), (.int .i64 r_51), (.int .i64 r_61), (.int .i64 r_71), (.slice r_8_a1 r_8_l1 r_8_c1), (.int .i64 r_91), (.int .i64 r_101), (.int .i64 r_111), (.bool r_121)] ∧
        R (.tuple #[(.agg #[.int .i64 r_02, .int .i64 r_13, .int .i64 r_21, .int .i64 r_31, .int .i64 r_41, .int .i64 r_51, .int .i64 r_61, .int .i64 r_71, .slice r_8_a1 r_8_l1 r_8_c1, .int .i64 r_91, .int .i64 r_101, .int .i64 r_111, .bool r_121]), (.int .i64 (16 : Int))]) w8)))
        ((kLd w6 ⟨b, 0, none⟩ .i64 fun x3 =>
        (kLd w6 ⟨b, 6, none⟩ .i64 fun x4 =>
        (kLd w6 ⟨b1, 0, none⟩ .i64 fun x5 =>
        (Calls Try.prog N_ref20_Place #[(.int .i64 x3), (.int .i64 x4), (.int .i64 x5)] w6 fun e_2 w9 =>
        ∃ r2 : Int, e_2 = .returned (.int .i64 r2) ∧
        (kLd w9 ⟨b, 6, none⟩ .i64 fun x6 =>
        (kLd w9 ⟨b, 7, none⟩ .i64 fun x7 =>
        (Calls Try.prog N_ref20_Place #[(.int .i64 x3), (.int .i64 x6), (.int .i64 x7)] w9 fun e_3 w10 =>
        ∃ r3 : Int, e_3 = .returned (.int .i64 r3) ∧
        (bsplit (decide (r2 > r3))
          ((sxStore w10 ⟨b2, 0, none⟩ 0 [(.int .i64 (0 : Int)), (.int .i64 (0 : Int)), (.int .i64 (0 : Int)), (.int .i64 (0 : Int)), (.int .i64 (0 : Int)), (.int .i64 (0 : Int)), (.int .i64 (0 : Int)), (.int .i64 (0 : Int)), (.slice none 0 0), (.int .i64 (0 : Int)), (.int .i64 (0 : Int)), (.int .i64 (0 : Int)), (.bool false)] fun w11 =>
          (∃ r_03 r_14 r_22 r_32 r_42 r_52 r_62 r_72 : Int, ∃ r_8_a2 : Option Addr, ∃ r_8_l2 r_8_c2 : Nat, ∃ r_92 r_102 r_112 : Int, ∃ r_122 : Bool, cellsAt w11 ⟨b2, 0, none⟩ 0 [(.int .i64 r_03), (.int .i64 r_14), (.int .i64 r_22), (.int .i64 r_32), (.int .i64 r_42), (.int .i64 r_52), (.int .i64 r_62), (.int .i64 r_72), (.slice r_8_a2 r_8_l2 r_8_c2), (.int .i64 r_92), (.int .i64 r_102), (.int .i64 r_112), (.bool r_122)] ∧
          R (.tuple #[(.agg #[.int .i64 r_03, .int .i64 r_14, .int .i64 r_22, .int .i64 r_32, .int .i64 r_42, .int .i64 r_52, .int .i64 r_62, .int .i64 r_72, .slice r_8_a2 r_8_l2 r_8_c2, .int .i64 r_92, .int .i64 r_102, .int .i64 r_112, .bool r_122]), (.int .i64 (3 : Int))]) w11)))
          ((∃ x_02 x_13 x_21 x_31 x_41 x_51 x_61 x_71 : Int, ∃ x_8_a1 : Option Addr, ∃ x_8_l1 x_8_c1 : Nat, ∃ x_91 x_101 x_111 : Int, ∃ x_121 : Bool, cellsAt w10 ⟨b, 0, none⟩ 0 [(.int .i64 x_02), (.int .i64 x_13), (.int .i64 x_21), (.int .i64 x_31), (.int .i64 x_41), (.int .i64 x_51), (.int .i64 x_61), (.int .i64 x_71), (.slice x_8_a1 x_8_l1 x_8_c1), (.int .i64 x_91), (.int .i64 x_101), (.int .i64 x_111), (.bool x_121)] ∧
          (Calls Try.prog N_ref20_Copy #[(.agg #[.int .i64 x_02, .int .i64 x_13, .int .i64 x_21, .int .i64 x_31, .int .i64 x_41, .int .i64 x_51, .int .i64 x_61, .int .i64 x_71, .slice x_8_a1 x_8_l1 x_8_c1, .int .i64 x_91, .int .i64 x_101, .int .i64 x_111, .bool x_121])] w10 fun e_4 w12 =>
          ∃ r_04 r_15 r_23 r_33 r_43 r_53 r_63 r_73 : Int, ∃ r_8_a3 : Option Addr, ∃ r_8_l3 r_8_c3 : Nat, ∃ r_93 r_103 r_113 : Int, ∃ r_123 : Bool, e_4 = .returned (.agg #[.int .i64 r_04, .int .i64 r_15, .int .i64 r_23, .int .i64 r_33, .int .i64 r_43, .int .i64 r_53, .int .i64 r_63, .int .i64 r_73, .slice r_8_a3 r_8_l3 r_8_c3, .int .i64 r_93, .int .i64 r_103, .int .i64 r_113, .bool r_123]) ∧
          (kAlloc w12 #[.int .i64 (0 : Int), .int .i64 (0 : Int), .int .i64 (0 : Int), .int .i64 (0 : Int), .int .i64 (0 : Int), .int .i64 (0 : Int), .int .i64 (0 : Int), .int .i64 (0 : Int), .slice none 0 0, .int .i64 (0 : Int), .int .i64 (0 : Int), .int .i64 (0 : Int), .bool false] Ty_api_Sender fun b3 w13 =>
          (sxStore w13 ⟨b3, 0, none⟩ 0 [(.int .i64 r_04), (.int .i64 r_15), (.int .i64 r_23), (.int .i64 r_33), (.int .i64 r_43), (.int .i64 r_53), (.int .i64 r_63), (.int .i64 r_73), (.slice r_8_a3 r_8_l3 r_8_c3), (.int .i64 r_93), (.int .i64 r_103), (.int .i64 r_113), (.bool r_123)] fun w14 =>
          (kSet w14 ⟨b3, 8, none⟩ (.slice none 0 0) fun w15 =>
          (∃ x_03 x_14 x_22 x_32 x_42 x_52 x_62 x_72 : Int, ∃ x_8_a2 : Option Addr, ∃ x_8_l2 x_8_c2 : Nat, ∃ x_92 x_102 x_112 : Int, ∃ x_122 : Bool, cellsAt w15 ⟨b, 0, none⟩ 0 [(.int .i64 x_03), (.int .i64 x_14), (.int .i64 x_22), (.int .i64 x_32), (.int .i64 x_42), (.int .i64 x_52), (.int .i64 x_62), (.int .i64 x_72), (.slice x_8_a2 x_8_l2 x_8_c2), (.int .i64 x_92), (.int .i64 x_102), (.int .i64 x_112), (.bool x_122)] ∧
          (Calls Try.prog N_ref20_Copy #[(.agg #[.int .i64 x_03, .int .i64 x_14, .int .i64 x_22, .int .i64 x_32, .int .i64 x_42, .int .i64 x_52, .int .i64 x_62, .int .i64 x_72, .slice x_8_a2 x_8_l2 x_8_c2, .int .i64 x_92, .int .i64 x_102, .int .i64 x_112, .bool x_122])] w15 fun e_5 w16 =>
          ∃ r_05 r_16 r_24 r_34 r_44 r_54 r_64 r_74 : Int, ∃ r_8_a4 : Option Addr, ∃ r_8_l4 r_8_c4 : Nat, ∃ r_94 r_104 r_114 : Int, ∃ r_124 : Bool, e_5 = .returned (.agg #[.int .i64 r_05, .int .i64 r_16, .int .i64 r_24, .int .i64 r_34, .int .i64 r_44, .int .i64 r_54, .int .i64 r_64, .int .i64 r_74, .slice r_8_a4 r_8_l4 r_8_c4, .int .i64 r_94, .int .i64 r_104, .int .i64 r_114, .bool r_124]) ∧
          (kAlloc w16 #[.int .i64 (0 : Int), .int .i64 (0 : Int), .int .i64 (0 : Int), .int .i64 (0 : Int), .int .i64 (0 : Int), .int .i64 (0 : Int), .int .i64 (0 : Int), .int .i64 (0 : Int), .slice none 0 0, .int .i64 (0 : Int), .int .i64 (0 : Int), .int .i64 (0 : Int), .bool false] Ty_api_Sender fun b4 w17 =>
          (sxStore w17 ⟨b4, 0, none⟩ 0 [(.int .i64 r_05), (.int .i64 r_16), (.int .i64 r_24), (.int .i64 r_34), (.int .i64 r_44), (.int .i64 r_54), (.int .i64 r_64), (.int .i64 r_74), (.slice r_8_a4 r_8_l4 r_8_c4), (.int .i64 r_94), (.int .i64 r_104), (.int .i64 r_114), (.bool r_124)] fun w18 =>
          (∃ I : Int → Nat × (World → Prop), (I (0 : Int)).2 w18 ∧
          (∀ (_junk : Env) (i : Int) (w19 : World), (I i).2 w19 →
            (kLdS w19 ⟨b4, 8, none⟩ fun _ x_l _ =>
            (bsplit (decide (i < (x_l : Int)))
              ((kLdS w19 ⟨b4, 8, none⟩ fun x_a1 x_l1 _ =>
              (kIx x_a1 x_l1 i fun b5 =>
              (∃ x_04 : Int, ∃ x_1_a1 : Option Addr, ∃ x_1_l1 x_1_c1 : Nat, ∃ x_23 x_33 : Int, ∃ x_4_a : Option Addr, ∃ x_4_l x_4_c : Nat, cellsAt w19 (b5.add (i.toNat * 5)) 0 [(.int .i64 x_04), (.slice x_1_a1 x_1_l1 x_1_c1), (.int .i64 x_23), (.int .i64 x_33), (.slice x_4_a x_4_l x_4_c)] ∧
              (kAlloc w19 #[.int .i64 (0 : Int), .slice none 0 0, .int .i64 (0 : Int), .int .i64 (0 : Int), .slice none 0 0] Ty_api_Unit fun b6 w20 =>
              (sxStore w20 ⟨b6, 0, none⟩ 0 [(.int .i64 x_04), (.slice x_1_a1 x_1_l1 x_1_c1), (.int .i64 x_23), (.int .i64 x_33), (.slice x_4_a x_4_l x_4_c)] fun w21 =>
              (∃ J1 : World → Prop,
              (∀ (_junk : Env)  (w28 : World), J1 w28 →
                (kLdS w28 ⟨b3, 8, none⟩ fun x_a4 x_l4 x_c4 =>
                (∃ x_07 : Int, ∃ x_1_a4 : Option Addr, ∃ x_1_l4 x_1_c4 : Nat, ∃ x_25 x_35 : Int, ∃ x_4_a2 : Option Addr, ∃ x_4_l2 x_4_c2 : Nat, cellsAt w28 ⟨b6, 0, none⟩ 0 [(.int .i64 x_07), (.slice x_1_a4 x_1_l4 x_1_c4), (.int .i64 x_25), (.int .i64 x_35), (.slice x_4_a2 x_4_l2 x_4_c2)] ∧
                (kAlloc w28 #[(.int .i64 x_07), (.slice x_1_a4 x_1_l4 x_1_c4), (.int .i64 x_25), (.int .i64 x_35), (.slice x_4_a2 x_4_l2 x_4_c2)] Ty_api_Unit fun b7 w29 =>
                (AppP Try.prog #[Ty_S_api_Unit, Ty_S_api_Unit] Ty_S_api_Unit #[(.slice x_a4 x_l4 x_c4), (.slice (some ⟨b7, 0, none⟩) 1 1)] w29 fun x_a5 x_l5 x_c5 w30 =>
                (kSet w30 ⟨b3, 8, none⟩ (.slice x_a5 x_l5 x_c5) fun w31 =>
                (kW .i64 (i + (1 : Int)) fun x13 =>
                ((I x13).2 w31 ∧ (I x13).1 < (I i).1)))))))) ∧
              (kLd w21 ⟨b, 6, none⟩ .i64 fun x8 =>
              (kLd w21 ⟨b6, 0, none⟩ .i64 fun x9 =>
              (Calls Try.prog N_ref20_Place #[(.int .i64 x3), (.int .i64 x8), (.int .i64 x9)] w21 fun e_6 w22 =>
              ∃ r4 : Int, e_6 = .returned (.int .i64 r4) ∧
              (bsplit (decide (r4 < r2))
                ((∃ x_05 : Int, ∃ x_1_a2 : Option Addr, ∃ x_1_l2 x_1_c2 : Nat, ∃ x_24 x_34 : Int, ∃ x_4_a1 : Option Addr, ∃ x_4_l1 x_4_c1 : Nat, cellsAt w22 ⟨b6, 0, none⟩ 0 [(.int .i64 x_05), (.slice x_1_a2 x_1_l2 x_1_c2), (.int .i64 x_24), (.int .i64 x_34), (.slice x_4_a1 x_4_l1 x_4_c1)] ∧
                (∃ x_06 : Int, ∃ x_1_a3 : Option Addr, ∃ x_1_l3 x_1_c3 : Nat, cellsAt w22 ⟨b1, 0, none⟩ 0 [(.int .i64 x_06), (.slice x_1_a3 x_1_l3 x_1_c3)] ∧
                (Calls Try.prog N_ref20_missing #[(.agg #[.int .i64 x_05, .slice x_1_a2 x_1_l2 x_1_c2, .int .i64 x_24, .int .i64 x_34, .slice x_4_a1 x_4_l1 x_4_c1]), (.agg #[.int .i64 x_06, .slice x_1_a3 x_1_l3 x_1_c3])] w22 fun e_7 w23 =>
                ∃ r_a : Option Addr, ∃ r_l r_c : Nat, ∃ r5 : Bool, e_7 = .returned (.tuple #[(.slice r_a r_l r_c), (.bool r5)]) ∧
                (∃ J2 : World → Prop,
                (∀ (_junk : Env)  (w24 : World), J2 w24 →
                  (bsplit r5
                    ((kLdS w24 ⟨b6, 4, none⟩ fun _ x_l3 _ =>
                    (kLet (decide ((x_l3 : Int) > (0 : Int))) fun had =>
                    (kSet w24 ⟨b6, 4, none⟩ (.slice r_a r_l r_c) fun w25 =>
                    (bsplit (decide ((r_l : Int) > (0 : Int)))
                      ((bsplit (!had)
                        ((Calls Try.prog N_ref20_again #[(.pointer (some ⟨b3, 0, none⟩)), (.pointer (some ⟨b6, 0, none⟩))] w25 fun e_8 w26 =>
                        e_8 = .returned (.tuple #[]) ∧
                        J1 w26))
                        (J1 w25)))
                      (J1 w25))))))
                    (J1 w24))) ∧
                (bsplit (!r5)
                  ((kLd w23 ⟨b6, 2, none⟩ .i64 fun x10 =>
                  (kLdS w23 ⟨b6, 1, none⟩ fun _ x_l2 _ =>
                  (bsplit (decide (x10 = (x_l2 : Int)))
                    ((kW .i64 (i + (1 : Int)) fun x11 =>
                    ((I x11).2 w23 ∧ (I x11).1 < (I i).1)))
                    (J2 w23)))))
                  (J2 w23)))))))
                (J1 w22))))))))))))
              ((∃ J3 : World → Prop,
              (∀ (_junk : Env)  (w37 : World), J3 w37 →
                (kLd w37 ⟨b, 7, none⟩ .i64 fun x17 =>
                (kSet w37 ⟨b3, 6, none⟩ (.int .i64 x17) fun w38 =>
                (kLdS w38 ⟨b3, 8, none⟩ fun _ x_l6 _ =>
                (bsplit (decide ((x_l6 : Int) > (0 : Int)))
                  ((kLdS w38 ⟨b3, 8, none⟩ fun x_a7 x_l7 _ =>
                  (kIx x_a7 x_l7 (0 : Int) fun b8 =>
                  (kLd w38 (b8.add ((0 : Int).toNat * 5)) .i64 fun x18 =>
                  (kSet w38 ⟨b3, 6, none⟩ (.int .i64 x18) fun w39 =>
                  (∃ x_08 x_15 x_26 x_36 x_43 x_53 x_63 x_73 : Int, ∃ x_8_a3 : Option Addr, ∃ x_8_l3 x_8_c3 : Nat, ∃ x_93 x_103 x_113 : Int, ∃ x_123 : Bool, cellsAt w39 ⟨b3, 0, none⟩ 0 [(.int .i64 x_08), (.int .i64 x_15), (.int .i64 x_26), (.int .i64 x_36), (.int .i64 x_43), (.int .i64 x_53), (.int .i64 x_63), (.int .i64 x_73), (.slice x_8_a3 x_8_l3 x_8_c3), (.int .i64 x_93), (.int .i64 x_103), (.int .i64 x_113), (.bool x_123)] ∧
                  (sxStore w39 ⟨b2, 0, none⟩ 0 [(.int .i64 x_08), (.int .i64 x_15), (.int .i64 x_26), (.int .i64 x_36), (.int .i64 x_43), (.int .i64 x_53), (.int .i64 x_63), (.int .i64 x_73), (.slice x_8_a3 x_8_l3 x_8_c3), (.int .i64 x_93), (.int .i64 x_103), (.int .i64 x_113), (.bool x_123)] fun w40 =>
                  (∃ r_06 r_17 r_25 r_35 r_45 r_55 r_65 r_75 : Int, ∃ r_8_a5 : Option Addr, ∃ r_8_l5 r_8_c5 : Nat, ∃ r_95 r_105 r_115 : Int, ∃ r_125 : Bool, cellsAt w40 ⟨b2, 0, none⟩ 0 [(.int .i64 r_06), (.int .i64 r_17), (.int .i64 r_25), (.int .i64 r_35), (.int .i64 r_45), (.int .i64 r_55), (.int .i64 r_65), (.int .i64 r_75), (.slice r_8_a5 r_8_l5 r_8_c5), (.int .i64 r_95), (.int .i64 r_105), (.int .i64 r_115), (.bool r_125)] ∧
                  R (.tuple #[(.agg #[.int .i64 r_06, .int .i64 r_17, .int .i64 r_25, .int .i64 r_35, .int .i64 r_45, .int .i64 r_55, .int .i64 r_65, .int .i64 r_75, .slice r_8_a5 r_8_l5 r_8_c5, .int .i64 r_95, .int .i64 r_105, .int .i64 r_115, .bool r_125]), (.int .i64 (0 : Int))]) w40))))))))
                  ((∃ x_09 x_16 x_27 x_37 x_44 x_54 x_64 x_74 : Int, ∃ x_8_a4 : Option Addr, ∃ x_8_l4 x_8_c4 : Nat, ∃ x_94 x_104 x_114 : Int, ∃ x_124 : Bool, cellsAt w38 ⟨b3, 0, none⟩ 0 [(.int .i64 x_09), (.int .i64 x_16), (.int .i64 x_27), (.int .i64 x_37), (.int .i64 x_44), (.int .i64 x_54), (.int .i64 x_64), (.int .i64 x_74), (.slice x_8_a4 x_8_l4 x_8_c4), (.int .i64 x_94), (.int .i64 x_104), (.int .i64 x_114), (.bool x_124)] ∧
                  (sxStore w38 ⟨b2, 0, none⟩ 0 [(.int .i64 x_09), (.int .i64 x_16), (.int .i64 x_27), (.int .i64 x_37), (.int .i64 x_44), (.int .i64 x_54), (.int .i64 x_64), (.int .i64 x_74), (.slice x_8_a4 x_8_l4 x_8_c4), (.int .i64 x_94), (.int .i64 x_104), (.int .i64 x_114), (.bool x_124)] fun w41 =>
                  (∃ r_07 r_18 r_26 r_36 r_46 r_56 r_66 r_76 : Int, ∃ r_8_a6 : Option Addr, ∃ r_8_l6 r_8_c6 : Nat, ∃ r_96 r_106 r_116 : Int, ∃ r_126 : Bool, cellsAt w41 ⟨b2, 0, none⟩ 0 [(.int .i64 r_07), (.int .i64 r_18), (.int .i64 r_26), (.int .i64 r_36), (.int .i64 r_46), (.int .i64 r_56), (.int .i64 r_66), (.int .i64 r_76), (.slice r_8_a6 r_8_l6 r_8_c6), (.int .i64 r_96), (.int .i64 r_106), (.int .i64 r_116), (.bool r_126)] ∧
                  R (.tuple #[(.agg #[.int .i64 r_07, .int .i64 r_18, .int .i64 r_26, .int .i64 r_36, .int .i64 r_46, .int .i64 r_56, .int .i64 r_66, .int .i64 r_76, .slice r_8_a6 r_8_l6 r_8_c6, .int .i64 r_96, .int .i64 r_106, .int .i64 r_116, .bool r_126]), (.int .i64 (0 : Int))]) w41))))))))) ∧
              (kLd w19 ⟨b, 10, none⟩ .i64 fun x14 =>
              (bsplit (decide (x14 ≥ (0 : Int)))
                ((kLd w19 ⟨b, 6, none⟩ .i64 fun x15 =>
                (kLd w19 ⟨b, 10, none⟩ .i64 fun x16 =>
                (Calls Try.prog N_ref20_Place #[(.int .i64 x3), (.int .i64 x15), (.int .i64 x16)] w19 fun e_10 w32 =>
                ∃ r6 : Int, e_10 = .returned (.int .i64 r6) ∧
                (bsplit (decide (r6 < r2))
                  ((kSet w32 ⟨b3, 10, none⟩ (.int .i64 (-1 : Int)) fun w33 =>
                  (kSet w33 ⟨b3, 11, none⟩ (.int .i64 (0 : Int)) fun w34 =>
                  J3 w34)))
                  (J3 w32))))))
                (J3 w19))))))))))))))))))))))))))))))))) ∧
  (∃ x_0 x_1 x_2 x_3 x_4 x_5 x_6 x_7 : Int, ∃ x_8_a : Option Addr, ∃ x_8_l x_8_c : Nat, ∃ x_9 x_10 x_11 : Int, ∃ x_12 : Bool, cellsAt w3 ⟨b, 0, none⟩ 0 [(.int .i64 x_0), (.int .i64 x_1), (.int .i64 x_2), (.int .i64 x_3), (.int .i64 x_4), (.int .i64 x_5), (.int .i64 x_6), (.int .i64 x_7), (.slice x_8_a x_8_l x_8_c), (.int .i64 x_9), (.int .i64 x_10), (.int .i64 x_11), (.bool x_12)] ∧
  (Calls Try.prog N_ref20_Valid #[(.agg #[.int .i64 x_0, .int .i64 x_1, .int .i64 x_2, .int .i64 x_3, .int .i64 x_4, .int .i64 x_5, .int .i64 x_6, .int .i64 x_7, .slice x_8_a x_8_l x_8_c, .int .i64 x_9, .int .i64 x_10, .int .i64 x_11, .bool x_12])] w3 fun e_ w4 =>
  ∃ r : Bool, e_ = .returned (.bool r) ∧
  (bsplit (!r)
    (J true w4)
    ((kLd w4 ⟨b, 0, none⟩ .i64 fun x =>
    (∃ x_01 : Int, ∃ x_1_a : Option Addr, ∃ x_1_l x_1_c : Nat, cellsAt w4 ⟨b1, 0, none⟩ 0 [(.int .i64 x_01), (.slice x_1_a x_1_l x_1_c)] ∧
    (Calls Try.prog N_ref19_Valid #[(.int .i64 x), (.agg #[.int .i64 x_01, .slice x_1_a x_1_l x_1_c])] w4 fun e_1 w5 =>
    ∃ r1 : Bool, e_1 = .returned (.bool r1) ∧
    J (!r1) w5)))))))))))
theorem F_ref20_Report_eq (s_0 : Int) (s_1 : Int) (s_2 : Int) (s_3 : Int) (s_4 : Int) (s_5 : Int) (s_6 : Int) (s_7 : Int) (s_8_a : Option Addr) (s_8_l : Nat) (s_8_c : Nat) (s_9 : Int) (s_10 : Int) (s_11 : Int) (s_12 : Bool) (r_0 : Int) (r_1_a : Option Addr) (r_1_l : Nat) (r_1_c : Nat) (w : World) (R : Value → World → Prop) : sxFn Try.prog TT h_ref20_Report Try.f23 #[(.agg #[.int .i64 s_0, .int .i64 s_1, .int .i64 s_2, .int .i64 s_3, .int .i64 s_4, .int .i64 s_5, .int .i64 s_6, .int .i64 s_7, .slice s_8_a s_8_l s_8_c, .int .i64 s_9, .int .i64 s_10, .int .i64 s_11, .bool s_12]), (.agg #[.int .i64 r_0, .slice r_1_a r_1_l r_1_c])] w R = F_ref20_Report s_0 s_1 s_2 s_3 s_4 s_5 s_6 s_7 s_8_a s_8_l s_8_c s_9 s_10 s_11 s_12 r_0 r_1_a r_1_l r_1_c w R := by kernel_rfl
theorem F_ref20_Report_ok {R : Ending → World → Prop} (s_0 : Int) (s_1 : Int) (s_2 : Int) (s_3 : Int) (s_4 : Int) (s_5 : Int) (s_6 : Int) (s_7 : Int) (s_8_a : Option Addr) (s_8_l : Nat) (s_8_c : Nat) (s_9 : Int) (s_10 : Int) (s_11 : Int) (s_12 : Bool) (r_0 : Int) (r_1_a : Option Addr) (r_1_l : Nat) (r_1_c : Nat) (w : World) (h : F_ref20_Report s_0 s_1 s_2 s_3 s_4 s_5 s_6 s_7 s_8_a s_8_l s_8_c s_9 s_10 s_11 s_12 r_0 r_1_a r_1_l r_1_c w fun v w' => R (.returned v) w') : Calls Try.prog N_ref20_Report #[(.agg #[.int .i64 s_0, .int .i64 s_1, .int .i64 s_2, .int .i64 s_3, .int .i64 s_4, .int .i64 s_5, .int .i64 s_6, .int .i64 s_7, .slice s_8_a s_8_l s_8_c, .int .i64 s_9, .int .i64 s_10, .int .i64 s_11, .bool s_12]), (.agg #[.int .i64 r_0, .slice r_1_a r_1_l r_1_c])] w R :=
  calls_of (f := 23) follows_ok Try.func23 (Eq.mpr (F_ref20_Report_eq s_0 s_1 s_2 s_3 s_4 s_5 s_6 s_7 s_8_a s_8_l s_8_c s_9 s_10 s_11 s_12 r_0 r_1_a r_1_l r_1_c w _) h)

def h_law20_next : H := (.seq .reg (.seq (.seq .reg (.block (.loop [(6, .p (.int .i64))] [2, 3, 4, 5, 6, 7, 8, 9, 10, 11, 12, 13, 14, 15, 16, 17, 18, 19, 20, 21, 22, 23, 24, 25, 26, 27, 28, 29, 30, 31, 32, 33, 34, 35, 36, 37] (.seq (.seq .reg (.cond .leaf .leaf)) (.seq (.block (.seq .reg (.seq .reg (.cond (.seq (.draw .no (.one 0 .pur (.one 1 .stable (.one 2 .pur (.one 3 .pur (.one 4 .pur (.one 5 .stable (.one 6 .pur (.one 7 .pur (.one 8 .pur (.one 9 .stable (.one 10 .pur (.one 11 .pur (.one 12 .pur (.one 13 .stable (.one 14 .pur (.one 15 .pur (.one 16 .pur (.one 17 .pur .nil))))))))))))))))))) .leaf) .leaf)))) .reg))))) (.seq .reg .leaf)))
def F_law20_next (s_0 : Int) (s_1 : Int) (s_2 : Int) (s_3 : Int) (s_4 : Int) (s_5 : Int) (s_6 : Int) (s_7 : Int) (s_8_a : Option Addr) (s_8_l : Nat) (s_8_c : Nat) (s_9 : Int) (s_10 : Int) (s_11 : Int) (s_12 : Bool) (w : World) (R : Value → World → Prop) : Prop :=
  (kAlloc w #[(.int .i64 s_0), (.int .i64 s_1), (.int .i64 s_2), (.int .i64 s_3), (.int .i64 s_4), (.int .i64 s_5), (.int .i64 s_6), (.int .i64 s_7), (.slice s_8_a s_8_l s_8_c), (.int .i64 s_9), (.int .i64 s_10), (.int .i64 s_11), (.bool s_12)] Ty_api_Sender fun b w1 =>
  (∃ I : Int → Nat × (World → Prop), (I (0 : Int)).2 w1 ∧
  (∀ (_junk : Env) (i : Int) (w2 : World), (I i).2 w2 →
    (kLdS w2 ⟨b, 8, none⟩ fun _ x_l _ =>
    (bsplit (decide (i < (x_l : Int)))
      ((kLdS w2 ⟨b, 8, none⟩ fun x_a1 x_l1 _ =>
      (kIx x_a1 x_l1 i fun b1 =>
      (kLdS w2 ((b1.add (i.toNat * 5)).add 4) fun x_a2 x_l2 _ =>
      (bsplit (decide ((x_l2 : Int) > (0 : Int)))
        ((kDrew w2 fun w3 =>
        (kLdS w3 ⟨b, 8, none⟩ fun x_a3 x_l3 _ =>
        (kIx x_a3 x_l3 i fun b2 =>
        (kLd w3 (b2.add (i.toNat * 5)) .i64 fun x =>
        (kIx x_a2 x_l2 (0 : Int) fun b3 =>
        (kLd w3 ((b3.add ((0 : Int).toNat * 3)).add 1) .i64 fun x1 =>
        (kIx x_a2 x_l2 (0 : Int) fun b4 =>
        (kLd w3 ((b4.add ((0 : Int).toNat * 3)).add 2) .i64 fun x2 =>
        R (.tuple #[(.int .i64 x), (.int .i64 x1), (.int .i64 x2), (.bool true)]) w3)))))))))
        ((kW .i64 (i + (1 : Int)) fun x3 =>
        ((I x3).2 w2 ∧ (I x3).1 < (I i).1))))))))
      (R (.tuple #[(.int .i64 (0 : Int)), (.int .i64 (0 : Int)), (.int .i64 (0 : Int)), (.bool false)]) w2))))))
theorem F_law20_next_eq (s_0 : Int) (s_1 : Int) (s_2 : Int) (s_3 : Int) (s_4 : Int) (s_5 : Int) (s_6 : Int) (s_7 : Int) (s_8_a : Option Addr) (s_8_l : Nat) (s_8_c : Nat) (s_9 : Int) (s_10 : Int) (s_11 : Int) (s_12 : Bool) (w : World) (R : Value → World → Prop) : sxFn Try.prog TT h_law20_next Try.f24 #[(.agg #[.int .i64 s_0, .int .i64 s_1, .int .i64 s_2, .int .i64 s_3, .int .i64 s_4, .int .i64 s_5, .int .i64 s_6, .int .i64 s_7, .slice s_8_a s_8_l s_8_c, .int .i64 s_9, .int .i64 s_10, .int .i64 s_11, .bool s_12])] w R = F_law20_next s_0 s_1 s_2 s_3 s_4 s_5 s_6 s_7 s_8_a s_8_l s_8_c s_9 s_10 s_11 s_12 w R := by kernel_rfl
theorem F_law20_next_ok {R : Ending → World → Prop} (s_0 : Int) (s_1 : Int) (s_2 : Int) (s_3 : Int) (s_4 : Int) (s_5 : Int) (s_6 : Int) (s_7 : Int) (s_8_a : Option Addr) (s_8_l : Nat) (s_8_c : Nat) (s_9 : Int) (s_10 : Int) (s_11 : Int) (s_12 : Bool) (w : World) (h : F_law20_next s_0 s_1 s_2 s_3 s_4 s_5 s_6 s_7 s_8_a s_8_l s_8_c s_9 s_10 s_11 s_12 w fun v w' => R (.returned v) w') : Calls Try.prog N_law20_next #[(.agg #[.int .i64 s_0, .int .i64 s_1, .int .i64 s_2, .int .i64 s_3, .int .i64 s_4, .int .i64 s_5, .int .i64 s_6, .int .i64 s_7, .slice s_8_a s_8_l s_8_c, .int .i64 s_9, .int .i64 s_10, .int .i64 s_11, .bool s_12])] w R :=
  calls_of (f := 24) follows_ok Try.func24 (Eq.mpr (F_law20_next_eq s_0 s_1 s_2 s_3 s_4 s_5 s_6 s_7 s_8_a s_8_l s_8_c s_9 s_10 s_11 s_12 w _) h)

def h_ref20_Left : H := (.seq .reg (.seq .reg (.seq .reg .leaf)))
def F_ref20_Left (s_0 : Int) (s_1 : Int) (s_2 : Int) (s_3 : Int) (s_4 : Int) (s_5 : Int) (s_6 : Int) (s_7 : Int) (s_8_a : Option Addr) (s_8_l : Nat) (s_8_c : Nat) (s_9 : Int) (s_10 : Int) (s_11 : Int) (s_12 : Bool) (w : World) (R : Value → World → Prop) : Prop :=
  (kAlloc w #[(.int .i64 s_0), (.int .i64 s_1), (.int .i64 s_2), (.int .i64 s_3), (.int .i64 s_4), (.int .i64 s_5), (.int .i64 s_6), (.int .i64 s_7), (.slice s_8_a s_8_l s_8_c), (.int .i64 s_9), (.int .i64 s_10), (.int .i64 s_11), (.bool s_12)] Ty_api_Sender fun b w1 =>
  (∃ x_0 x_1 x_2 x_3 x_4 x_5 x_6 x_7 : Int, ∃ x_8_a : Option Addr, ∃ x_8_l x_8_c : Nat, ∃ x_9 x_10 x_11 : Int, ∃ x_12 : Bool, cellsAt w1 ⟨b, 0, none⟩ 0 [(.int .i64 x_0), (.int .i64 x_1), (.int .i64 x_2), (.int .i64 x_3), (.int .i64 x_4), (.int .i64 x_5), (.int .i64 x_6), (.int .i64 x_7), (.slice x_8_a x_8_l x_8_c), (.int .i64 x_9), (.int .i64 x_10), (.int .i64 x_11), (.bool x_12)] ∧
  (Calls Try.prog N_ref20_todo #[(.agg #[.int .i64 x_0, .int .i64 x_1, .int .i64 x_2, .int .i64 x_3, .int .i64 x_4, .int .i64 x_5, .int .i64 x_6, .int .i64 x_7, .slice x_8_a x_8_l x_8_c, .int .i64 x_9, .int .i64 x_10, .int .i64 x_11, .bool x_12])] w1 fun e_ w2 =>
  ∃ r r1 r2 : Int, ∃ r3 : Bool, e_ = .returned (.tuple #[(.int .i64 r), (.int .i64 r1), (.int .i64 r2), (.bool r3)]) ∧
  R (.bool r3) w2)))
theorem F_ref20_Left_eq (s_0 : Int) (s_1 : Int) (s_2 : Int) (s_3 : Int) (s_4 : Int) (s_5 : Int) (s_6 : Int) (s_7 : Int) (s_8_a : Option Addr) (s_8_l : Nat) (s_8_c : Nat) (s_9 : Int) (s_10 : Int) (s_11 : Int) (s_12 : Bool) (w : World) (R : Value → World → Prop) : sxFn Try.prog TT h_ref20_Left Try.f25 #[(.agg #[.int .i64 s_0, .int .i64 s_1, .int .i64 s_2, .int .i64 s_3, .int .i64 s_4, .int .i64 s_5, .int .i64 s_6, .int .i64 s_7, .slice s_8_a s_8_l s_8_c, .int .i64 s_9, .int .i64 s_10, .int .i64 s_11, .bool s_12])] w R = F_ref20_Left s_0 s_1 s_2 s_3 s_4 s_5 s_6 s_7 s_8_a s_8_l s_8_c s_9 s_10 s_11 s_12 w R := by kernel_rfl
theorem F_ref20_Left_ok {R : Ending → World → Prop} (s_0 : Int) (s_1 : Int) (s_2 : Int) (s_3 : Int) (s_4 : Int) (s_5 : Int) (s_6 : Int) (s_7 : Int) (s_8_a : Option Addr) (s_8_l : Nat) (s_8_c : Nat) (s_9 : Int) (s_10 : Int) (s_11 : Int) (s_12 : Bool) (w : World) (h : F_ref20_Left s_0 s_1 s_2 s_3 s_4 s_5 s_6 s_7 s_8_a s_8_l s_8_c s_9 s_10 s_11 s_12 w fun v w' => R (.returned v) w') : Calls Try.prog N_ref20_Left #[(.agg #[.int .i64 s_0, .int .i64 s_1, .int .i64 s_2, .int .i64 s_3, .int .i64 s_4, .int .i64 s_5, .int .i64 s_6, .int .i64 s_7, .slice s_8_a s_8_l s_8_c, .int .i64 s_9, .int .i64 s_10, .int .i64 s_11, .bool s_12])] w R :=
  calls_of (f := 25) follows_ok Try.func25 (Eq.mpr (F_ref20_Left_eq s_0 s_1 s_2 s_3 s_4 s_5 s_6 s_7 s_8_a s_8_l s_8_c s_9 s_10 s_11 s_12 w _) h)

def h_ref19_Valid : H := (.seq .reg (.cut [] [4, 11, 12, 13, 14, 15, 16, 17, 18, 19, 20, 21, 22, 23, 24, 25, 26, 27, 28, 29, 30, 31, 32] (.seq .reg (.cond (.seq .reg .leaf) .leaf)) (.seq (.seq .reg (.block (.loop [(5, .p (.int .i64))] [4, 5, 6, 7, 8, 9, 10, 33, 34, 35, 36, 37, 38, 39, 40, 41, 42, 43, 44, 45, 46, 47, 48, 49, 50, 51, 52, 53, 54, 55, 56, 57, 58, 59, 60, 61, 62, 63, 64, 65, 66, 67, 68, 69, 70, 71, 72, 73, 74, 75, 76, 77, 78, 79, 80, 81, 82, 83, 84, 85, 86, 87, 88, 89, 90, 91, 92, 93, 94, 95, 96, 97, 98, 99, 100, 101, 102, 103, 104, 105, 106, 107, 108, 109, 110, 111, 112, 113, 114, 115, 116, 117, 118, 119, 120, 121, 122, 123, 124, 125, 126, 127, 128, 129, 130, 131, 132, 133, 134, 135, 136, 137] (.seq (.seq .reg (.cond .leaf .leaf)) (.seq (.block (.seq .reg (.seq .reg (.cut [] [4, 51, 52, 53, 54, 55, 56, 57, 58, 59, 60, 61, 62, 63, 64, 65, 66, 67, 68, 69, 70, 71, 72, 73] (.seq .reg (.cond (.seq .reg .leaf) .leaf)) (.cut [(8, .p .bool)] [8, 74, 75, 76, 77, 78, 79, 80, 81] .reg (.cut [] [4, 82, 83, 84, 85, 86, 87, 88, 89, 90, 91, 92, 93, 94, 95, 96, 97, 98, 99, 100] (.seq .reg (.cond (.seq .reg .leaf) .leaf)) (.seq (.seq .reg (.cond .leaf .leaf)) (.seq .reg (.seq .reg (.cut [(137, .p .bool)] [115, 116, 117, 118, 119, 120, 121, 122, 123, 124, 125, 126, 127, 128, 129, 130, 131, 132, 133, 134, 135, 136, 137] .reg (.cond (.seq .reg .leaf) .leaf))))))))))) .reg))))) (.seq .reg .leaf))))
def F_ref19_Valid (bits : Int) (s_0 : Int) (s_1_a : Option Addr) (s_1_l : Nat) (s_1_c : Nat) (w : World) (R : Value → World → Prop) : Prop :=
  (kAlloc w #[(.int .i64 s_0), (.slice s_1_a s_1_l s_1_c)] Ty_api_Status fun b w1 =>
  (∃ J : World → Prop,
  (∀ (_junk : Env)  (w3 : World), J w3 →
    (∃ I : Int → Nat × (World → Prop), (I (0 : Int)).2 w3 ∧
    (∀ (_junk : Env) (i : Int) (w4 : World), (I i).2 w4 →
      (kLdS w4 ⟨b, 1, none⟩ fun _ x_l1 _ =>
      (bsplit (decide (i < (x_l1 : Int)))
        ((kLdS w4 ⟨b, 1, none⟩ fun x_a2 x_l2 _ =>
        (kIx x_a2 x_l2 i fun b1 =>
        (∃ x_0 x_1 x_2 : Int, cellsAt w4 (b1.add (i.toNat * 3)) 0 [(.int .i64 x_0), (.int .i64 x_1), (.int .i64 x_2)] ∧
        (kAlloc w4 #[.int .i64 (0 : Int), .int .i64 (0 : Int), .int .i64 (0 : Int)] Ty_api_Range fun b2 w5 =>
        (sxStore w5 ⟨b2, 0, none⟩ 0 [(.int .i64 x_0), (.int .i64 x_1), (.int .i64 x_2)] fun w6 =>
        (kLd w6 ⟨b2, 0, none⟩ .i64 fun x4 =>
        (kLd w6 ⟨b, 0, none⟩ .i64 fun x5 =>
        (Calls Try.prog N_ref02_Distance #[(.int .i64 bits), (.int .i64 x4), (.int .i64 x5)] w6 fun e_1 w7 =>
        ∃ r1 : Int, e_1 = .returned (.int .i64 r1) ∧
        (∃ J1 : World → Prop,
        (∀ (_junk : Env)  (w8 : World), J1 w8 →
          (∃ J2 : Bool → World → Prop,
          (∀ (_junk : Env) (whole1 : Bool) (w9 : World), J2 whole1 w9 →
            (∃ J3 : World → Prop,
            (∀ (_junk : Env)  (w10 : World), J3 w10 →
              (bsplit (decide (i = (0 : Int)))
                ((kW .i64 (i + (1 : Int)) fun x19 =>
                ((I x19).2 w10 ∧ (I x19).1 < (I i).1)))
                ((kLdS w10 ⟨b, 1, none⟩ fun x_a3 x_l3 _ =>
                (kW .i64 (i - (1 : Int)) fun x20 =>
                (kIx x_a3 x_l3 x20 fun b3 =>
                (∃ x_01 x_11 x_21 : Int, cellsAt w10 (b3.add (x20.toNat * 3)) 0 [(.int .i64 x_01), (.int .i64 x_11), (.int .i64 x_21)] ∧
                (kAlloc w10 #[.int .i64 (0 : Int), .int .i64 (0 : Int), .int .i64 (0 : Int)] Ty_api_Range fun b4 w11 =>
                (sxStore w11 ⟨b4, 0, none⟩ 0 [(.int .i64 x_01), (.int .i64 x_11), (.int .i64 x_21)] fun w12 =>
                (kLd w12 ⟨b4, 0, none⟩ .i64 fun x21 =>
                (kLd w12 ⟨b, 0, none⟩ .i64 fun x22 =>
                (Calls Try.prog N_ref02_Distance #[(.int .i64 bits), (.int .i64 x21), (.int .i64 x22)] w12 fun e_2 w13 =>
                ∃ r2 : Int, e_2 = .returned (.int .i64 r2) ∧
                (∃ J4 : Bool → World → Prop,
                (∀ (_junk : Env) (x26 : Bool) (w14 : World), J4 x26 w14 →
                  (bsplit x26
                    (R (.bool false) w14)
                    ((kW .i64 (i + (1 : Int)) fun x27 =>
                    ((I x27).2 w14 ∧ (I x27).1 < (I i).1))))) ∧
                (bsplit (decide (r2 < r1))
                  (J4 true w13)
                  ((bsplit (decide (r2 = r1))
                    ((bsplit whole1
                      (J4 true w13)
                      ((kLd w13 ⟨b4, 2, none⟩ .i64 fun x23 =>
                      (bsplit (decide (x23 = (0 : Int)))
                        (J4 true w13)
                        ((kLd w13 ⟨b2, 1, none⟩ .i64 fun x24 =>
                        (kLd w13 ⟨b4, 2, none⟩ .i64 fun x25 =>
                        J4 (decide (x24 ≤ x25)) w13))))))))
                    (J4 false w13))))))))))))))))) ∧
            (bsplit (!whole1)
              ((kLd w9 ⟨b2, 1, none⟩ .i64 fun x15 =>
              (bsplit (decide (x15 < (0 : Int)))
                (R (.bool false) w9)
                ((kLd w9 ⟨b2, 1, none⟩ .i64 fun x16 =>
                (kLd w9 ⟨b2, 2, none⟩ .i64 fun x17 =>
                (bsplit (decide (x16 ≥ x17))
                  (R (.bool false) w9)
                  ((kLd w9 ⟨b2, 2, none⟩ .i64 fun x18 =>
                  (bsplit (decide (x18 > (65535 : Int)))
                    (R (.bool false) w9)
                    (J3 w9)))))))))))
              (J3 w9)))) ∧
          (kLd w8 ⟨b2, 1, none⟩ .i64 fun x13 =>
          (bsplit (decide (x13 = (0 : Int)))
            ((kLd w8 ⟨b2, 2, none⟩ .i64 fun x14 =>
            (kLet (decide (x14 = (0 : Int))) fun whole =>
            J2 whole w8)))
            (J2 false w8))))) ∧
        (kLd w7 ⟨b2, 0, none⟩ .i64 fun x6 =>
        (bsplit (decide (x6 < (0 : Int)))
          (R (.bool false) w7)
          ((kLd w7 ⟨b2, 0, none⟩ .i64 fun x7 =>
          (kW .u64 (bits) fun x8 =>
          (0 ≤ x8 ∧ (kW .i64 ((1 : Int) * 2 ^ (min x8.toNat (IntKind.bits .i64))) fun x9 =>
          (bsplit (decide (x7 ≥ x9))
            (R (.bool false) w7)
            ((bsplit (decide (r1 < (1 : Int)))
              (R (.bool false) w7)
              ((kW .i64 (bits - (1 : Int)) fun x10 =>
              (kW .u64 (x10) fun x11 =>
              (0 ≤ x11 ∧ (kW .i64 ((1 : Int) * 2 ^ (min x11.toNat (IntKind.bits .i64))) fun x12 =>
              (bsplit (decide (r1 > x12))
                (R (.bool false) w7)
                (J1 w7)))))))))))))))))))))))))))
        (R (.bool true) w4)))))) ∧
  (Calls Try.prog N_ref15_Bits #[(.int .i64 bits)] w1 fun e_ w2 =>
  ∃ r : Bool, e_ = .returned (.bool r) ∧
  (bsplit (!r)
    (R (.bool false) w2)
    ((kLd w2 ⟨b, 0, none⟩ .i64 fun x =>
    (bsplit (decide (x < (0 : Int)))
      (R (.bool false) w2)
      ((kLd w2 ⟨b, 0, none⟩ .i64 fun x1 =>
      (kW .u64 (bits) fun x2 =>
      (0 ≤ x2 ∧ (kW .i64 ((1 : Int) * 2 ^ (min x2.toNat (IntKind.bits .i64))) fun x3 =>
      (bsplit (decide (x1 ≥ x3))
        (R (.bool false) w2)
        ((kLdS w2 ⟨b, 1, none⟩ fun _ x_l _ =>
        (bsplit (decide ((x_l : Int) > (64 : Int)))
          (R (.bool false) w2)
          (J w2)))))))))))))))))
theorem F_ref19_Valid_eq (bits : Int) (s_0 : Int) (s_1_a : Option Addr) (s_1_l : Nat) (s_1_c : Nat) (w : World) (R : Value → World → Prop) : sxFn Try.prog TT h_ref19_Valid Try.f26 #[(.int .i64 bits), (.agg #[.int .i64 s_0, .slice s_1_a s_1_l s_1_c])] w R = F_ref19_Valid bits s_0 s_1_a s_1_l s_1_c w R := by kernel_rfl
theorem F_ref19_Valid_ok {R : Ending → World → Prop} (bits : Int) (s_0 : Int) (s_1_a : Option Addr) (s_1_l : Nat) (s_1_c : Nat) (w : World) (h : F_ref19_Valid bits s_0 s_1_a s_1_l s_1_c w fun v w' => R (.returned v) w') : Calls Try.prog N_ref19_Valid #[(.int .i64 bits), (.agg #[.int .i64 s_0, .slice s_1_a s_1_l s_1_c])] w R :=
  calls_of (f := 26) follows_ok Try.func26 (Eq.mpr (F_ref19_Valid_eq bits s_0 s_1_a s_1_l s_1_c w _) h)

def h_ref20_Place : H := (.seq .reg (.seq .reg .leaf))
def F_ref20_Place (bits : Int) (first : Int) (sn : Int) (w : World) (R : Value → World → Prop) : Prop :=
  (Calls Try.prog N_ref02_Distance #[(.int .i64 bits), (.int .i64 first), (.int .i64 sn)] w fun e_ w1 =>
  ∃ r : Int, e_ = .returned (.int .i64 r) ∧
  R (.int .i64 r) w1)
theorem F_ref20_Place_eq (bits : Int) (first : Int) (sn : Int) (w : World) (R : Value → World → Prop) : sxFn Try.prog TT h_ref20_Place Try.f27 #[(.int .i64 bits), (.int .i64 first), (.int .i64 sn)] w R = F_ref20_Place bits first sn w R := by kernel_rfl
theorem F_ref20_Place_ok {R : Ending → World → Prop} (bits : Int) (first : Int) (sn : Int) (w : World) (h : F_ref20_Place bits first sn w fun v w' => R (.returned v) w') : Calls Try.prog N_ref20_Place #[(.int .i64 bits), (.int .i64 first), (.int .i64 sn)] w R :=
  calls_of (f := 27) follows_ok Try.func27 (Eq.mpr (F_ref20_Place_eq bits first sn w _) h)

def h_ref20_New : H := (.seq .reg (.seq (.seq .reg (.cond (.seq .reg .leaf) .leaf)) (.seq .reg .leaf)))
def F_ref20_New (l_0 : Int) (l_1 : Int) (l_2 : Int) (l_3 : Int) (l_4 : Int) (l_5 : Int) (w : World) (R : Value → World → Prop) : Prop :=
  (kAlloc w #[(.int .i64 l_0), (.int .i64 l_1), (.int .i64 l_2), (.int .i64 l_3), (.int .i64 l_4), (.int .i64 l_5)] Ty_api_Link fun b w1 =>
  (kAlloc w1 #[.int .i64 (0 : Int), .int .i64 (0 : Int), .int .i64 (0 : Int), .int .i64 (0 : Int), .int .i64 (0 : Int), .int .i64 (0 : Int), .int .i64 (0 : Int), .int .i64 (0 : Int), .slice none 0 0, .int .i64 (0 : Int), .int .i64 (0 : Int), .int .i64 (0 : Int), .bool false] Ty_api_Sender fun b1 w2 =>
  (∃ x_0 x_1 x_2 x_3 x_4 x_5 : Int, cellsAt w2 ⟨b, 0, none⟩ 0 [(.int .i64 x_0), (.int .i64 x_1), (.int .i64 x_2), (.int .i64 x_3), (.int .i64 x_4), (.int .i64 x_5)] ∧
  (Calls Try.prog N_ref20_ValidLink #[(.agg #[.int .i64 x_0, .int .i64 x_1, .int .i64 x_2, .int .i64 x_3, .int .i64 x_4, .int .i64 x_5])] w2 fun e_ w3 =>
  ∃ r : Bool, e_ = .returned (.bool r) ∧
  (bsplit (!r)
    ((sxStore w3 ⟨b1, 0, none⟩ 0 [(.int .i64 (0 : Int)), (.int .i64 (0 : Int)), (.int .i64 (0 : Int)), (.int .i64 (0 : Int)), (.int .i64 (0 : Int)), (.int .i64 (0 : Int)), (.int .i64 (0 : Int)), (.int .i64 (0 : Int)), (.slice none 0 0), (.int .i64 (0 : Int)), (.int .i64 (0 : Int)), (.int .i64 (0 : Int)), (.bool false)] fun w4 =>
    (∃ r_0 r_1 r_2 r_3 r_4 r_5 r_6 r_7 : Int, ∃ r_8_a : Option Addr, ∃ r_8_l r_8_c : Nat, ∃ r_9 r_10 r_11 : Int, ∃ r_12 : Bool, cellsAt w4 ⟨b1, 0, none⟩ 0 [(.int .i64 r_0), (.int .i64 r_1), (.int .i64 r_2), (.int .i64 r_3), (.int .i64 r_4), (.int .i64 r_5), (.int .i64 r_6), (.int .i64 r_7), (.slice r_8_a r_8_l r_8_c), (.int .i64 r_9), (.int .i64 r_10), (.int .i64 r_11), (.bool r_12)] ∧
    R (.tuple #[(.agg #[.int .i64 r_0, .int .i64 r_1, .int .i64 r_2, .int .i64 r_3, .int .i64 r_4, .int .i64 r_5, .int .i64 r_6, .int .i64 r_7, .slice r_8_a r_8_l r_8_c, .int .i64 r_9, .int .i64 r_10, .int .i64 r_11, .bool r_12]), (.int .i64 (3 : Int))]) w4)))
    ((∃ x_01 x_11 x_21 x_31 x_41 x_51 : Int, cellsAt w3 ⟨b, 0, none⟩ 0 [(.int .i64 x_01), (.int .i64 x_11), (.int .i64 x_21), (.int .i64 x_31), (.int .i64 x_41), (.int .i64 x_51)] ∧
    (sxStore w3 ⟨b1, 0, none⟩ 0 [(.int .i64 x_01), (.int .i64 x_11), (.int .i64 x_21), (.int .i64 x_31), (.int .i64 x_41), (.int .i64 x_51), (.int .i64 (0 : Int)), (.int .i64 (0 : Int)), (.slice none 0 0), (.int .i64 (0 : Int)), (.int .i64 (-1 : Int)), (.int .i64 (0 : Int)), (.bool false)] fun w5 =>
    (∃ r_01 r_13 r_21 r_31 r_41 r_51 r_61 r_71 : Int, ∃ r_8_a1 : Option Addr, ∃ r_8_l1 r_8_c1 : Nat, ∃ r_91 r_101 r_111 : Int, ∃ r_121 : Bool, cellsAt w5 ⟨b1, 0, none⟩ 0 [(.int .i64 r_01), (.int .i64 r_13), (.int .i64 r_21), (.int .i64 r_31), (.int .i64 r_41), (.int .i64 r_51), (.int .i64 r_61), (.int .i64 r_71), (.slice r_8_a1 r_8_l1 r_8_c1), (.int .i64 r_91), (.int .i64 r_101), (.int .i64 r_111), (.bool r_121)] ∧
    R (.tuple #[(.agg #[.int .i64 r_01, .int .i64 r_13, .int .i64 r_21, .int .i64 r_31, .int .i64 r_41, .int .i64 r_51, .int .i64 r_61, .int .i64 r_71, .slice r_8_a1 r_8_l1 r_8_c1, .int .i64 r_91, .int .i64 r_101, .int .i64 r_111, .bool r_121]), (.int .i64 (0 : Int))]) w5)))))))))
theorem F_ref20_New_eq (l_0 : Int) (l_1 : Int) (l_2 : Int) (l_3 : Int) (l_4 : Int) (l_5 : Int) (w : World) (R : Value → World → Prop) : sxFn Try.prog TT h_ref20_New Try.f28 #[(.agg #[.int .i64 l_0, .int .i64 l_1, .int .i64 l_2, .int .i64 l_3, .int .i64 l_4, .int .i64 l_5])] w R = F_ref20_New l_0 l_1 l_2 l_3 l_4 l_5 w R := by kernel_rfl
theorem F_ref20_New_ok {R : Ending → World → Prop} (l_0 : Int) (l_1 : Int) (l_2 : Int) (l_3 : Int) (l_4 : Int) (l_5 : Int) (w : World) (h : F_ref20_New l_0 l_1 l_2 l_3 l_4 l_5 w fun v w' => R (.returned v) w') : Calls Try.prog N_ref20_New #[(.agg #[.int .i64 l_0, .int .i64 l_1, .int .i64 l_2, .int .i64 l_3, .int .i64 l_4, .int .i64 l_5])] w R :=
  calls_of (f := 28) follows_ok Try.func28 (Eq.mpr (F_ref20_New_eq l_0 l_1 l_2 l_3 l_4 l_5 w _) h)

def h_sender_ValidLink : H := (.seq .reg (.cut [(3, .p .bool)] [3, 4, 5, 6, 7, 8, 9, 10, 11, 12, 13, 14, 15, 16] .reg (.seq .reg .leaf)))
def F_sender_ValidLink (l_0 : Int) (l_1 : Int) (l_2 : Int) (l_3 : Int) (l_4 : Int) (l_5 : Int) (w : World) (R : Value → World → Prop) : Prop :=
  (kAlloc w #[(.int .i64 l_0), (.int .i64 l_1), (.int .i64 l_2), (.int .i64 l_3), (.int .i64 l_4), (.int .i64 l_5)] Ty_api_Link fun b w1 =>
  (∃ J : Bool → World → Prop,
  (∀ (_junk : Env) (times : Bool) (w5 : World), J times w5 →
    (kLd w5 ⟨b, 0, none⟩ .i64 fun x3 =>
    (Calls Try.prog N_counter_Bits #[(.int .i64 x3)] w5 fun e_3 w6 =>
    ∃ r3 : Bool, e_3 = .returned (.bool r3) ∧
    (bsplit r3
      ((kLd w6 ⟨b, 1, none⟩ .i64 fun x4 =>
      (Calls Try.prog N_sender_between #[(.int .i64 x4), (.int .i64 (1 : Int)), (.int .i64 (64 : Int))] w6 fun e_4 w7 =>
      ∃ r4 : Bool, e_4 = .returned (.bool r4) ∧
      (bsplit r4
        ((bsplit times
          ((kLd w7 ⟨b, 5, none⟩ .i64 fun x5 =>
          (Calls Try.prog N_sender_between #[(.int .i64 x5), (.int .i64 (1 : Int)), (.int .i64 (32 : Int))] w7 fun e_5 w8 =>
          ∃ r5 : Bool, e_5 = .returned (.bool r5) ∧
          R (.bool r5) w8)))
          (R (.bool false) w7)))
        (R (.bool false) w7)))))
      (R (.bool false) w6))))) ∧
  (kLd w1 ⟨b, 2, none⟩ .i64 fun x =>
  (Calls Try.prog N_sender_between #[(.int .i64 x), (.int .i64 (1 : Int)), (.int .i64 (1000 : Int))] w1 fun e_ w2 =>
  ∃ r : Bool, e_ = .returned (.bool r) ∧
  (bsplit r
    ((kLd w2 ⟨b, 3, none⟩ .i64 fun x1 =>
    (Calls Try.prog N_sender_between #[(.int .i64 x1), (.int .i64 (1 : Int)), (.int .i64 (1000 : Int))] w2 fun e_1 w3 =>
    ∃ r1 : Bool, e_1 = .returned (.bool r1) ∧
    (bsplit r1
      ((kLd w3 ⟨b, 4, none⟩ .i64 fun x2 =>
      (Calls Try.prog N_sender_between #[(.int .i64 x2), (.int .i64 (0 : Int)), (.int .i64 (1000 : Int))] w3 fun e_2 w4 =>
      ∃ r2 : Bool, e_2 = .returned (.bool r2) ∧
      J r2 w4)))
      (J false w3)))))
    (J false w2))))))
theorem F_sender_ValidLink_eq (l_0 : Int) (l_1 : Int) (l_2 : Int) (l_3 : Int) (l_4 : Int) (l_5 : Int) (w : World) (R : Value → World → Prop) : sxFn Try.prog TT h_sender_ValidLink Try.f29 #[(.agg #[.int .i64 l_0, .int .i64 l_1, .int .i64 l_2, .int .i64 l_3, .int .i64 l_4, .int .i64 l_5])] w R = F_sender_ValidLink l_0 l_1 l_2 l_3 l_4 l_5 w R := by kernel_rfl
theorem F_sender_ValidLink_ok {R : Ending → World → Prop} (l_0 : Int) (l_1 : Int) (l_2 : Int) (l_3 : Int) (l_4 : Int) (l_5 : Int) (w : World) (h : F_sender_ValidLink l_0 l_1 l_2 l_3 l_4 l_5 w fun v w' => R (.returned v) w') : Calls Try.prog N_sender_ValidLink #[(.agg #[.int .i64 l_0, .int .i64 l_1, .int .i64 l_2, .int .i64 l_3, .int .i64 l_4, .int .i64 l_5])] w R :=
  calls_of (f := 29) follows_ok Try.func29 (Eq.mpr (F_sender_ValidLink_eq l_0 l_1 l_2 l_3 l_4 l_5 w _) h)

def h_ref20_ValidLink : H := (.seq .reg (.seq .reg .leaf))
def F_ref20_ValidLink (l_0 : Int) (l_1 : Int) (l_2 : Int) (l_3 : Int) (l_4 : Int) (l_5 : Int) (w : World) (R : Value → World → Prop) : Prop :=
  (kAlloc w #[(.int .i64 l_0), (.int .i64 l_1), (.int .i64 l_2), (.int .i64 l_3), (.int .i64 l_4), (.int .i64 l_5)] Ty_api_Link fun b w1 =>
  (kLd w1 ⟨b, 0, none⟩ .i64 fun x =>
  (Calls Try.prog N_ref15_Bits #[(.int .i64 x)] w1 fun e_ w2 =>
  ∃ r : Bool, e_ = .returned (.bool r) ∧
  (bsplit r
    ((kLd w2 ⟨b, 1, none⟩ .i64 fun x1 =>
    (bsplit (decide (x1 ≥ (1 : Int)))
      ((kLd w2 ⟨b, 1, none⟩ .i64 fun x2 =>
      (bsplit (decide (x2 ≤ (64 : Int)))
        ((kLd w2 ⟨b, 2, none⟩ .i64 fun x3 =>
        (bsplit (decide (x3 ≥ (1 : Int)))
          ((kLd w2 ⟨b, 2, none⟩ .i64 fun x4 =>
          (bsplit (decide (x4 ≤ (1000 : Int)))
            ((kLd w2 ⟨b, 3, none⟩ .i64 fun x5 =>
            (bsplit (decide (x5 ≥ (1 : Int)))
              ((kLd w2 ⟨b, 3, none⟩ .i64 fun x6 =>
              (bsplit (decide (x6 ≤ (1000 : Int)))
                ((kLd w2 ⟨b, 4, none⟩ .i64 fun x7 =>
                (bsplit (decide (x7 ≥ (0 : Int)))
                  ((kLd w2 ⟨b, 4, none⟩ .i64 fun x8 =>
                  (bsplit (decide (x8 ≤ (1000 : Int)))
                    ((kLd w2 ⟨b, 5, none⟩ .i64 fun x9 =>
                    (bsplit (decide (x9 ≥ (1 : Int)))
                      ((kLd w2 ⟨b, 5, none⟩ .i64 fun x10 =>
                      (kLet (decide (x10 ≤ (32 : Int))) fun x11 =>
                      R (.bool x11) w2)))
                      (R (.bool false) w2))))
                    (R (.bool false) w2))))
                  (R (.bool false) w2))))
                (R (.bool false) w2))))
              (R (.bool false) w2))))
            (R (.bool false) w2))))
          (R (.bool false) w2))))
        (R (.bool false) w2))))
      (R (.bool false) w2))))
    (R (.bool false) w2)))))
theorem F_ref20_ValidLink_eq (l_0 : Int) (l_1 : Int) (l_2 : Int) (l_3 : Int) (l_4 : Int) (l_5 : Int) (w : World) (R : Value → World → Prop) : sxFn Try.prog TT h_ref20_ValidLink Try.f30 #[(.agg #[.int .i64 l_0, .int .i64 l_1, .int .i64 l_2, .int .i64 l_3, .int .i64 l_4, .int .i64 l_5])] w R = F_ref20_ValidLink l_0 l_1 l_2 l_3 l_4 l_5 w R := by kernel_rfl
theorem F_ref20_ValidLink_ok {R : Ending → World → Prop} (l_0 : Int) (l_1 : Int) (l_2 : Int) (l_3 : Int) (l_4 : Int) (l_5 : Int) (w : World) (h : F_ref20_ValidLink l_0 l_1 l_2 l_3 l_4 l_5 w fun v w' => R (.returned v) w') : Calls Try.prog N_ref20_ValidLink #[(.agg #[.int .i64 l_0, .int .i64 l_1, .int .i64 l_2, .int .i64 l_3, .int .i64 l_4, .int .i64 l_5])] w R :=
  calls_of (f := 30) follows_ok Try.func30 (Eq.mpr (F_ref20_ValidLink_eq l_0 l_1 l_2 l_3 l_4 l_5 w _) h)

def h_ref20_Same : H := (.seq .reg (.seq (.cut [(63, .p .bool)] [8, 9, 10, 11, 12, 13, 14, 15, 16, 17, 18, 19, 20, 21, 22, 23, 24, 25, 26, 27, 28, 29, 30, 31, 32, 33, 34, 35, 36, 37, 38, 39, 40, 41, 42, 43, 44, 45, 46, 47, 48, 49, 50, 51, 52, 53, 54, 55, 56, 57, 58, 59, 60, 61, 62, 63] .reg (.cond (.seq .reg .leaf) .leaf)) (.seq (.seq .reg (.block (.loop [(5, .p (.int .i64))] [4, 5, 6, 7, 64, 65, 66, 67, 68, 69, 70, 71, 72, 73, 74, 75, 76, 77, 78, 79, 80, 81, 82, 83, 84, 85, 86, 87, 88, 89, 90, 91, 92, 93, 94, 95, 96, 97, 98, 99, 100, 101, 102, 103, 104, 105, 106, 107, 108, 109, 110, 111, 112, 113, 114, 115] (.seq (.seq .reg (.cond .leaf .leaf)) (.seq (.block (.cut [(6, .p .addr), (7, .p .addr)] [6, 7, 71, 72, 73, 74, 75, 76, 77, 78, 79, 80] (.draw .blk (.one 0 .stable (.one 1 .stable (.one 2 .stable (.one 3 .stable (.one 4 .stable (.one 5 .stable (.one 6 .stable (.one 7 .stable (.one 8 .stable (.one 9 .stable (.alt 10 (.one 11 .keep (.one 12 .keep (.one 13 .last .nil))) (.alt 11 (.one 10 .keep (.one 12 .keep (.one 13 .last .nil))) .endAlt))))))))))))) (.cut [(115, .p .bool)] [81, 82, 83, 84, 85, 86, 87, 88, 89, 90, 91, 92, 93, 94, 95, 96, 97, 98, 99, 100, 101, 102, 103, 104, 105, 106, 107, 108, 109, 110, 111, 112, 113, 114, 115] .reg (.cond (.seq .reg .leaf) .leaf)))) .reg))))) (.seq .reg .leaf))))
def F_ref20_Same (a_0 : Int) (a_1 : Int) (a_2 : Int) (a_3 : Int) (a_4 : Int) (a_5 : Int) (a_6 : Int) (a_7 : Int) (a_8_a : Option Addr) (a_8_l : Nat) (a_8_c : Nat) (a_9 : Int) (a_10 : Int) (a_11 : Int) (a_12 : Bool) (b_0 : Int) (b_1 : Int) (b_2 : Int) (b_3 : Int) (b_4 : Int) (b_5 : Int) (b_6 : Int) (b_7 : Int) (b_8_a : Option Addr) (b_8_l : Nat) (b_8_c : Nat) (b_9 : Int) (b_10 : Int) (b_11 : Int) (b_12 : Bool) (w : World) (R : Value → World → Prop) : Prop :=
  (kAlloc w #[(.int .i64 a_0), (.int .i64 a_1), (.int .i64 a_2), (.int .i64 a_3), (.int .i64 a_4), (.int .i64 a_5), (.int .i64 a_6), (.int .i64 a_7), (.slice a_8_a a_8_l a_8_c), (.int .i64 a_9), (.int .i64 a_10), (.int .i64 a_11), (.bool a_12)] Ty_api_Sender fun b w1 =>
  (kAlloc w1 #[(.int .i64 b_0), (.int .i64 b_1), (.int .i64 b_2), (.int .i64 b_3), (.int .i64 b_4), (.int .i64 b_5), (.int .i64 b_6), (.int .i64 b_7), (.slice b_8_a b_8_l b_8_c), (.int .i64 b_9), (.int .i64 b_10), (.int .i64 b_11), (.bool b_12)] Ty_api_Sender fun b1 w2 =>
  (∃ J : Bool → World → Prop,
  (∀ (_junk : Env) (x12 : Bool) (w3 : World), J x12 w3 →
    (bsplit x12
      (R (.bool false) w3)
      ((∃ I : Int → Nat × (World → Prop), (I (0 : Int)).2 w3 ∧
      (∀ (_junk : Env) (i : Int) (w4 : World), (I i).2 w4 →
        (kLdS w4 ⟨b, 8, none⟩ fun _ x_l2 _ =>
        (bsplit (decide (i < (x_l2 : Int)))
          ((∃ J1 : Addr → Addr → World → Prop,
          (∀ (_junk : Env) (x13 : Addr) (y : Addr) (w14 : World), J1 x13 y w14 →
            (∃ J2 : Bool → World → Prop,
            (∀ (_junk : Env) (x20 : Bool) (w17 : World), J2 x20 w17 →
              (bsplit x20
                (R (.bool false) w17)
                ((kW .i64 (i + (1 : Int)) fun x21 =>
                ((I x21).2 w17 ∧ (I x21).1 < (I i).1))))) ∧
            (kLd w14 x13 .i64 fun x14 =>
            (kLd w14 y .i64 fun x15 =>
            (bsplit (!decide (x14 = x15))
              (J2 true w14)
              ((kLd w14 (x13.add 2) .i64 fun x16 =>
              (kLd w14 (y.add 2) .i64 fun x17 =>
              (bsplit (!decide (x16 = x17))
                (J2 true w14)
                ((kLd w14 (x13.add 3) .i64 fun x18 =>
                (kLd w14 (y.add 3) .i64 fun x19 =>
                (bsplit (!decide (x18 = x19))
                  (J2 true w14)
                  ((kLdS w14 (x13.add 1) fun x_a5 x_l5 x_c5 =>
                  (kLdS w14 (y.add 1) fun x_a6 x_l6 x_c6 =>
                  (Calls Try.prog N_ref01_Same #[(.slice x_a5 x_l5 x_c5), (.slice x_a6 x_l6 x_c6)] w14 fun e_ w15 =>
                  ∃ r1 : Bool, e_ = .returned (.bool r1) ∧
                  (bsplit (!r1)
                    (J2 true w15)
                    ((kLdS w15 (x13.add 4) fun x_a7 x_l7 x_c7 =>
                    (kLdS w15 (y.add 4) fun x_a8 x_l8 x_c8 =>
                    (Calls Try.prog N_ref18_SameRanges #[(.slice x_a7 x_l7 x_c7), (.slice x_a8 x_l8 x_c8)] w15 fun e_1 w16 =>
                    ∃ r2 : Bool, e_1 = .returned (.bool r2) ∧
                    J2 (!r2) w16)))))))))))))))))))))) ∧
          (kDrew w4 fun w5 =>
          (∃ S : Nat → Prop,
          (S b ∧
          (kLdS w5 ⟨b, 8, none⟩ fun x_a3 x_l3 _ =>
          (kIx x_a3 x_l3 i fun b2 =>
          (S (b2.add (i.toNat * 5)).block ∧
          (∃ x_02 : Int, ∃ x_1_a : Option Addr, ∃ x_1_l x_1_c : Nat, ∃ x_22 x_32 : Int, ∃ x_4_a : Option Addr, ∃ x_4_l x_4_c : Nat, cellsAt w5 (b2.add (i.toNat * 5)) 0 [(.int .i64 x_02), (.slice x_1_a x_1_l x_1_c), (.int .i64 x_22), (.int .i64 x_32), (.slice x_4_a x_4_l x_4_c)] ∧
          (S b1 ∧
          (kLdS w5 ⟨b1, 8, none⟩ fun x_a4 x_l4 _ =>
          (kIx x_a4 x_l4 i fun b3 =>
          (S (b3.add (i.toNat * 5)).block ∧
          (∃ x_03 : Int, ∃ x_1_a1 : Option Addr, ∃ x_1_l1 x_1_c1 : Nat, ∃ x_23 x_33 : Int, ∃ x_4_a1 : Option Addr, ∃ x_4_l1 x_4_c1 : Nat, cellsAt w5 (b3.add (i.toNat * 5)) 0 [(.int .i64 x_03), (.slice x_1_a1 x_1_l1 x_1_c1), (.int .i64 x_23), (.int .i64 x_33), (.slice x_4_a1 x_4_l1 x_4_c1)] ∧
          ((kAlloc w5 #[.int .i64 (0 : Int), .slice none 0 0, .int .i64 (0 : Int), .int .i64 (0 : Int), .slice none 0 0] Ty_api_Unit fun b6 w10 =>
          (KeepsB S w5 w10 ∧ (kAlloc w10 #[.int .i64 (0 : Int), .slice none 0 0, .int .i64 (0 : Int), .int .i64 (0 : Int), .slice none 0 0] Ty_api_Unit fun b7 w11 =>
          (KeepsB S w5 w11 ∧ (sxStore w11 ⟨b6, 0, none⟩ 0 [(.int .i64 x_02), (.slice x_1_a x_1_l x_1_c), (.int .i64 x_22), (.int .i64 x_32), (.slice x_4_a x_4_l x_4_c)] fun w12 =>
          (KeepsB S w5 w12 ∧ (sxStore w12 ⟨b7, 0, none⟩ 0 [(.int .i64 x_03), (.slice x_1_a1 x_1_l1 x_1_c1), (.int .i64 x_23), (.int .i64 x_33), (.slice x_4_a1 x_4_l1 x_4_c1)] fun w13 =>
          J1 ⟨b6, 0, none⟩ ⟨b7, 0, none⟩ w13))))))) ∧
          ((kAlloc w5 #[.int .i64 (0 : Int), .slice none 0 0, .int .i64 (0 : Int), .int .i64 (0 : Int), .slice none 0 0] Ty_api_Unit fun b4 w6 =>
          (KeepsB S w5 w6 ∧ (kAlloc w6 #[.int .i64 (0 : Int), .slice none 0 0, .int .i64 (0 : Int), .int .i64 (0 : Int), .slice none 0 0] Ty_api_Unit fun b5 w7 =>
          (KeepsB S w5 w7 ∧ (sxStore w7 ⟨b5, 0, none⟩ 0 [(.int .i64 x_02), (.slice x_1_a x_1_l x_1_c), (.int .i64 x_22), (.int .i64 x_32), (.slice x_4_a x_4_l x_4_c)] fun w8 =>
          (KeepsB S w5 w8 ∧ (sxStore w8 ⟨b4, 0, none⟩ 0 [(.int .i64 x_03), (.slice x_1_a1 x_1_l1 x_1_c1), (.int .i64 x_23), (.int .i64 x_33), (.slice x_4_a1 x_4_l1 x_4_c1)] fun w9 =>
          J1 ⟨b5, 0, none⟩ ⟨b4, 0, none⟩ w9))))))) ∧
          True))))))))))))))))
          (R (.bool true) w4)))))))) ∧
  (∃ x_0 x_1 x_2 x_3 x_4 x_5 : Int, cellsAt w2 ⟨b, 0, none⟩ 0 [(.int .i64 x_0), (.int .i64 x_1), (.int .i64 x_2), (.int .i64 x_3), (.int .i64 x_4), (.int .i64 x_5)] ∧
  (∃ x_01 x_11 x_21 x_31 x_41 x_51 : Int, cellsAt w2 ⟨b1, 0, none⟩ 0 [(.int .i64 x_01), (.int .i64 x_11), (.int .i64 x_21), (.int .i64 x_31), (.int .i64 x_41), (.int .i64 x_51)] ∧
  (EqP Try.prog .neq Ty_api_Link (.tmp 9) (.tmp 11) (.agg #[.int .i64 x_0, .int .i64 x_1, .int .i64 x_2, .int .i64 x_3, .int .i64 x_4, .int .i64 x_5]) (.agg #[.int .i64 x_01, .int .i64 x_11, .int .i64 x_21, .int .i64 x_31, .int .i64 x_41, .int .i64 x_51]) fun r =>
  (bsplit r
    (J true w2)
    ((kLd w2 ⟨b, 6, none⟩ .i64 fun x =>
    (kLd w2 ⟨b1, 6, none⟩ .i64 fun x1 =>
    (bsplit (!decide (x = x1))
      (J true w2)
      ((kLd w2 ⟨b, 7, none⟩ .i64 fun x2 =>
      (kLd w2 ⟨b1, 7, none⟩ .i64 fun x3 =>
      (bsplit (!decide (x2 = x3))
        (J true w2)
        ((kLd w2 ⟨b, 9, none⟩ .i64 fun x4 =>
        (kLd w2 ⟨b1, 9, none⟩ .i64 fun x5 =>
        (bsplit (!decide (x4 = x5))
          (J true w2)
          ((kLd w2 ⟨b, 10, none⟩ .i64 fun x6 =>
          (kLd w2 ⟨b1, 10, none⟩ .i64 fun x7 =>
          (bsplit (!decide (x6 = x7))
            (J true w2)
            ((kLd w2 ⟨b, 11, none⟩ .i64 fun x8 =>
            (kLd w2 ⟨b1, 11, none⟩ .i64 fun x9 =>
            (bsplit (!decide (x8 = x9))
              (J true w2)
              ((kLdB w2 ⟨b, 12, none⟩ fun x10 =>
              (kLdB w2 ⟨b1, 12, none⟩ fun x11 =>
              (bsplit (!(x10 == x11))
                (J true w2)
                ((kLdS w2 ⟨b, 8, none⟩ fun _ x_l _ =>
                (kLdS w2 ⟨b1, 8, none⟩ fun _ x_l1 _ =>
                J (!decide ((x_l : Int) = (x_l1 : Int))) w2))))))))))))))))))))))))))))))))))
theorem F_ref20_Same_eq (a_0 : Int) (a_1 : Int) (a_2 : Int) (a_3 : Int) (a_4 : Int) (a_5 : Int) (a_6 : Int) (a_7 : Int) (a_8_a : Option Addr) (a_8_l : Nat) (a_8_c : Nat) (a_9 : Int) (a_10 : Int) (a_11 : Int) (a_12 : Bool) (b_0 : Int) (b_1 : Int) (b_2 : Int) (b_3 : Int) (b_4 : Int) (b_5 : Int) (b_6 : Int) (b_7 : Int) (b_8_a : Option Addr) (b_8_l : Nat) (b_8_c : Nat) (b_9 : Int) (b_10 : Int) (b_11 : Int) (b_12 : Bool) (w : World) (R : Value → World → Prop) : sxFn Try.prog TT h_ref20_Same Try.f31 #[(.agg #[.int .i64 a_0, .int .i64 a_1, .int .i64 a_2, .int .i64 a_3, .int .i64 a_4, .int .i64 a_5, .int .i64 a_6, .int .i64 a_7, .slice a_8_a a_8_l a_8_c, .int .i64 a_9, .int .i64 a_10, .int .i64 a_11, .bool a_12]), (.agg #[.int .i64 b_0, .int .i64 b_1, .int .i64 b_2, .int .i64 b_3, .int .i64 b_4, .int .i64 b_5, .int .i64 b_6, .int .i64 b_7, .slice b_8_a b_8_l b_8_c, .int .i64 b_9, .int .i64 b_10, .int .i64 b_11, .bool b_12])] w R = F_ref20_Same a_0 a_1 a_2 a_3 a_4 a_5 a_6 a_7 a_8_a a_8_l a_8_c a_9 a_10 a_11 a_12 b_0 b_1 b_2 b_3 b_4 b_5 b_6 b_7 b_8_a b_8_l b_8_c b_9 b_10 b_11 b_12 w R := by kernel_rfl
theorem F_ref20_Same_ok {R : Ending → World → Prop} (a_0 : Int) (a_1 : Int) (a_2 : Int) (a_3 : Int) (a_4 : Int) (a_5 : Int) (a_6 : Int) (a_7 : Int) (a_8_a : Option Addr) (a_8_l : Nat) (a_8_c : Nat) (a_9 : Int) (a_10 : Int) (a_11 : Int) (a_12 : Bool) (b_0 : Int) (b_1 : Int) (b_2 : Int) (b_3 : Int) (b_4 : Int) (b_5 : Int) (b_6 : Int) (b_7 : Int) (b_8_a : Option Addr) (b_8_l : Nat) (b_8_c : Nat) (b_9 : Int) (b_10 : Int) (b_11 : Int) (b_12 : Bool) (w : World) (h : F_ref20_Same a_0 a_1 a_2 a_3 a_4 a_5 a_6 a_7 a_8_a a_8_l a_8_c a_9 a_10 a_11 a_12 b_0 b_1 b_2 b_3 b_4 b_5 b_6 b_7 b_8_a b_8_l b_8_c b_9 b_10 b_11 b_12 w fun v w' => R (.returned v) w') : Calls Try.prog N_ref20_Same #[(.agg #[.int .i64 a_0, .int .i64 a_1, .int .i64 a_2, .int .i64 a_3, .int .i64 a_4, .int .i64 a_5, .int .i64 a_6, .int .i64 a_7, .slice a_8_a a_8_l a_8_c, .int .i64 a_9, .int .i64 a_10, .int .i64 a_11, .bool a_12]), (.agg #[.int .i64 b_0, .int .i64 b_1, .int .i64 b_2, .int .i64 b_3, .int .i64 b_4, .int .i64 b_5, .int .i64 b_6, .int .i64 b_7, .slice b_8_a b_8_l b_8_c, .int .i64 b_9, .int .i64 b_10, .int .i64 b_11, .bool b_12])] w R :=
  calls_of (f := 31) follows_ok Try.func31 (Eq.mpr (F_ref20_Same_eq a_0 a_1 a_2 a_3 a_4 a_5 a_6 a_7 a_8_a a_8_l a_8_c a_9 a_10 a_11 a_12 b_0 b_1 b_2 b_3 b_4 b_5 b_6 b_7 b_8_a b_8_l b_8_c b_9 b_10 b_11 b_12 w _) h)

def h_law20_agree : H := (.seq .reg (.seq .reg (.seq .reg (.seq .reg (.seq .reg (.seq .reg (.seq .reg (.seq .reg (.seq .reg (.seq (.draw .blk (.one 0 .pre (.one 2 .stable (.one 1 .keep (.one 3 .keep (.one 4 .pur (.one 5 .pur (.one 6 .pur (.one 7 .pur (.one 8 .pur (.one 9 .pur (.one 10 .pur (.one 11 .stable (.one 12 .stable (.one 13 .keep (.one 14 .pur (.one 15 .pur (.one 16 .pur (.one 17 .pur (.one 18 .pur (.one 19 .pur (.one 20 .pur (.one 21 .pur (.one 22 .pur (.one 23 .keep (.one 24 .pur (.one 25 .pur (.one 26 .stable (.one 27 .stable (.one 28 .keep (.one 29 .pur (.one 30 .pur (.one 31 .pur (.one 32 .pur (.one 33 .pur (.one 34 .pur (.one 35 .pur (.one 36 .stable (.one 37 .stable (.one 38 .keep (.one 39 .pur (.one 40 .pur (.one 41 .pur (.one 42 .pur (.one 43 .pur (.one 44 .pur (.one 45 .pur (.one 46 .stable (.one 47 .stable (.one 48 .last (.one 49 .pur (.one 50 .pur .nil)))))))))))))))))))))))))))))))))))))))))))))))))))) .leaf))))))))))
def F_law20_agree (s_0 : Int) (s_1 : Int) (s_2 : Int) (s_3 : Int) (s_4 : Int) (s_5 : Int) (s_6 : Int) (s_7 : Int) (s_8_a : Option Addr) (s_8_l : Nat) (s_8_c : Nat) (s_9 : Int) (s_10 : Int) (s_11 : Int) (s_12 : Bool) (data_a : Option Addr) (data_l : Nat) (data_c : Nat) (size : Int) (r_0 : Int) (r_1_a : Option Addr) (r_1_l : Nat) (r_1_c : Nat) (w : World) (R : Value → World → Prop) : Prop :=
  (kAlloc w #[(.int .i64 s_0), (.int .i64 s_1), (.int .i64 s_2), (.int .i64 s_3), (.int .i64 s_4), (.int .i64 s_5), (.int .i64 s_6), (.int .i64 s_7), (.slice s_8_a s_8_l s_8_c), (.int .i64 s_9), (.int .i64 s_10), (.int .i64 s_11), (.bool s_12)] Ty_api_Sender fun b w1 =>
  (kAlloc w1 #[(.int .i64 r_0), (.slice r_1_a r_1_l r_1_c)] Ty_api_Status fun b1 w2 =>
  (∃ x_0 x_1 x_2 x_3 x_4 x_5 x_6 x_7 : Int, ∃ x_8_a : Option Addr, ∃ x_8_l x_8_c : Nat, ∃ x_9 x_10 x_11 : Int, ∃ x_12 : Bool, cellsAt w2 ⟨b, 0, none⟩ 0 [(.int .i64 x_0), (.int .i64 x_1), (.int .i64 x_2), (.int .i64 x_3), (.int .i64 x_4), (.int .i64 x_5), (.int .i64 x_6), (.int .i64 x_7), (.slice x_8_a x_8_l x_8_c), (.int .i64 x_9), (.int .i64 x_10), (.int .i64 x_11), (.bool x_12)] ∧
  (Calls Try.prog N_sender_Submit #[(.agg #[.int .i64 x_0, .int .i64 x_1, .int .i64 x_2, .int .i64 x_3, .int .i64 x_4, .int .i64 x_5, .int .i64 x_6, .int .i64 x_7, .slice x_8_a x_8_l x_8_c, .int .i64 x_9, .int .i64 x_10, .int .i64 x_11, .bool x_12]), (.slice data_a data_l data_c)] w2 fun e_ w3 =>
  ∃ r_01 r_1 r_2 r_3 r_4 r_5 r_6 r_7 : Int, ∃ r_8_a : Option Addr, ∃ r_8_l r_8_c : Nat, ∃ r_9 r_10 r_11 : Int, ∃ r_12 : Bool, ∃ r : Int, e_ = .returned (.tuple #[(.agg #[.int .i64 r_01, .int .i64 r_1, .int .i64 r_2, .int .i64 r_3, .int .i64 r_4, .int .i64 r_5, .int .i64 r_6, .int .i64 r_7, .slice r_8_a r_8_l r_8_c, .int .i64 r_9, .int .i64 r_10, .int .i64 r_11, .bool r_12]), (.int .i64 r)]) ∧
  (kAlloc w3 #[.int .i64 (0 : Int), .int .i64 (0 : Int), .int .i64 (0 : Int), .int .i64 (0 : Int), .int .i64 (0 : Int), .int .i64 (0 : Int), .int .i64 (0 : Int), .int .i64 (0 : Int), .slice none 0 0, .int .i64 (0 : Int), .int .i64 (0 : Int), .int .i64 (0 : Int), .bool false] Ty_api_Sender fun b2 w4 =>
  (sxStore w4 ⟨b2, 0, none⟩ 0 [(.int .i64 r_01), (.int .i64 r_1), (.int .i64 r_2), (.int .i64 r_3), (.int .i64 r_4), (.int .i64 r_5), (.int .i64 r_6), (.int .i64 r_7), (.slice r_8_a r_8_l r_8_c), (.int .i64 r_9), (.int .i64 r_10), (.int .i64 r_11), (.bool r_12)] fun w5 =>
  (∃ x_01 x_13 x_21 x_31 x_41 x_51 x_61 x_71 : Int, ∃ x_8_a1 : Option Addr, ∃ x_8_l1 x_8_c1 : Nat, ∃ x_91 x_101 x_111 : Int, ∃ x_121 : Bool, cellsAt w5 ⟨b, 0, none⟩ 0 [(.int .i64 x_01), (.int .i64 x_13), (.int .i64 x_21), (.int .i64 x_31), (.int .i64 x_41), (.int .i64 x_51), (.int .i64 x_61), (.int .i64 x_71), (.slice x_8_a1 x_8_l1 x_8_c1), (.int .i64 x_91), (.int .i64 x_101), (.int .i64 x_111), (.bool x_121)] ∧
  (Calls Try.prog N_ref20_Submit #[(.agg #[.int .i64 x_01, .int .i64 x_13, .int .i64 x_21, .int .i64 x_31, .int .i64 x_41, .int .i64 x_51, .int .i64 x_61, .int .i64 x_71, .slice x_8_a1 x_8_l1 x_8_c1, .int .i64 x_91, .int .i64 x_101, .int .i64 x_111, .bool x_121]), (.slice data_a data_l data_c)] w5 fun e_1 w6 =>
  ∃ r_02 r_13 r_21 r_31 r_41 r_51 r_61 r_71 : Int, ∃ r_8_a1 : Option Addr, ∃ r_8_l1 r_8_c1 : Nat, ∃ r_91 r_101 r_111 : Int, ∃ r_121 : Bool, ∃ r1 : Int, e_1 = .returned (.tuple #[(.agg #[.int .i64 r_02, .int .i64 r_13, .int .i64 r_21, .int .i64 r_31, .int .i64 r_41, .int .i64 r_51, .int .i64 r_61, .int .i64 r_71, .slice r_8_a1 r_8_l1 r_8_c1, .int .i64 r_91, .int .i64 r_101, .int .i64 r_111, .bool r_121]), (.int .i64 r1)]) ∧
  (kAlloc w6 #[.int .i64 (0 : Int), .int .i64 (0 : Int), .int .i64 (0 : Int), .int .i64 (0 : Int), .int .i64 (0 : Int), .int .i64 (0 : Int), .int .i64 (0 : Int), .int .i64 (0 : Int), .slice none 0 0, .int .i64 (0 : Int), .int .i64 (0 : Int), .int .i64 (0 : Int), .bool false] Ty_api_Sender fun b3 w7 =>
  (sxStore w7 ⟨b3, 0, none⟩ 0 [(.int .i64 r_02), (.int .i64 r_13), (.int .i64 r_21), (.int .i64 r_31), (.int .i64 r_41), (.int .i64 r_51), (.int .i64 r_61), (.int .i64 r_71), (.slice r_8_a1 r_8_l1 r_8_c1), (.int .i64 r_91), (.int .i64 r_101), (.int .i64 r_111), (.bool r_121)] fun w8 =>
  (∃ x_02 x_14 x_22 x_32 x_42 x_52 x_62 x_72 : Int, ∃ x_8_a2 : Option Addr, ∃ x_8_l2 x_8_c2 : Nat, ∃ x_92 x_102 x_112 : Int, ∃ x_122 : Bool, cellsAt w8 ⟨b, 0, none⟩ 0 [(.int .i64 x_02), (.int .i64 x_14), (.int .i64 x_22), (.int .i64 x_32), (.int .i64 x_42), (.int .i64 x_52), (.int .i64 x_62), (.int .i64 x_72), (.slice x_8_a2 x_8_l2 x_8_c2), (.int .i64 x_92), (.int .i64 x_102), (.int .i64 x_112), (.bool x_122)] ∧
  (Calls Try.prog N_sender_Build #[(.agg #[.int .i64 x_02, .int .i64 x_14, .int .i64 x_22, .int .i64 x_32, .int .i64 x_42, .int .i64 x_52, .int .i64 x_62, .int .i64 x_72, .slice x_8_a2 x_8_l2 x_8_c2, .int .i64 x_92, .int .i64 x_102, .int .i64 x_112, .bool x_122]), (.int .i64 size)] w8 fun e_2 w9 =>
  ∃ r_03 r_14 r_22 r_32 r_42 r_52 r_62 r_72 : Int, ∃ r_8_a2 : Option Addr, ∃ r_8_l2 r_8_c2 : Nat, ∃ r_92 r_102 r_112 : Int, ∃ r_122 : Bool, ∃ r_a : Option Addr, ∃ r_l r_c : Nat, ∃ r2 : Int, e_2 = .returned (.tuple #[(.agg #[.int .i64 r_03, .int .i64 r_14, .int .i64 r_22, .int .i64 r_32, .int .i64 r_42, .int .i64 r_52, .int .i64 r_62, .int .i64 r_72, .slice r_8_a2 r_8_l2 r_8_c2, .int .i64 r_92, .int .i64 r_102, .int .i64 r_112, .bool r_122]), (.slice r_a r_l r_c), (.int .i64 r2)]) ∧
  (kAlloc w9 #[.int .i64 (0 : Int), .int .i64 (0 : Int), .int .i64 (0 : Int), .int .i64 (0 : Int), .int .i64 (0 : Int), .int .i64 (0 : Int), .int .i64 (0 : Int), .int .i64 (0 : Int), .slice none 0 0, .int .i64 (0 : Int), .int .i64 (0 : Int), .int .i64 (0 : Int), .bool false] Ty_api_Sender fun b4 w10 =>
  (sxStore w10 ⟨b4, 0, none⟩ 0 [(.int .i64 r_03), (.int .i64 r_14), (.int .i64 r_22), (.int .i64 r_32), (.int .i64 r_42), (.int .i64 r_52), (.int .i64 r_62), (.int .i64 r_72), (.slice r_8_a2 r_8_l2 r_8_c2), (.int .i64 r_92), (.int .i64 r_102), (.int .i64 r_112), (.bool r_122)] fun w11 =>
  (∃ x_03 x_15 x_23 x_33 x_43 x_53 x_63 x_73 : Int, ∃ x_8_a3 : Option Addr, ∃ x_8_l3 x_8_c3 : Nat, ∃ x_93 x_103 x_113 : Int, ∃ x_123 : Bool, cellsAt w11 ⟨b, 0, none⟩ 0 [(.int .i64 x_03), (.int .i64 x_15), (.int .i64 x_23), (.int .i64 x_33), (.int .i64 x_43), (.int .i64 x_53), (.int .i64 x_63), (.int .i64 x_73), (.slice x_8_a3 x_8_l3 x_8_c3), (.int .i64 x_93), (.int .i64 x_103), (.int .i64 x_113), (.bool x_123)] ∧
  (Calls Try.prog N_ref20_Build #[(.agg #[.int .i64 x_03, .int .i64 x_15, .int .i64 x_23, .int .i64 x_33, .int .i64 x_43, .int .i64 x_53, .int .i64 x_63, .int .i64 x_73, .slice x_8_a3 x_8_l3 x_8_c3, .int .i64 x_93, .int .i64 x_103, .int .i64 x_113, .bool x_123]), (.int .i64 size)] w11 fun e_3 w12 =>
  ∃ r_04 r_15 r_23 r_33 r_43 r_53 r_63 r_73 : Int, ∃ r_8_a3 : Option Addr, ∃ r_8_l3 r_8_c3 : Nat, ∃ r_93 r_103 r_113 : Int, ∃ r_123 : Bool, ∃ r_a1 : Option Addr, ∃ r_l1 r_c1 : Nat, ∃ r3 : Int, e_3 = .returned (.tuple #[(.agg #[.int .i64 r_04, .int .i64 r_15, .int .i64 r_23, .int .i64 r_33, .int .i64 r_43, .int .i64 r_53, .int .i64 r_63, .int .i64 r_73, .slice r_8_a3 r_8_l3 r_8_c3, .int .i64 r_93, .int .i64 r_103, .int .i64 r_113, .bool r_123]), (.slice r_a1 r_l1 r_c1), (.int .i64 r3)]) ∧
  (kAlloc w12 #[.int .i64 (0 : Int), .int .i64 (0 : Int), .int .i64 (0 : Int), .int .i64 (0 : Int), .int .i64 (0 : Int), .int .i64 (0 : Int), .int .i64 (0 : Int), .int .i64 (0 : Int), .slice none 0 0, .int .i64 (0 : Int), .int .i64 (0 : Int), .int .i64 (0 : Int), .bool false] Ty_api_Sender fun b5 w13 =>
  (sxStore w13 ⟨b5, 0, none⟩ 0 [(.int .i64 r_04), (.int .i64 r_15), (.int .i64 r_23), (.int .i64 r_33), (.int .i64 r_43), (.int .i64 r_53), (.int .i64 r_63), (.int .i64 r_73), (.slice r_8_a3 r_8_l3 r_8_c3), (.int .i64 r_93), (.int .i64 r_103), (.int .i64 r_113), (.bool r_123)] fun w14 =>
  (∃ x_04 x_16 x_24 x_34 x_44 x_54 x_64 x_74 : Int, ∃ x_8_a4 : Option Addr, ∃ x_8_l4 x_8_c4 : Nat, ∃ x_94 x_104 x_114 : Int, ∃ x_124 : Bool, cellsAt w14 ⟨b, 0, none⟩ 0 [(.int .i64 x_04), (.int .i64 x_16), (.int .i64 x_24), (.int .i64 x_34), (.int .i64 x_44), (.int .i64 x_54), (.int .i64 x_64), (.int .i64 x_74), (.slice x_8_a4 x_8_l4 x_8_c4), (.int .i64 x_94), (.int .i64 x_104), (.int .i64 x_114), (.bool x_124)] ∧
  (∃ x_05 : Int, ∃ x_1_a : Option Addr, ∃ x_1_l x_1_c : Nat, cellsAt w14 ⟨b1, 0, none⟩ 0 [(.int .i64 x_05), (.slice x_1_a x_1_l x_1_c)] ∧
  (Calls Try.prog N_sender_Report #[(.agg #[.int .i64 x_04, .int .i64 x_16, .int .i64 x_24, .int .i64 x_34, .int .i64 x_44, .int .i64 x_54, .int .i64 x_64, .int .i64 x_74, .slice x_8_a4 x_8_l4 x_8_c4, .int .i64 x_94, .int .i64 x_104, .int .i64 x_114, .bool x_124]), (.agg #[.int .i64 x_05, .slice x_1_a x_1_l x_1_c])] w14 fun e_4 w15 =>
  ∃ r_05 r_16 r_24 r_34 r_44 r_54 r_64 r_74 : Int, ∃ r_8_a4 : Option Addr, ∃ r_8_l4 r_8_c4 : Nat, ∃ r_94 r_104 r_114 : Int, ∃ r_124 : Bool, ∃ r4 : Int, e_4 = .returned (.tuple #[(.agg #[.int .i64 r_05, .int .i64 r_16, .int .i64 r_24, .int .i64 r_34, .int .i64 r_44, .int .i64 r_54, .int .i64 r_64, .int .i64 r_74, .slice r_8_a4 r_8_l4 r_8_c4, .int .i64 r_94, .int .i64 r_104, .int .i64 r_114, .bool r_124]), (.int .i64 r4)]) ∧
  (kAlloc w15 #[.int .i64 (0 : Int), .int .i64 (0 : Int), .int .i64 (0 : Int), .int .i64 (0 : Int), .int .i64 (0 : Int), .int .i64 (0 : Int), .int .i64 (0 : Int), .int .i64 (0 : Int), .slice none 0 0, .int .i64 (0 : Int), .int .i64 (0 : Int), .int .i64 (0 : Int), .bool false] Ty_api_Sender fun b6 w16 =>
  (sxStore w16 ⟨b6, 0, none⟩ 0 [(.int .i64 r_05), (.int .i64 r_16), (.int .i64 r_24), (.int .i64 r_34), (.int .i64 r_44), (.int .i64 r_54), (.int .i64 r_64), (.int .i64 r_74), (.slice r_8_a4 r_8_l4 r_8_c4), (.int .i64 r_94), (.int .i64 r_104), (.int .i64 r_114), (.bool r_124)] fun w17 =>
  (∃ x_06 x_17 x_25 x_35 x_45 x_55 x_65 x_75 : Int, ∃ x_8_a5 : Option Addr, ∃ x_8_l5 x_8_c5 : Nat, ∃ x_95 x_105 x_115 : Int, ∃ x_125 : Bool, cellsAt w17 ⟨b, 0, none⟩ 0 [(.int .i64 x_06), (.int .i64 x_17), (.int .i64 x_25), (.int .i64 x_35), (.int .i64 x_45), (.int .i64 x_55), (.int .i64 x_65), (.int .i64 x_75), (.slice x_8_a5 x_8_l5 x_8_c5), (.int .i64 x_95), (.int .i64 x_105), (.int .i64 x_115), (.bool x_125)] ∧
  (∃ x_07 : Int, ∃ x_1_a1 : Option Addr, ∃ x_1_l1 x_1_c1 : Nat, cellsAt w17 ⟨b1, 0, none⟩ 0 [(.int .i64 x_07), (.slice x_1_a1 x_1_l1 x_1_c1)] ∧
  (Calls Try.prog N_ref20_Report #[(.agg #[.int .i64 x_06, .int .i64 x_17, .int .i64 x_25, .int .i64 x_35, .int .i64 x_45, .int .i64 x_55, .int .i64 x_65, .int .i64 x_75, .slice x_8_a5 x_8_l5 x_8_c5, .int .i64 x_95, .int .i64 x_105, .int .i64 x_115, .bool x_125]), (.agg #[.int .i64 x_07, .slice x_1_a1 x_1_l1 x_1_c1])] w17 fun e_5 w18 =>
  ∃ r_06 r_17 r_25 r_35 r_45 r_55 r_65 r_75 : Int, ∃ r_8_a5 : Option Addr, ∃ r_8_l5 r_8_c5 : Nat, ∃ r_95 r_105 r_115 : Int, ∃ r_125 : Bool, ∃ r5 : Int, e_5 = .returned (.tuple #[(.agg #[.int .i64 r_06, .int .i64 r_17, .int .i64 r_25, .int .i64 r_35, .int .i64 r_45, .int .i64 r_55, .int .i64 r_65, .int .i64 r_75, .slice r_8_a5 r_8_l5 r_8_c5, .int .i64 r_95, .int .i64 r_105, .int .i64 r_115, .bool r_125]), (.int .i64 r5)]) ∧
  (kAlloc w18 #[.int .i64 (0 : Int), .int .i64 (0 : Int), .int .i64 (0 : Int), .int .i64 (0 : Int), .int .i64 (0 : Int), .int .i64 (0 : Int), .int .i64 (0 : Int), .int .i64 (0 : Int), .slice none 0 0, .int .i64 (0 : Int), .int .i64 (0 : Int), .int .i64 (0 : Int), .bool false] Ty_api_Sender fun b7 w19 =>
  (sxStore w19 ⟨b7, 0, none⟩ 0 [(.int .i64 r_06), (.int .i64 r_17), (.int .i64 r_25), (.int .i64 r_35), (.int .i64 r_45), (.int .i64 r_55), (.int .i64 r_65), (.int .i64 r_75), (.slice r_8_a5 r_8_l5 r_8_c5), (.int .i64 r_95), (.int .i64 r_105), (.int .i64 r_115), (.bool r_125)] fun w20 =>
  (∃ x_08 x_18 x_26 x_36 x_46 x_56 x_66 x_76 : Int, ∃ x_8_a6 : Option Addr, ∃ x_8_l6 x_8_c6 : Nat, ∃ x_96 x_106 x_116 : Int, ∃ x_126 : Bool, cellsAt w20 ⟨b, 0, none⟩ 0 [(.int .i64 x_08), (.int .i64 x_18), (.int .i64 x_26), (.int .i64 x_36), (.int .i64 x_46), (.int .i64 x_56), (.int .i64 x_66), (.int .i64 x_76), (.slice x_8_a6 x_8_l6 x_8_c6), (.int .i64 x_96), (.int .i64 x_106), (.int .i64 x_116), (.bool x_126)] ∧
  (Calls Try.prog N_sender_Tick #[(.agg #[.int .i64 x_08, .int .i64 x_18, .int .i64 x_26, .int .i64 x_36, .int .i64 x_46, .int .i64 x_56, .int .i64 x_66, .int .i64 x_76, .slice x_8_a6 x_8_l6 x_8_c6, .int .i64 x_96, .int .i64 x_106, .int .i64 x_116, .bool x_126])] w20 fun e_6 w21 =>
  ∃ r_07 r_18 r_26 r_36 r_46 r_56 r_66 r_76 : Int, ∃ r_8_a6 : Option Addr, ∃ r_8_l6 r_8_c6 : Nat, ∃ r_96 r_106 r_116 : Int, ∃ r_126 : Bool, ∃ r6 : Int, e_6 = .returned (.tuple #[(.agg #[.int .i64 r_07, .int .i64 r_18, .int .i64 r_26, .int .i64 r_36, .int .i64 r_46, .int .i64 r_56, .int .i64 r_66, .int .i64 r_76, .slice r_8_a6 r_8_l6 r_8_c6, .int .i64 r_96, .int .i64 r_106, .int .i64 r_116, .bool r_126]), (.int .i64 r6)]) ∧
  (kAlloc w21 #[.int .i64 (0 : Int), .int .i64 (0 : Int), .int .i64 (0 : Int), .int .i64 (0 : Int), .int .i64 (0 : Int), .int .i64 (0 : Int), .int .i64 (0 : Int), .int .i64 (0 : Int), .slice none 0 0, .int .i64 (0 : Int), .int .i64 (0 : Int), .int .i64 (0 : Int), .bool false] Ty_api_Sender fun b8 w22 =>
  (sxStore w22 ⟨b8, 0, none⟩ 0 [(.int .i64 r_07), (.int .i64 r_18), (.int .i64 r_26), (.int .i64 r_36), (.int .i64 r_46), (.int .i64 r_56), (.int .i64 r_66), (.int .i64 r_76), (.slice r_8_a6 r_8_l6 r_8_c6), (.int .i64 r_96), (.int .i64 r_106), (.int .i64 r_116), (.bool r_126)] fun w23 =>
  (∃ x_09 x_19 x_27 x_37 x_47 x_57 x_67 x_77 : Int, ∃ x_8_a7 : Option Addr, ∃ x_8_l7 x_8_c7 : Nat, ∃ x_97 x_107 x_117 : Int, ∃ x_127 : Bool, cellsAt w23 ⟨b, 0, none⟩ 0 [(.int .i64 x_09), (.int .i64 x_19), (.int .i64 x_27), (.int .i64 x_37), (.int .i64 x_47), (.int .i64 x_57), (.int .i64 x_67), (.int .i64 x_77), (.slice x_8_a7 x_8_l7 x_8_c7), (.int .i64 x_97), (.int .i64 x_107), (.int .i64 x_117), (.bool x_127)] ∧
  (Calls Try.prog N_ref20_Tick #[(.agg #[.int .i64 x_09, .int .i64 x_19, .int .i64 x_27, .int .i64 x_37, .int .i64 x_47, .int .i64 x_57, .int .i64 x_67, .int .i64 x_77, .slice x_8_a7 x_8_l7 x_8_c7, .int .i64 x_97, .int .i64 x_107, .int .i64 x_117, .bool x_127])] w23 fun e_7 w24 =>
  ∃ r_08 r_19 r_27 r_37 r_47 r_57 r_67 r_77 : Int, ∃ r_8_a7 : Option Addr, ∃ r_8_l7 r_8_c7 : Nat, ∃ r_97 r_107 r_117 : Int, ∃ r_127 : Bool, ∃ r7 : Int, e_7 = .returned (.tuple #[(.agg #[.int .i64 r_08, .int .i64 r_19, .int .i64 r_27, .int .i64 r_37, .int .i64 r_47, .int .i64 r_57, .int .i64 r_67, .int .i64 r_77, .slice r_8_a7 r_8_l7 r_8_c7, .int .i64 r_97, .int .i64 r_107, .int .i64 r_117, .bool r_127]), (.int .i64 r7)]) ∧
  (kAlloc w24 #[.int .i64 (0 : Int), .int .i64 (0 : Int), .int .i64 (0 : Int), .int .i64 (0 : Int), .int .i64 (0 : Int), .int .i64 (0 : Int), .int .i64 (0 : Int), .int .i64 (0 : Int), .slice none 0 0, .int .i64 (0 : Int), .int .i64 (0 : Int), .int .i64 (0 : Int), .bool false] Ty_api_Sender fun b9 w25 =>
  (sxStore w25 ⟨b9, 0, none⟩ 0 [(.int .i64 r_08), (.int .i64 r_19), (.int .i64 r_27), (.int .i64 r_37), (.int .i64 r_47), (.int .i64 r_57), (.int .i64 r_67), (.int .i64 r_77), (.slice r_8_a7 r_8_l7 r_8_c7), (.int .i64 r_97), (.int .i64 r_107), (.int .i64 r_117), (.bool r_127)] fun w26 =>
  (kDrew w26 fun w27 =>
  (∃ S : Nat → Prop,
  (∃ x_010 x_110 x_28 x_38 x_48 x_58 x_68 x_78 : Int, ∃ x_8_a8 : Option Addr, ∃ x_8_l8 x_8_c8 : Nat, ∃ x_98 x_108 x_118 : Int, ∃ x_128 : Bool, cellsAt w27 ⟨b, 0, none⟩ 0 [(.int .i64 x_010), (.int .i64 x_110), (.int .i64 x_28), (.int .i64 x_38), (.int .i64 x_48), (.int .i64 x_58), (.int .i64 x_68), (.int .i64 x_78), (.slice x_8_a8 x_8_l8 x_8_c8), (.int .i64 x_98), (.int .i64 x_108), (.int .i64 x_118), (.bool x_128)] ∧
  (S b ∧
  (∃ x_011 x_119 x_29 x_39 x_49 x_59 x_69 x_79 : Int, ∃ x_8_a9 : Option Addr, ∃ x_8_l9 x_8_c9 : Nat, ∃ x_99 x_109 x_1110 : Int, ∃ x_129 : Bool, cellsAt w27 ⟨b, 0, none⟩ 0 [(.int .i64 x_011), (.int .i64 x_119), (.int .i64 x_29), (.int .i64 x_39), (.int .i64 x_49), (.int .i64 x_59), (.int .i64 x_69), (.int .i64 x_79), (.slice x_8_a9 x_8_l9 x_8_c9), (.int .i64 x_99), (.int .i64 x_109), (.int .i64 x_1110), (.bool x_129)] ∧
  (Calls Try.prog N_sender_Valid #[(.agg #[.int .i64 x_010, .int .i64 x_110, .int .i64 x_28, .int .i64 x_38, .int .i64 x_48, .int .i64 x_58, .int .i64 x_68, .int .i64 x_78, .slice x_8_a8 x_8_l8 x_8_c8, .int .i64 x_98, .int .i64 x_108, .int .i64 x_118, .bool x_128])] w27 fun e_8 w28 =>
  ∃ r8 : Bool, e_8 = .returned (.bool r8) ∧
  (KeepsB S w27 w28 ∧ (Calls Try.prog N_ref20_Valid #[(.agg #[.int .i64 x_011, .int .i64 x_119, .int .i64 x_29, .int .i64 x_39, .int .i64 x_49, .int .i64 x_59, .int .i64 x_69, .int .i64 x_79, .slice x_8_a9 x_8_l9 x_8_c9, .int .i64 x_99, .int .i64 x_109, .int .i64 x_1110, .bool x_129])] w28 fun e_9 w29 =>
  ∃ r9 : Bool, e_9 = .returned (.bool r9) ∧
  (KeepsB S w27 w29 ∧ (bsplit (r8 == r9)
    ((bsplit (decide (r = r1))
      ((S b2 ∧
      (∃ x_012 x_120 x_210 x_310 x_410 x_510 x_610 x_710 : Int, ∃ x_8_a10 : Option Addr, ∃ x_8_l10 x_8_c10 : Nat, ∃ x_910 x_1010 x_1111 : Int, ∃ x_1210 : Bool, cellsAt w27 ⟨b2, 0, none⟩ 0 [(.int .i64 x_012), (.int .i64 x_120), (.int .i64 x_210), (.int .i64 x_310), (.int .i64 x_410), (.int .i64 x_510), (.int .i64 x_610), (.int .i64 x_710), (.slice x_8_a10 x_8_l10 x_8_c10), (.int .i64 x_910), (.int .i64 x_1010), (.int .i64 x_1111), (.bool x_1210)] ∧
      (S b3 ∧
      (∃ x_013 x_130 x_211 x_311 x_411 x_511 x_611 x_711 : Int, ∃ x_8_a11 : Option Addr, ∃ x_8_l11 x_8_c11 : Nat, ∃ x_911 x_1011 x_1112 : Int, ∃ x_1211 : Bool, cellsAt w27 ⟨b3, 0, none⟩ 0 [(.int .i64 x_013), (.int .i64 x_130), (.int .i64 x_211), (.int .i64 x_311), (.int .i64 x_411), (.int .i64 x_511), (.int .i64 x_611), (.int .i64 x_711), (.slice x_8_a11 x_8_l11 x_8_c11), (.int .i64 x_911), (.int .i64 x_1011), (.int .i64 x_1112), (.bool x_1211)] ∧
      (Calls Try.prog N_ref20_Same #[(.agg #[.int .i64 x_012, .int .i64 x_120, .int .i64 x_210, .int .i64 x_310, .int .i64 x_410, .int .i64 x_510, .int .i64 x_610, .int .i64 x_710, .slice x_8_a10 x_8_l10 x_8_c10, .int .i64 x_910, .int .i64 x_1010, .int .i64 x_1111, .bool x_1210]), (.agg #[.int .i64 x_013, .int .i64 x_130, .int .i64 x_211, .int .i64 x_311, .int .i64 x_411, .int .i64 x_511, .int .i64 x_611, .int .i64 x_711, .slice x_8_a11 x_8_l11 x_8_c11, .int .i64 x_911, .int .i64 x_1011, .int .i64 x_1112, .bool x_1211])] w29 fun e_10 w30 =>
      ∃ r10 : Bool, e_10 = .returned (.bool r10) ∧
      (KeepsB S w27 w30 ∧ (bsplit r10
        ((bsplit (decide (r2 = r3))
          ((Calls Try.prog N_ref01_Same #[(.slice r_a r_l r_c), (.slice r_a1 r_l1 r_c1)] w30 fun e_11 w31 =>
          ∃ r11 : Bool, e_11 = .returned (.bool r11) ∧
          (KeepsB S w27 w31 ∧ (bsplit r11
            ((S b4 ∧
            (∃ x_014 x_131 x_212 x_312 x_412 x_512 x_612 x_712 : Int, ∃ x_8_a12 : Option Addr, ∃ x_8_l12 x_8_c12 : Nat, ∃ x_912 x_1012 x_1113 : Int, ∃ x_1212 : Bool, cellsAt w27 ⟨b4, 0, none⟩ 0 [(.int .i64 x_014), (.int .i64 x_131), (.int .i64 x_212), (.int .i64 x_312), (.int .i64 x_412), (.int .i64 x_512), (.int .i64 x_612), (.int .i64 x_712), (.slice x_8_a12 x_8_l12 x_8_c12), (.int .i64 x_912), (.int .i64 x_1012), (.int .i64 x_1113), (.bool x_1212)] ∧
            (S b5 ∧
            (∃ x_015 x_132 x_213 x_313 x_413 x_513 x_613 x_713 : Int, ∃ x_8_a13 : Option Addr, ∃ x_8_l13 x_8_c13 : Nat, ∃ x_913 x_1013 x_1114 : Int, ∃ x_1213 : Bool, cellsAt w27 ⟨b5, 0, none⟩ 0 [(.int .i64 x_015), (.int .i64 x_132), (.int .i64 x_213), (.int .i64 x_313), (.int .i64 x_413), (.int .i64 x_513), (.int .i64 x_613), (.int .i64 x_713), (.slice x_8_a13 x_8_l13 x_8_c13), (.int .i64 x_913), (.int .i64 x_1013), (.int .i64 x_1114), (.bool x_1213)] ∧
            (Calls Try.prog N_ref20_Same #[(.agg #[.int .i64 x_014, .int .i64 x_131, .int .i64 x_212, .int .i64 x_312, .int .i64 x_412, .int .i64 x_512, .int .i64 x_612, .int .i64 x_712, .slice x_8_a12 x_8_l12 x_8_c12, .int .i64 x_912, .int .i64 x_1012, .int .i64 x_1113, .bool x_1212]), (.agg #[.int .i64 x_015, .int .i64 x_132, .int .i64 x_213, .int .i64 x_313, .int .i64 x_413, .int .i64 x_513, .int .i64 x_613, .int .i64 x_713, .slice x_8_a13 x_8_l13 x_8_c13, .int .i64 x_913, .int .i64 x_1013, .int .i64 x_1114, .bool x_1213])] w31 fun e_12 w32 =>
            ∃ r12 : Bool, e_12 = .returned (.bool r12) ∧
            (KeepsB S w27 w32 ∧ (bsplit r12
              ((bsplit (decide (r4 = r5))
                ((S b6 ∧
                (∃ x_016 x_133 x_214 x_314 x_414 x_514 x_614 x_714 : Int, ∃ x_8_a14 : Option Addr, ∃ x_8_l14 x_8_c14 : Nat, ∃ x_914 x_1014 x_1115 : Int, ∃ x_1214 : Bool, cellsAt w27 ⟨b6, 0, none⟩ 0 [(.int .i64 x_016), (.int .i64 x_133), (.int .i64 x_214), (.int .i64 x_314), (.int .i64 x_414), (.int .i64 x_514), (.int .i64 x_614), (.int .i64 x_714), (.slice x_8_a14 x_8_l14 x_8_c14), (.int .i64 x_914), (.int .i64 x_1014), (.int .i64 x_1115), (.bool x_1214)] ∧
                (S b7 ∧
                (∃ x_017 x_134 x_215 x_315 x_415 x_515 x_615 x_715 : Int, ∃ x_8_a15 : Option Addr, ∃ x_8_l15 x_8_c15 : Nat, ∃ x_915 x_1015 x_1116 : Int, ∃ x_1215 : Bool, cellsAt w27 ⟨b7, 0, none⟩ 0 [(.int .i64 x_017), (.int .i64 x_134), (.int .i64 x_215), (.int .i64 x_315), (.int .i64 x_415), (.int .i64 x_515), (.int .i64 x_615), (.int .i64 x_715), (.slice x_8_a15 x_8_l15 x_8_c15), (.int .i64 x_915), (.int .i64 x_1015), (.int .i64 x_1116), (.bool x_1215)] ∧
                (Calls Try.prog N_ref20_Same #[(.agg #[.int .i64 x_016, .int .i64 x_133, .int .i64 x_214, .int .i64 x_314, .int .i64 x_414, .int .i64 x_514, .int .i64 x_614, .int .i64 x_714, .slice x_8_a14 x_8_l14 x_8_c14, .int .i64 x_914, .int .i64 x_1014, .int .i64 x_1115, .bool x_1214]), (.agg #[.int .i64 x_017, .int .i64 x_134, .int .i64 x_215, .int .i64 x_315, .int .i64 x_415, .int .i64 x_515, .int .i64 x_615, .int .i64 x_715, .slice x_8_a15 x_8_l15 x_8_c15, .int .i64 x_915, .int .i64 x_1015, .int .i64 x_1116, .bool x_1215])] w32 fun e_13 w33 =>
                ∃ r13 : Bool, e_13 = .returned (.bool r13) ∧
                (KeepsB S w27 w33 ∧ (bsplit r13
                  ((bsplit (decide (r6 = r7))
                    ((S b8 ∧
                    (∃ x_018 x_135 x_216 x_316 x_416 x_516 x_616 x_716 : Int, ∃ x_8_a16 : Option Addr, ∃ x_8_l16 x_8_c16 : Nat, ∃ x_916 x_1016 x_1117 : Int, ∃ x_1216 : Bool, cellsAt w27 ⟨b8, 0, none⟩ 0 [(.int .i64 x_018), (.int .i64 x_135), (.int .i64 x_216), (.int .i64 x_316), (.int .i64 x_416), (.int .i64 x_516), (.int .i64 x_616), (.int .i64 x_716), (.slice x_8_a16 x_8_l16 x_8_c16), (.int .i64 x_916), (.int .i64 x_1016), (.int .i64 x_1117), (.bool x_1216)] ∧
                    (S b9 ∧
                    (∃ x_019 x_136 x_217 x_317 x_417 x_517 x_617 x_717 : Int, ∃ x_8_a17 : Option Addr, ∃ x_8_l17 x_8_c17 : Nat, ∃ x_917 x_1017 x_1118 : Int, ∃ x_1217 : Bool, cellsAt w27 ⟨b9, 0, none⟩ 0 [(.int .i64 x_019), (.int .i64 x_136), (.int .i64 x_217), (.int .i64 x_317), (.int .i64 x_417), (.int .i64 x_517), (.int .i64 x_617), (.int .i64 x_717), (.slice x_8_a17 x_8_l17 x_8_c17), (.int .i64 x_917), (.int .i64 x_1017), (.int .i64 x_1118), (.bool x_1217)] ∧
                    (Calls Try.prog N_ref20_Same #[(.agg #[.int .i64 x_018, .int .i64 x_135, .int .i64 x_216, .int .i64 x_316, .int .i64 x_416, .int .i64 x_516, .int .i64 x_616, .int .i64 x_716, .slice x_8_a16 x_8_l16 x_8_c16, .int .i64 x_916, .int .i64 x_1016, .int .i64 x_1117, .bool x_1216]), (.agg #[.int .i64 x_019, .int .i64 x_136, .int .i64 x_217, .int .i64 x_317, .int .i64 x_417, .int .i64 x_517, .int .i64 x_617, .int .i64 x_717, .slice x_8_a17 x_8_l17 x_8_c17, .int .i64 x_917, .int .i64 x_1017, .int .i64 x_1118, .bool x_1217])] w33 fun e_14 w34 =>
                    ∃ r14 : Bool, e_14 = .returned (.bool r14) ∧
                    R (.bool r14) w34))))))
                    (R (.bool false) w33)))
                  (R (.bool false) w33)))))))))
                (R (.bool false) w32)))
              (R (.bool false) w32)))))))))
            (R (.bool false) w31)))))
          (R (.bool false) w30)))
        (R (.bool false) w30)))))))))
      (R (.bool false) w29)))
    (R (.bool false) w29)))))))))))))))))))))))))))))))))))))))))))))))
theorem F_law20_agree_eq (s_0 : Int) (s_1 : Int) (s_2 : Int) (s_3 : Int) (s_4 : Int) (s_5 : Int) (s_6 : Int) (s_7 : Int) (s_8_a : Option Addr) (s_8_l : Nat) (s_8_c : Nat) (s_9 : Int) (s_10 : Int) (s_11 : Int) (s_12 : Bool) (data_a : Option Addr) (data_l : Nat) (data_c : Nat) (size : Int) (r_0 : Int) (r_1_a : Option Addr) (r_1_l : Nat) (r_1_c : Nat) (w : World) (R : Value → World → Prop) : sxFn Try.prog TT h_law20_agree Try.f32 #[(.agg #[.int .i64 s_0, .int .i64 s_1, .int .i64 s_2, .int .i64 s_3, .int .i64 s_4, .int .i64 s_5, .int .i64 s_6, .int .i64 s_7, .slice s_8_a s_8_l s_8_c, .int .i64 s_9, .int .i64 s_10, .int .i64 s_11, .bool s_12]), (.slice data_a data_l data_c), (.int .i64 size), (.agg #[.int .i64 r_0, .slice r_1_a r_1_l r_1_c])] w R = F_law20_agree s_0 s_1 s_2 s_3 s_4 s_5 s_6 s_7 s_8_a s_8_l s_8_c s_9 s_10 s_11 s_12 data_a data_l data_c size r_0 r_1_a r_1_l r_1_c w R := by kernel_rfl
theorem F_law20_agree_ok {R : Ending → World → Prop} (s_0 : Int) (s_1 : Int) (s_2 : Int) (s_3 : Int) (s_4 : Int) (s_5 : Int) (s_6 : Int) (s_7 : Int) (s_8_a : Option Addr) (s_8_l : Nat) (s_8_c : Nat) (s_9 : Int) (s_10 : Int) (s_11 : Int) (s_12 : Bool) (data_a : Option Addr) (data_l : Nat) (data_c : Nat) (size : Int) (r_0 : Int) (r_1_a : Option Addr) (r_1_l : Nat) (r_1_c : Nat) (w : World) (h : F_law20_agree s_0 s_1 s_2 s_3 s_4 s_5 s_6 s_7 s_8_a s_8_l s_8_c s_9 s_10 s_11 s_12 data_a data_l data_c size r_0 r_1_a r_1_l r_1_c w fun v w' => R (.returned v) w') : Calls Try.prog N_law20_agree #[(.agg #[.int .i64 s_0, .int .i64 s_1, .int .i64 s_2, .int .i64 s_3, .int .i64 s_4, .int .i64 s_5, .int .i64 s_6, .int .i64 s_7, .slice s_8_a s_8_l s_8_c, .int .i64 s_9, .int .i64 s_10, .int .i64 s_11, .bool s_12]), (.slice data_a data_l data_c), (.int .i64 size), (.agg #[.int .i64 r_0, .slice r_1_a r_1_l r_1_c])] w R :=
  calls_of (f := 32) follows_ok Try.func32 (Eq.mpr (F_law20_agree_eq s_0 s_1 s_2 s_3 s_4 s_5 s_6 s_7 s_8_a s_8_l s_8_c s_9 s_10 s_11 s_12 data_a data_l data_c size r_0 r_1_a r_1_l r_1_c w _) h)

end Go.Proofs.Ytmhggobilcmdmaa
