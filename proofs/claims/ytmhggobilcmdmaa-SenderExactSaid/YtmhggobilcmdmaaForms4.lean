import Derived.Test.YtmhggobilcmdmaaBase
import Derived.KernelRfl
namespace Go.Proofs.Ytmhggobilcmdmaa
open Go.Sx Go.RowKit
set_option maxRecDepth 100000

def h_status_Whole : H := (.seq .reg (.seq .reg .leaf))
def F_status_Whole (r_0 : Int) (r_1 : Int) (r_2 : Int) (w : World) (R : Value → World → Prop) : Prop :=
  (kAlloc w #[(.int .i64 r_0), (.int .i64 r_1), (.int .i64 r_2)] Ty_api_Range fun b w1 =>
  (kLd w1 ⟨b, 1, none⟩ .i64 fun x =>
  (bsplit (decide (x = (0 : Int)))
    ((kLd w1 ⟨b, 2, none⟩ .i64 fun x1 =>
    (kLet (decide (x1 = (0 : Int))) fun x2 =>
    R (.bool x2) w1)))
    (R (.bool false) w1))))
theorem F_status_Whole_eq (r_0 : Int) (r_1 : Int) (r_2 : Int) (w : World) (R : Value → World → Prop) : sxFn Try.prog TT h_status_Whole Try.f94 #[(.agg #[.int .i64 r_0, .int .i64 r_1, .int .i64 r_2])] w R = F_status_Whole r_0 r_1 r_2 w R := by kernel_rfl
theorem F_status_Whole_ok {R : Ending → World → Prop} (r_0 : Int) (r_1 : Int) (r_2 : Int) (w : World) (h : F_status_Whole r_0 r_1 r_2 w fun v w' => R (.returned v) w') : Calls Try.prog N_status_Whole #[(.agg #[.int .i64 r_0, .int .i64 r_1, .int .i64 r_2])] w R :=
  calls_of (f := 94) follows_ok Try.func94 (Eq.mpr (F_status_Whole_eq r_0 r_1 r_2 w _) h)

def h_status_part : H := (.seq .reg (.seq .reg .leaf))
def F_status_part (r_0 : Int) (r_1 : Int) (r_2 : Int) (w : World) (R : Value → World → Prop) : Prop :=
  (kAlloc w #[(.int .i64 r_0), (.int .i64 r_1), (.int .i64 r_2)] Ty_api_Range fun b w1 =>
  (kLd w1 ⟨b, 1, none⟩ .i64 fun x =>
  (bsplit (decide (x ≥ (0 : Int)))
    ((kLd w1 ⟨b, 1, none⟩ .i64 fun x1 =>
    (kLd w1 ⟨b, 2, none⟩ .i64 fun x2 =>
    (bsplit (decide (x1 < x2))
      ((kLd w1 ⟨b, 2, none⟩ .i64 fun x3 =>
      (kLet (decide (x3 ≤ (65535 : Int))) fun x4 =>
      R (.bool x4) w1)))
      (R (.bool false) w1)))))
    (R (.bool false) w1))))
theorem F_status_part_eq (r_0 : Int) (r_1 : Int) (r_2 : Int) (w : World) (R : Value → World → Prop) : sxFn Try.prog TT h_status_part Try.f95 #[(.agg #[.int .i64 r_0, .int .i64 r_1, .int .i64 r_2])] w R = F_status_part r_0 r_1 r_2 w R := by kernel_rfl
theorem F_status_part_ok {R : Ending → World → Prop} (r_0 : Int) (r_1 : Int) (r_2 : Int) (w : World) (h : F_status_part r_0 r_1 r_2 w fun v w' => R (.returned v) w') : Calls Try.prog N_status_part #[(.agg #[.int .i64 r_0, .int .i64 r_1, .int .i64 r_2])] w R :=
  calls_of (f := 95) follows_ok Try.func95 (Eq.mpr (F_status_part_eq r_0 r_1 r_2 w _) h)

def h_ref20_unit : H := (.seq .reg (.seq (.cut [(62, .p .bool)] [6, 7, 8, 9, 10, 11, 12, 13, 14, 15, 16, 17, 18, 19, 20, 21, 22, 23, 24, 25, 26, 27, 28, 29, 30, 31, 32, 33, 34, 35, 36, 37, 38, 39, 40, 41, 42, 43, 44, 45, 46, 47, 48, 49, 50, 51, 52, 53, 54, 55, 56, 57, 58, 59, 60, 61, 62] .reg (.cond (.seq .reg .leaf) .leaf)) (.seq (.seq .reg (.block (.loop [(5, .p (.int .i64))] [4, 5, 63, 64, 65, 66, 67, 68, 69, 70, 71, 72, 73, 74, 75, 76, 77, 78, 79, 80, 81, 82, 83, 84, 85, 86, 87, 88, 89] (.seq (.seq .reg (.cond .leaf .leaf)) (.seq (.block (.seq (.draw .no (.one 0 .stable (.one 1 .stable (.one 2 .stable (.one 3 .stable (.one 4 .stable (.one 5 .stable (.one 6 .stable (.one 7 .stable (.one 8 .stable (.one 9 .stable (.one 10 .stable (.one 11 .stable (.one 12 .stable (.one 13 .stable (.one 14 .stable (.one 15 .stable (.one 16 .stable (.one 17 .stable (.one 18 .stable (.one 19 .stable .nil))))))))))))))))))))) (.cond (.seq .reg .leaf) .leaf))) .reg))))) (.seq .reg .leaf))))
def F_ref20_unit (s_0 : Int) (s_1 : Int) (s_2 : Int) (s_3 : Int) (s_4 : Int) (s_5 : Int) (s_6 : Int) (s_7 : Int) (s_8_a : Option Addr) (s_8_l : Nat) (s_8_c : Nat) (s_9 : Int) (s_10 : Int) (s_11 : Int) (s_12 : Bool) (u_0 : Int) (u_1_a : Option Addr) (u_1_l : Nat) (u_1_c : Nat) (u_2 : Int) (u_3 : Int) (u_4_a : Option Addr) (u_4_l : Nat) (u_4_c : Nat) (w : World) (R : Value → World → Prop) : Prop :=
  (kAlloc w #[(.int .i64 s_0), (.int .i64 s_1), (.int .i64 s_2), (.int .i64 s_3), (.int .i64 s_4), (.int .i64 s_5), (.int .i64 s_6), (.int .i64 s_7), (.slice s_8_a s_8_l s_8_c), (.int .i64 s_9), (.int .i64 s_10), (.int .i64 s_11), (.bool s_12)] Ty_api_Sender fun b w1 =>
  (kAlloc w1 #[(.int .i64 u_0), (.slice u_1_a u_1_l u_1_c), (.int .i64 u_2), (.int .i64 u_3), (.slice u_4_a u_4_l u_4_c)] Ty_api_Unit fun b1 w2 =>
  (∃ J : Bool → World → Prop,
  (∀ (_junk : Env) (x10 : Bool) (w4 : World), J x10 w4 →
    (bsplit x10
      (R (.bool false) w4)
      ((∃ I : Int → Nat × (World → Prop), (I (0 : Int)).2 w4 ∧
      (∀ (_junk : Env) (i : Int) (w5 : World), (I i).2 w5 →
        (kLdS w5 ⟨b1, 4, none⟩ fun _ x_l4 _ =>
        (bsplit (decide (i < (x_l4 : Int)))
          ((kDrew w5 fun w6 =>
          (kLdS w6 ⟨b1, 4, none⟩ fun x_a5 x_l5 _ =>
          (kIx x_a5 x_l5 i fun b2 =>
          (kLd w6 (b2.add (i.toNat * 3)) .i64 fun x11 =>
          (kLd w6 ⟨b1, 0, none⟩ .i64 fun x12 =>
          (bsplit (!decide (x11 = x12))
            (R (.bool false) w6)
            ((kLdS w6 ⟨b1, 4, none⟩ fun x_a6 x_l6 _ =>
            (kIx x_a6 x_l6 i fun b3 =>
            (kLd w6 ((b3.add (i.toNat * 3)).add 2) .i64 fun x14 =>
            (kLd w6 ⟨b1, 2, none⟩ .i64 fun x15 =>
            (bsplit (decide (x14 > x15))
              (R (.bool false) w6)
              ((kW .i64 (i + (1 : Int)) fun x16 =>
              ((I x16).2 w6 ∧ (I x16).1 < (I i).1))))))))))))))))
          (R (.bool true) w5)))))))) ∧
  (kLdS w2 ⟨b1, 1, none⟩ fun _ x_l _ =>
  (bsplit (decide ((x_l : Int) < (1 : Int)))
    (J true w2)
    ((kLdS w2 ⟨b1, 1, none⟩ fun _ x_l1 _ =>
    (bsplit (decide ((x_l1 : Int) > (2054 : Int)))
      (J true w2)
      ((kLd w2 ⟨b1, 2, none⟩ .i64 fun x =>
      (bsplit (decide (x < (0 : Int)))
        (J true w2)
        ((kLd w2 ⟨b1, 2, none⟩ .i64 fun x1 =>
        (kLdS w2 ⟨b1, 1, none⟩ fun _ x_l2 _ =>
        (bsplit (decide (x1 > (x_l2 : Int)))
          (J true w2)
          ((kLd w2 ⟨b1, 3, none⟩ .i64 fun x2 =>
          (bsplit (decide (x2 < (0 : Int)))
            (J true w2)
            ((kLd w2 ⟨b1, 3, none⟩ .i64 fun x3 =>
            (kLd w2 ⟨b, 5, none⟩ .i64 fun x4 =>
            (bsplit (decide (x3 > x4))
              (J true w2)
              ((kLd w2 ⟨b1, 0, none⟩ .i64 fun x5 =>
              (bsplit (decide (x5 < (0 : Int)))
                (J true w2)
                ((kLd w2 ⟨b1, 0, none⟩ .i64 fun x6 =>
                (kLd w2 ⟨b, 0, none⟩ .i64 fun x7 =>
                (kW .u64 (x7) fun x8 =>
                (0 ≤ x8 ∧ (kW .i64 ((1 : Int) * 2 ^ (min x8.toNat (IntKind.bits .i64))) fun x9 =>
                (bsplit (decide (x6 ≥ x9))
                  (J true w2)
                  ((kLdS w2 ⟨b1, 4, none⟩ fun x_a3 x_l3 x_c3 =>
                  (Calls Try.prog N_ref18_Normal #[(.slice x_a3 x_l3 x_c3)] w2 fun e_ w3 =>
                  ∃ r : Bool, e_ = .returned (.bool r) ∧
                  J (!r) w3)))))))))))))))))))))))))))))))))))
theorem F_ref20_unit_eq (s_0 : Int) (s_1 : Int) (s_2 : Int) (s_3 : Int) (s_4 : Int) (s_5 : Int) (s_6 : Int) (s_7 : Int) (s_8_a : Option Addr) (s_8_l : Nat) (s_8_c : Nat) (s_9 : Int) (s_10 : Int) (s_11 : Int) (s_12 : Bool) (u_0 : Int) (u_1_a : Option Addr) (u_1_l : Nat) (u_1_c : Nat) (u_2 : Int) (u_3 : Int) (u_4_a : Option Addr) (u_4_l : Nat) (u_4_c : Nat) (w : World) (R : Value → World → Prop) : sxFn Try.prog TT h_ref20_unit Try.f96 #[(.agg #[.int .i64 s_0, .int .i64 s_1, .int .i64 s_2, .int .i64 s_3, .int .i64 s_4, .int .i64 s_5, .int .i64 s_6, .int .i64 s_7, .slice s_8_a s_8_l s_8_c, .int .i64 s_9, .int .i64 s_10, .int .i64 s_11, .bool s_12]), (.agg #[.int .i64 u_0, .slice u_1_a u_1_l u_1_c, .int .i64 u_2, .int .i64 u_3, .slice u_4_a u_4_l u_4_c])] w R = F_ref20_unit s_0 s_1 s_2 s_3 s_4 s_5 s_6 s_7 s_8_a s_8_l s_8_c s_9 s_10 s_11 s_12 u_0 u_1_a u_1_l u_1_c u_2 u_3 u_4_a u_4_l u_4_c w R := by kernel_rfl
theorem F_ref20_unit_ok {R : Ending → World → Prop} (s_0 : Int) (s_1 : Int) (s_2 : Int) (s_3 : Int) (s_4 : Int) (s_5 : Int) (s_6 : Int) (s_7 : Int) (s_8_a : Option Addr) (s_8_l : Nat) (s_8_c : Nat) (s_9 : Int) (s_10 : Int) (s_11 : Int) (s_12 : Bool) (u_0 : Int) (u_1_a : Option Addr) (u_1_l : Nat) (u_1_c : Nat) (u_2 : Int) (u_3 : Int) (u_4_a : Option Addr) (u_4_l : Nat) (u_4_c : Nat) (w : World) (h : F_ref20_unit s_0 s_1 s_2 s_3 s_4 s_5 s_6 s_7 s_8_a s_8_l s_8_c s_9 s_10 s_11 s_12 u_0 u_1_a u_1_l u_1_c u_2 u_3 u_4_a u_4_l u_4_c w fun v w' => R (.returned v) w') : Calls Try.prog N_ref20_unit #[(.agg #[.int .i64 s_0, .int .i64 s_1, .int .i64 s_2, .int .i64 s_3, .int .i64 s_4, .int .i64 s_5, .int .i64 s_6, .int .i64 s_7, .slice s_8_a s_8_l s_8_c, .int .i64 s_9, .int .i64 s_10, .int .i64 s_11, .bool s_12]), (.agg #[.int .i64 u_0, .slice u_1_a u_1_l u_1_c, .int .i64 u_2, .int .i64 u_3, .slice u_4_a u_4_l u_4_c])] w R :=
  calls_of (f := 96) follows_ok Try.func96 (Eq.mpr (F_ref20_unit_eq s_0 s_1 s_2 s_3 s_4 s_5 s_6 s_7 s_8_a s_8_l s_8_c s_9 s_10 s_11 s_12 u_0 u_1_a u_1_l u_1_c u_2 u_3 u_4_a u_4_l u_4_c w _) h)

def h_sender_side_unit : H := (.seq .reg (.seq (.cut [(43, .p .bool)] [5, 6, 7, 8, 9, 10, 11, 12, 13, 14, 15, 16, 17, 18, 19, 20, 21, 22, 23, 24, 25, 26, 27, 28, 29, 30, 31, 32, 33, 34, 35, 36, 37, 38, 39, 40, 41, 42, 43] (.draw .blk (.one 0 .pre (.one 1 .pre (.one 2 .pre (.one 3 .keep (.one 4 .stable (.one 5 .stable (.one 6 .stable (.one 7 .stable (.one 8 .stable (.one 9 .keep (.one 10 .stable (.one 11 .stable (.one 12 .stable (.one 13 .stable (.one 14 .stable (.one 15 .stable (.one 16 .stable (.one 17 .stable (.one 18 .keep (.one 19 .stable (.one 20 .stable (.one 21 .stable (.one 22 .stable (.one 23 .stable (.one 24 .stable (.one 25 .stable (.one 26 .stable (.one 27 .stable (.one 28 .stable (.one 29 .stable (.one 30 .keep (.one 31 .stable (.one 32 .stable (.one 33 .stable (.one 34 .stable (.one 35 .stable (.one 36 .keep (.one 37 .stable (.one 38 .stable .nil)))))))))))))))))))))))))))))))))))))))) (.cond (.seq .reg .leaf) .leaf)) (.seq .reg .leaf)))
def F_sender_side_unit (s_b : Nat) (s_o : Nat) (u_0 : Int) (u_1_a : Option Addr) (u_1_l : Nat) (u_1_c : Nat) (u_2 : Int) (u_3 : Int) (u_4_a : Option Addr) (u_4_l : Nat) (u_4_c : Nat) (w : World) (R : Value → World → Prop) : Prop :=
  (kAlloc w #[(.int .i64 u_0), (.slice u_1_a u_1_l u_1_c), (.int .i64 u_2), (.int .i64 u_3), (.slice u_4_a u_4_l u_4_c)] Ty_api_Unit fun b w1 =>
  (∃ J : Bool → World → Prop,
  (∀ (_junk : Env) (x4 : Bool) (w8 : World), J x4 w8 →
    (bsplit x4
      (R (.bool false) w8)
      ((kLdS w8 ⟨b, 4, none⟩ fun x_a3 x_l3 x_c3 =>
      (Calls Try.prog N_slices_ContainsFunc_Sapi_Range_api_Range #[(.slice x_a3 x_l3 x_c3), (.func (.func N_sender_side_unit_1) #[] #[(.pointer (some ⟨b, 0, none⟩))])] w8 fun e_5 w9 =>
      ∃ r5 : Bool, e_5 = .returned (.bool r5) ∧
      R (.bool (!r5)) w9))))) ∧
  (kDrew w1 fun w2 =>
  (∃ S : Nat → Prop,
  (kLd w2 ⟨b, 0, none⟩ .i64 fun x =>
  (Calls Try.prog N_sender_side_number #[(.pointer (some ⟨s_b, s_o, none⟩)), (.int .i64 x)] w2 fun e_ w3 =>
  ∃ r : Bool, e_ = .returned (.bool r) ∧
  (KeepsB S w2 w3 ∧ (bsplit (!r)
    (J true w3)
    ((S b ∧
    (kLdS w2 ⟨b, 1, none⟩ fun _ x_l _ =>
    (Calls Try.prog N_sender_between #[(.int .i64 (x_l : Int)), (.int .i64 (1 : Int)), (.int .i64 (2054 : Int))] w3 fun e_1 w4 =>
    ∃ r1 : Bool, e_1 = .returned (.bool r1) ∧
    (KeepsB S w2 w4 ∧ (bsplit (!r1)
      (J true w4)
      ((S b ∧
      (kLd w2 ⟨b, 2, none⟩ .i64 fun x1 =>
      (S b ∧
      (kLdS w2 ⟨b, 1, none⟩ fun _ x_l1 _ =>
      (Calls Try.prog N_sender_between #[(.int .i64 x1), (.int .i64 (0 : Int)), (.int .i64 (x_l1 : Int))] w4 fun e_2 w5 =>
      ∃ r2 : Bool, e_2 = .returned (.bool r2) ∧
      (KeepsB S w2 w5 ∧ (bsplit (!r2)
        (J true w5)
        ((S b ∧
        (kLd w2 ⟨b, 3, none⟩ .i64 fun x2 =>
        (S s_b ∧
        (kLd w2 ⟨s_b, s_o + 5, none⟩ .i64 fun x3 =>
        (Calls Try.prog N_sender_between #[(.int .i64 x2), (.int .i64 (0 : Int)), (.int .i64 x3)] w5 fun e_3 w6 =>
        ∃ r3 : Bool, e_3 = .returned (.bool r3) ∧
        (KeepsB S w2 w6 ∧ (bsplit (!r3)
          (J true w6)
          ((S b ∧
          (kLdS w2 ⟨b, 4, none⟩ fun x_a2 x_l2 x_c2 =>
          (Calls Try.prog N_segment_Normal #[(.slice x_a2 x_l2 x_c2)] w6 fun e_4 w7 =>
          ∃ r4 : Bool, e_4 = .returned (.bool r4) ∧
          (KeepsB S w2 w7 ∧ J (!r4) w7)))))))))))))))))))))))))))))))))))
theorem F_sender_side_unit_eq (s_b : Nat) (s_o : Nat) (u_0 : Int) (u_1_a : Option Addr) (u_1_l : Nat) (u_1_c : Nat) (u_2 : Int) (u_3 : Int) (u_4_a : Option Addr) (u_4_l : Nat) (u_4_c : Nat) (w : World) (R : Value → World → Prop) : sxFn Try.prog TT h_sender_side_unit Try.f97 #[(.pointer (some ⟨s_b, s_o, none⟩)), (.agg #[.int .i64 u_0, .slice u_1_a u_1_l u_1_c, .int .i64 u_2, .int .i64 u_3, .slice u_4_a u_4_l u_4_c])] w R = F_sender_side_unit s_b s_o u_0 u_1_a u_1_l u_1_c u_2 u_3 u_4_a u_4_l u_4_c w R := by kernel_rfl
theorem F_sender_side_unit_ok {R : Ending → World → Prop} (s_b : Nat) (s_o : Nat) (u_0 : Int) (u_1_a : Option Addr) (u_1_l : Nat) (u_1_c : Nat) (u_2 : Int) (u_3 : Int) (u_4_a : Option Addr) (u_4_l : Nat) (u_4_c : Nat) (w : World) (h : F_sender_side_unit s_b s_o u_0 u_1_a u_1_l u_1_c u_2 u_3 u_4_a u_4_l u_4_c w fun v w' => R (.returned v) w') : Calls Try.prog N_sender_side_unit #[(.pointer (some ⟨s_b, s_o, none⟩)), (.agg #[.int .i64 u_0, .slice u_1_a u_1_l u_1_c, .int .i64 u_2, .int .i64 u_3, .slice u_4_a u_4_l u_4_c])] w R :=
  calls_of (f := 97) follows_ok Try.func97 (Eq.mpr (F_sender_side_unit_eq s_b s_o u_0 u_1_a u_1_l u_1_c u_2 u_3 u_4_a u_4_l u_4_c w _) h)

def h_slices_ContainsFunc_Sapi_Unit_api_Unit : H := (.seq .reg (.seq .reg .leaf))
def F_slices_ContainsFunc_Sapi_Unit_api_Unit (s_a : Option Addr) (s_l : Nat) (s_c : Nat) (f_g : Nat) (f_f : Array Value) (f_c : Array Value) (w : World) (R : Value → World → Prop) : Prop :=
  (Calls Try.prog N_slices_IndexFunc_Sapi_Unit_api_Unit #[(.slice s_a s_l s_c), (.func (.func f_g) f_f f_c)] w fun e_ w1 =>
  ∃ r : Int, e_ = .returned (.int .i64 r) ∧
  (kLet (decide (r ≥ (0 : Int))) fun x =>
  R (.bool x) w1))
theorem F_slices_ContainsFunc_Sapi_Unit_api_Unit_eq (s_a : Option Addr) (s_l : Nat) (s_c : Nat) (f_g : Nat) (f_f : Array Value) (f_c : Array Value) (w : World) (R : Value → World → Prop) : sxFn Try.prog TT h_slices_ContainsFunc_Sapi_Unit_api_Unit Try.f98 #[(.slice s_a s_l s_c), (.func (.func f_g) f_f f_c)] w R = F_slices_ContainsFunc_Sapi_Unit_api_Unit s_a s_l s_c f_g f_f f_c w R := by kernel_rfl
theorem F_slices_ContainsFunc_Sapi_Unit_api_Unit_ok {R : Ending → World → Prop} (s_a : Option Addr) (s_l : Nat) (s_c : Nat) (f_g : Nat) (f_f : Array Value) (f_c : Array Value) (w : World) (h : F_slices_ContainsFunc_Sapi_Unit_api_Unit s_a s_l s_c f_g f_f f_c w fun v w' => R (.returned v) w') : Calls Try.prog N_slices_ContainsFunc_Sapi_Unit_api_Unit #[(.slice s_a s_l s_c), (.func (.func f_g) f_f f_c)] w R :=
  calls_of (f := 98) follows_ok Try.func98 (Eq.mpr (F_slices_ContainsFunc_Sapi_Unit_api_Unit_eq s_a s_l s_c f_g f_f f_c w _) h)

def h_sender_side_asked_1 : H := (.seq .reg (.seq (.draw .no (.one 0 .stable (.one 1 .stable (.one 2 .stable (.one 3 .stable (.one 4 .stable (.one 5 .stable (.one 6 .stable (.one 7 .stable (.one 8 .stable (.one 9 .stable (.one 10 .stable (.one 11 .stable (.one 12 .stable (.one 13 .stable .nil))))))))))))))) .leaf))
def F_sender_side_asked_1 (u_0 : Int) (u_1_a : Option Addr) (u_1_l : Nat) (u_1_c : Nat) (u_2 : Int) (u_3 : Int) (u_4_a : Option Addr) (u_4_l : Nat) (u_4_c : Nat) (cap0_b : Nat) (cap0_o : Nat) (w : World) (R : Value → World → Prop) : Prop :=
  (kAlloc w #[(.int .i64 u_0), (.slice u_1_a u_1_l u_1_c), (.int .i64 u_2), (.int .i64 u_3), (.slice u_4_a u_4_l u_4_c)] Ty_api_Unit fun b w1 =>
  (kDrew w1 fun w2 =>
  (kLd w2 ⟨b, 0, none⟩ .i64 fun x =>
  (∃ x1 : Option Addr, w2.cell? ⟨cap0_b, cap0_o, none⟩ = some (.pointer x1) ∧
  (kNil x1 fun x2 =>
  (kLd w2 (x2.add 10) .i64 fun x3 =>
  (bsplit (decide (x = x3))
    ((kLd w2 ⟨b, 2, none⟩ .i64 fun x4 =>
    (kLet (decide (x4 > (0 : Int))) fun x5 =>
    R (.bool x5) w2)))
    (R (.bool false) w2))))))))
theorem F_sender_side_asked_1_eq (u_0 : Int) (u_1_a : Option Addr) (u_1_l : Nat) (u_1_c : Nat) (u_2 : Int) (u_3 : Int) (u_4_a : Option Addr) (u_4_l : Nat) (u_4_c : Nat) (cap0_b : Nat) (cap0_o : Nat) (w : World) (R : Value → World → Prop) : sxFn Try.prog TT h_sender_side_asked_1 Try.f99 #[(.agg #[.int .i64 u_0, .slice u_1_a u_1_l u_1_c, .int .i64 u_2, .int .i64 u_3, .slice u_4_a u_4_l u_4_c]), (.pointer (some ⟨cap0_b, cap0_o, none⟩))] w R = F_sender_side_asked_1 u_0 u_1_a u_1_l u_1_c u_2 u_3 u_4_a u_4_l u_4_c cap0_b cap0_o w R := by kernel_rfl
theorem F_sender_side_asked_1_ok {R : Ending → World → Prop} (u_0 : Int) (u_1_a : Option Addr) (u_1_l : Nat) (u_1_c : Nat) (u_2 : Int) (u_3 : Int) (u_4_a : Option Addr) (u_4_l : Nat) (u_4_c : Nat) (cap0_b : Nat) (cap0_o : Nat) (w : World) (h : F_sender_side_asked_1 u_0 u_1_a u_1_l u_1_c u_2 u_3 u_4_a u_4_l u_4_c cap0_b cap0_o w fun v w' => R (.returned v) w') : Calls Try.prog N_sender_side_asked_1 #[(.agg #[.int .i64 u_0, .slice u_1_a u_1_l u_1_c, .int .i64 u_2, .int .i64 u_3, .slice u_4_a u_4_l u_4_c]), (.pointer (some ⟨cap0_b, cap0_o, none⟩))] w R :=
  calls_of (f := 99) follows_ok Try.func99 (Eq.mpr (F_sender_side_asked_1_eq u_0 u_1_a u_1_l u_1_c u_2 u_3 u_4_a u_4_l u_4_c cap0_b cap0_o w _) h)

def h_ref01_Put : H := (.seq .reg (.seq (.seq .reg (.block (.loop [(0, .p .slice), (7, .p (.int .i64))] [0, 7, 10, 11, 12, 13, 14, 15, 16, 17, 18, 19, 20, 21, 22] (.seq (.seq .reg (.cond .leaf .leaf)) (.seq (.block .reg) .reg))))) (.seq .reg .leaf)))
def F_ref01_Put (b_a : Option Addr) (b_l : Nat) (b_c : Nat) (bytes : Int) (v : Int) (w : World) (R : Value → World → Prop) : Prop :=
  (kW .i64 (bytes - (1 : Int)) fun x =>
  (∃ I : Option Addr → Nat → Nat → Int → Nat × (World → Prop), (I b_a b_l b_c x).2 w ∧
  (∀ (_junk : Env) (b_a1 : Option Addr) (b_l1 : Nat) (b_c1 : Nat) (i : Int) (w1 : World), (I b_a1 b_l1 b_c1 i).2 w1 →
    (bsplit (decide (i ≥ (0 : Int)))
      ((kW .i64 ((8 : Int) * i) fun x1 =>
      (kW .u64 (x1) fun x2 =>
      (0 ≤ x2 ∧ (kLet (Int.fdiv v (2 ^ (min x2.toNat (IntKind.bits .i64)))) fun x3 =>
      (kW .u8 (x3) fun x4 =>
      (kAlloc w1 #[(.int .u8 x4)] Ty_uint8 fun b w2 =>
      (AppP Try.prog #[Ty_S_uint8, Ty_S_uint8] Ty_S_uint8 #[(.slice b_a1 b_l1 b_c1), (.slice (some ⟨b, 0, none⟩) 1 1)] w2 fun x_a x_l x_c w3 =>
      (kW .i64 (i - (1 : Int)) fun x5 =>
      ((I x_a x_l x_c x5).2 w3 ∧ (I x_a x_l x_c x5).1 < (I b_a1 b_l1 b_c1 i).1))))))))))
      (R (.slice b_a1 b_l1 b_c1) w1)))))
theorem F_ref01_Put_eq (b_a : Option Addr) (b_l : Nat) (b_c : Nat) (bytes : Int) (v : Int) (w : World) (R : Value → World → Prop) : sxFn Try.prog TT h_ref01_Put Try.f100 #[(.slice b_a b_l b_c), (.int .i64 bytes), (.int .i64 v)] w R = F_ref01_Put b_a b_l b_c bytes v w R := by kernel_rfl
theorem F_ref01_Put_ok {R : Ending → World → Prop} (b_a : Option Addr) (b_l : Nat) (b_c : Nat) (bytes : Int) (v : Int) (w : World) (h : F_ref01_Put b_a b_l b_c bytes v w fun v w' => R (.returned v) w') : Calls Try.prog N_ref01_Put #[(.slice b_a b_l b_c), (.int .i64 bytes), (.int .i64 v)] w R :=
  calls_of (f := 100) follows_ok Try.func100 (Eq.mpr (F_ref01_Put_eq b_a b_l b_c bytes v w _) h)

def h_ref18_Normal : H := (.seq .reg (.seq (.seq .reg (.block (.loop [(3, .p (.int .i64))] [2, 3, 4, 5, 6, 7, 8, 9, 10, 11, 12, 13, 14, 15, 16, 17, 18, 19, 20, 21, 22, 23, 24, 25, 26, 27, 28, 29, 30, 31, 32, 33, 34, 35, 36, 37, 38, 39, 40, 41, 42, 43, 44, 45, 46] (.seq (.seq .reg (.cond .leaf .leaf)) (.seq (.block (.seq (.draw .no (.one 0 .stable (.one 1 .stable (.one 2 .stable (.one 3 .stable (.one 4 .stable (.one 5 .stable (.one 6 .stable (.one 7 .stable (.one 8 .stable (.one 9 .stable (.one 10 .stable (.one 11 .stable (.one 12 .stable (.one 13 .stable (.one 14 .stable (.one 15 .stable (.one 16 .stable (.one 17 .stable (.one 18 .stable (.one 19 .stable (.one 20 .stable (.one 21 .stable (.one 22 .stable (.one 23 .stable (.one 24 .stable (.one 25 .stable (.one 26 .stable (.one 27 .stable (.one 28 .stable (.one 29 .stable (.one 30 .stable (.one 31 .stable (.one 32 .stable (.one 33 .stable (.one 34 .stable (.one 35 .stable (.one 36 .stable .nil)))))))))))))))))))))))))))))))))))))) (.cond (.seq .reg .leaf) .leaf))) .reg))))) (.seq .reg .leaf)))
def F_ref18_Normal (l_a : Option Addr) (l_l : Nat) (l_c : Nat) (w : World) (R : Value → World → Prop) : Prop :=
  (∃ I : Int → Nat × (World → Prop), (I (0 : Int)).2 w ∧
  (∀ (_junk : Env) (i : Int) (w1 : World), (I i).2 w1 →
    (bsplit (decide (i < (l_l : Int)))
      ((kDrew w1 fun w2 =>
      (kIx l_a l_l i fun b =>
      (kLd w2 ((b.add (i.toNat * 3)).add 1) .i64 fun x =>
      (bsplit (decide (x < (0 : Int)))
        (R (.bool false) w2)
        ((kIx l_a l_l i fun b1 =>
        (kLd w2 ((b1.add (i.toNat * 3)).add 1) .i64 fun x2 =>
        (kIx l_a l_l i fun b2 =>
        (kLd w2 ((b2.add (i.toNat * 3)).add 2) .i64 fun x3 =>
        (bsplit (decide (x2 ≥ x3))
          (R (.bool false) w2)
          ((bsplit (decide (i > (0 : Int)))
            ((kIx l_a l_l i fun b3 =>
            (kLd w2 ((b3.add (i.toNat * 3)).add 1) .i64 fun x5 =>
            (kW .i64 (i - (1 : Int)) fun x6 =>
            (kIx l_a l_l x6 fun b4 =>
            (kLd w2 ((b4.add (x6.toNat * 3)).add 2) .i64 fun x7 =>
            (bsplit (decide (x5 ≤ x7))
              (R (.bool false) w2)
              ((kW .i64 (i + (1 : Int)) fun x8 =>
              ((I x8).2 w2 ∧ (I x8).1 < (I i).1))))))))))
            ((kW .i64 (i + (1 : Int)) fun x9 =>
              ((I x9).2 w2 ∧ (I x9).1 < (I i).1))))))))))))))))
      (R (.bool true) w1))))
theorem F_ref18_Normal_eq (l_a : Option Addr) (l_l : Nat) (l_c : Nat) (w : World) (R : Value → World → Prop) : sxFn Try.prog TT h_ref18_Normal Try.f101 #[(.slice l_a l_l l_c)] w R = F_ref18_Normal l_a l_l l_c w R := by kernel_rfl
theorem F_ref18_Normal_ok {R : Ending → World → Prop} (l_a : Option Addr) (l_l : Nat) (l_c : Nat) (w : World) (h : F_ref18_Normal l_a l_l l_c w fun v w' => R (.returned v) w') : Calls Try.prog N_ref18_Normal #[(.slice l_a l_l l_c)] w R :=
  calls_of (f := 101) follows_ok Try.func101 (Eq.mpr (F_ref18_Normal_eq l_a l_l l_c w _) h)

def h_segment_Normal : H := (.seq .reg (.seq (.seq .reg (.block (.loop [(7, .p (.int .i64))] [2, 3, 4, 7, 8, 9, 10, 11, 12, 13, 14, 15, 16, 17, 18, 19, 20, 21, 22, 23, 24, 25, 26, 27, 28, 29, 30, 31, 32, 33, 34, 35, 36, 37] (.seq .reg (.seq (.cond .leaf .leaf) (.seq (.block (.seq .reg (.seq (.draw .no (.one 0 .stable (.one 1 .stable (.one 2 .stable (.one 3 .stable (.one 4 .stable (.one 5 .stable (.one 6 .stable (.one 7 .stable (.one 8 .stable (.one 9 .stable (.one 10 .stable (.one 11 .stable (.one 12 .stable (.one 13 .stable (.one 14 .stable (.one 15 .stable (.one 16 .stable (.one 17 .stable (.one 18 .stable (.one 19 .stable (.one 20 .stable (.one 21 .stable (.one 22 .stable (.one 23 .stable (.one 24 .stable .nil)))))))))))))))))))))))))) (.cond (.seq .reg .leaf) .leaf)))) .reg)))))) (.seq .reg .leaf)))
def F_segment_Normal (l_a : Option Addr) (l_l : Nat) (l_c : Nat) (w : World) (R : Value → World → Prop) : Prop :=
  (∃ I : Int → Nat × (World → Prop), (I (0 : Int)).2 w ∧
  (∀ (_junk : Env) (x : Int) (w1 : World), (I x).2 w1 →
    (bsplit (decide (x < (l_l : Int)))
      ((kIx l_a l_l x fun b =>
      (∃ x_0 x_1 x_2 : Int, cellsAt w1 (b.add (x.toNat * 3)) 0 [(.int .i64 x_0), (.int .i64 x_1), (.int .i64 x_2)] ∧
      (kAlloc w1 #[.int .i64 (0 : Int), .int .i64 (0 : Int), .int .i64 (0 : Int)] Ty_api_Range fun b1 w2 =>
      (sxStore w2 ⟨b1, 0, none⟩ 0 [(.int .i64 x_0), (.int .i64 x_1), (.int .i64 x_2)] fun w3 =>
      (kDrew w3 fun w4 =>
      (kLd w4 ⟨b1, 1, none⟩ .i64 fun x1 =>
      (bsplit (decide (x1 < (0 : Int)))
        (R (.bool false) w4)
        ((kLd w4 ⟨b1, 1, none⟩ .i64 fun x3 =>
        (kLd w4 ⟨b1, 2, none⟩ .i64 fun x4 =>
        (bsplit (decide (x3 ≥ x4))
          (R (.bool false) w4)
          ((bsplit (decide (x > (0 : Int)))
            ((kLd w4 ⟨b1, 1, none⟩ .i64 fun x6 =>
            (kW .i64 (x - (1 : Int)) fun x7 =>
            (kIx l_a l_l x7 fun b2 =>
            (kLd w4 ((b2.add (x7.toNat * 3)).add 2) .i64 fun x8 =>
            (bsplit (decide (x6 ≤ x8))
              (R (.bool false) w4)
              ((kW .i64 (x + (1 : Int)) fun x9 =>
              ((I x9).2 w4 ∧ (I x9).1 < (I x).1)))))))))
            ((kW .i64 (x + (1 : Int)) fun x10 =>
              ((I x10).2 w4 ∧ (I x10).1 < (I x).1)))))))))))))))))
      (R (.bool true) w1))))
theorem F_segment_Normal_eq (l_a : Option Addr) (l_l : Nat) (l_c : Nat) (w : World) (R : Value → World → Prop) : sxFn Try.prog TT h_segment_Normal Try.f102 #[(.slice l_a l_l l_c)] w R = F_segment_Normal l_a l_l l_c w R := by kernel_rfl
theorem F_segment_Normal_ok {R : Ending → World → Prop} (l_a : Option Addr) (l_l : Nat) (l_c : Nat) (w : World) (h : F_segment_Normal l_a l_l l_c w fun v w' => R (.returned v) w') : Calls Try.prog N_segment_Normal #[(.slice l_a l_l l_c)] w R :=
  calls_of (f := 102) follows_ok Try.func102 (Eq.mpr (F_segment_Normal_eq l_a l_l l_c w _) h)

def h_slices_ContainsFunc_Sapi_Range_api_Range : H := (.seq .reg (.seq .reg .leaf))
def F_slices_ContainsFunc_Sapi_Range_api_Range (s_a : Option Addr) (s_l : Nat) (s_c : Nat) (f_g : Nat) (f_f : Array Value) (f_c : Array Value) (w : World) (R : Value → World → Prop) : Prop :=
  (Calls Try.prog N_slices_IndexFunc_Sapi_Range_api_Range #[(.slice s_a s_l s_c), (.func (.func f_g) f_f f_c)] w fun e_ w1 =>
  ∃ r : Int, e_ = .returned (.int .i64 r) ∧
  (kLet (decide (r ≥ (0 : Int))) fun x =>
  R (.bool x) w1))
theorem F_slices_ContainsFunc_Sapi_Range_api_Range_eq (s_a : Option Addr) (s_l : Nat) (s_c : Nat) (f_g : Nat) (f_f : Array Value) (f_c : Array Value) (w : World) (R : Value → World → Prop) : sxFn Try.prog TT h_slices_ContainsFunc_Sapi_Range_api_Range Try.f103 #[(.slice s_a s_l s_c), (.func (.func f_g) f_f f_c)] w R = F_slices_ContainsFunc_Sapi_Range_api_Range s_a s_l s_c f_g f_f f_c w R := by kernel_rfl
theorem F_slices_ContainsFunc_Sapi_Range_api_Range_ok {R : Ending → World → Prop} (s_a : Option Addr) (s_l : Nat) (s_c : Nat) (f_g : Nat) (f_f : Array Value) (f_c : Array Value) (w : World) (h : F_slices_ContainsFunc_Sapi_Range_api_Range s_a s_l s_c f_g f_f f_c w fun v w' => R (.returned v) w') : Calls Try.prog N_slices_ContainsFunc_Sapi_Range_api_Range #[(.slice s_a s_l s_c), (.func (.func f_g) f_f f_c)] w R :=
  calls_of (f := 103) follows_ok Try.func103 (Eq.mpr (F_slices_ContainsFunc_Sapi_Range_api_Range_eq s_a s_l s_c f_g f_f f_c w _) h)

def h_sender_side_unit_1 : H := (.seq .reg (.seq .reg .leaf))
def F_sender_side_unit_1 (r_0 : Int) (r_1 : Int) (r_2 : Int) (cap0_b : Nat) (cap0_o : Nat) (w : World) (R : Value → World → Prop) : Prop :=
  (kAlloc w #[(.int .i64 r_0), (.int .i64 r_1), (.int .i64 r_2)] Ty_api_Range fun b w1 =>
  (kLd w1 ⟨b, 0, none⟩ .i64 fun x =>
  (kLd w1 ⟨cap0_b, cap0_o, none⟩ .i64 fun x1 =>
  (bsplit (!decide (x = x1))
    (R (.bool true) w1)
    ((kLd w1 ⟨b, 2, none⟩ .i64 fun x2 =>
    (kLd w1 ⟨cap0_b, cap0_o + 2, none⟩ .i64 fun x3 =>
    (kLet (decide (x2 > x3)) fun x4 =>
    R (.bool x4) w1))))))))
theorem F_sender_side_unit_1_eq (r_0 : Int) (r_1 : Int) (r_2 : Int) (cap0_b : Nat) (cap0_o : Nat) (w : World) (R : Value → World → Prop) : sxFn Try.prog TT h_sender_side_unit_1 Try.f104 #[(.agg #[.int .i64 r_0, .int .i64 r_1, .int .i64 r_2]), (.pointer (some ⟨cap0_b, cap0_o, none⟩))] w R = F_sender_side_unit_1 r_0 r_1 r_2 cap0_b cap0_o w R := by kernel_rfl
theorem F_sender_side_unit_1_ok {R : Ending → World → Prop} (r_0 : Int) (r_1 : Int) (r_2 : Int) (cap0_b : Nat) (cap0_o : Nat) (w : World) (h : F_sender_side_unit_1 r_0 r_1 r_2 cap0_b cap0_o w fun v w' => R (.returned v) w') : Calls Try.prog N_sender_side_unit_1 #[(.agg #[.int .i64 r_0, .int .i64 r_1, .int .i64 r_2]), (.pointer (some ⟨cap0_b, cap0_o, none⟩))] w R :=
  calls_of (f := 104) follows_ok Try.func104 (Eq.mpr (F_sender_side_unit_1_eq r_0 r_1 r_2 cap0_b cap0_o w _) h)

def h_slices_IndexFunc_Sapi_Range_api_Range : H := (.seq .reg (.seq (.seq .reg (.block (.loop [(8, .p (.int .i64))] [4, 5, 8, 9, 10, 11, 12, 13, 14, 15, 16, 17, 18] (.seq .reg (.seq (.cond .leaf .leaf) (.seq (.block (.seq .reg (.seq .reg (.cond (.seq .reg .leaf) .leaf)))) .reg)))))) (.seq .reg .leaf)))
def F_slices_IndexFunc_Sapi_Range_api_Range (s_a : Option Addr) (s_l : Nat) (s_c : Nat) (f_g : Nat) (f_f : Array Value) (f_c : Array Value) (w : World) (R : Value → World → Prop) : Prop :=
  (∃ I : Int → Nat × (World → Prop), (I (0 : Int)).2 w ∧
  (∀ (_junk : Env) (x : Int) (w1 : World), (I x).2 w1 →
    (bsplit (decide (x < (s_l : Int)))
      ((kIx s_a s_l x fun b =>
      (∃ x_0 x_1 x_2 : Int, cellsAt w1 (b.add (x.toNat * 3)) 0 [(.int .i64 x_0), (.int .i64 x_1), (.int .i64 x_2)] ∧
      (okFn Try.prog f_g = true ∧ Calls Try.prog f_g (f_f ++ #[(.agg #[.int .i64 x_0, .int .i64 x_1, .int .i64 x_2])] ++ f_c) w1 fun e_ w2 =>
      ∃ r : Bool, e_ = .returned (.bool r) ∧
      (bsplit r
        (R (.int .i64 x) w2)
        ((kW .i64 (x + (1 : Int)) fun x1 =>
        ((I x1).2 w2 ∧ (I x1).1 < (I x).1))))))))
      (R (.int .i64 (-1 : Int)) w1))))
theorem F_slices_IndexFunc_Sapi_Range_api_Range_eq (s_a : Option Addr) (s_l : Nat) (s_c : Nat) (f_g : Nat) (f_f : Array Value) (f_c : Array Value) (w : World) (R : Value → World → Prop) : sxFn Try.prog TT h_slices_IndexFunc_Sapi_Range_api_Range Try.f105 #[(.slice s_a s_l s_c), (.func (.func f_g) f_f f_c)] w R = F_slices_IndexFunc_Sapi_Range_api_Range s_a s_l s_c f_g f_f f_c w R := by kernel_rfl
theorem F_slices_IndexFunc_Sapi_Range_api_Range_ok {R : Ending → World → Prop} (s_a : Option Addr) (s_l : Nat) (s_c : Nat) (f_g : Nat) (f_f : Array Value) (f_c : Array Value) (w : World) (h : F_slices_IndexFunc_Sapi_Range_api_Range s_a s_l s_c f_g f_f f_c w fun v w' => R (.returned v) w') : Calls Try.prog N_slices_IndexFunc_Sapi_Range_api_Range #[(.slice s_a s_l s_c), (.func (.func f_g) f_f f_c)] w R :=
  calls_of (f := 105) follows_ok Try.func105 (Eq.mpr (F_slices_IndexFunc_Sapi_Range_api_Range_eq s_a s_l s_c f_g f_f f_c w _) h)

end Go.Proofs.Ytmhggobilcmdmaa
