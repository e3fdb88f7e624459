import Derived.Test.YthceaojjeokclaaGreatBase
import Derived.KernelRfl
namespace Go.Proofs.YthceaojjeokclaaGreat
open Go.Sx Go.RowKit
set_option maxRecDepth 100000

def h_segment_begins : H := (.seq .reg (.seq .reg .leaf))
def F_segment_begins (part : Int) (w : World) (R : Value → WP) : Prop :=
 (bsplit (decide (part = (0 : Int)))
 (R (.bool true) w)
 ((kLet (decide (part = (1 : Int))) fun x =>
 R (.bool x) w)))
theorem F_segment_begins_eq (part : Int) (w : World) (R : Value → World → Prop) : sxFn Tryz.prog TT h_segment_begins Tryz.f104 #[(.int .i64 part)] w R = F_segment_begins part w R := by kernel_rfl
theorem F_segment_begins_ok {R : Ending → World → Prop} (part : Int) (w : World) (h : F_segment_begins part w fun v w' => R (.returned v) w') : Calls Tryz.prog N_segment_begins #[(.int .i64 part)] w R :=
 calls_of (f := 104) follows_ok Tryz.func104 (Eq.mpr (F_segment_begins_eq part w _) h)

def h_receiver_end : H := (.seq .reg (.seq (.seq .reg (.cond (.seq .reg .leaf) .leaf)) (.seq .reg .leaf)))
def F_receiver_end (l_a : OA) (l_l _ : Nat) (w : World) (R : Value → WP) : Prop :=
 (bsplit (decide ((l_l : Int) = (0 : Int)))
 (R (Iv (0 : Int)) w)
 ((kW .i64 ((l_l : Int) - (1 : Int)) fun x =>
 (kIx l_a l_l x fun b =>
 (kLd w ((b.add (x.toNat * 3)).add 2) .i64 fun x1 =>
 R (Iv x1) w)))))
theorem F_receiver_end_eq (l_a : Option Addr) (l_l l_c : Nat) (w : World) (R : Value → World → Prop) : sxFn Tryz.prog TT h_receiver_end Tryz.f105 #[(.slice l_a l_l l_c)] w R = F_receiver_end l_a l_l l_c w R := by kernel_rfl
theorem F_receiver_end_ok {R : Ending → World → Prop} (l_a : Option Addr) (l_l l_c : Nat) (w : World) (h : F_receiver_end l_a l_l l_c w fun v w' => R (.returned v) w') : Calls Tryz.prog N_receiver_end #[(.slice l_a l_l l_c)] w R :=
 calls_of (f := 105) follows_ok Tryz.func105 (Eq.mpr (F_receiver_end_eq l_a l_l l_c w _) h)

def h_receiver_piece_known_1 : H := (.seq .reg (.seq .reg .leaf))
def F_receiver_piece_known_1 (r_0 r_1 r_2 : Int) (cap0_b cap0_o : Nat) (w : World) (R : Value → WP) : Prop :=
 (kAlloc w #[(Iv r_0), (Iv r_1), (Iv r_2)] Ty_api_Range fun b w1 =>
 (kLd w1 ⟨b, 1, none⟩ .i64 fun x =>
 (kLd w1 ⟨cap0_b, cap0_o + 3, none⟩ .i64 fun x1 =>
 (bsplit (decide (x ≤ x1))
 ((kLd w1 ⟨b, 2, none⟩ .i64 fun x2 =>
 (kLd w1 ⟨cap0_b, cap0_o + 5, none⟩ .i64 fun x3 =>
 (kLet (decide (x2 ≥ x3)) fun x4 =>
 R (.bool x4) w1))))
 (R (.bool false) w1)))))
theorem F_receiver_piece_known_1_eq (r_0 r_1 r_2 : Int) (cap0_b cap0_o : Nat) (w : World) (R : Value → World → Prop) : sxFn Tryz.prog TT h_receiver_piece_known_1 Tryz.f106 #[(.agg #[.int .i64 r_0, .int .i64 r_1, .int .i64 r_2]), (.pointer (some ⟨cap0_b, cap0_o, none⟩))] w R = F_receiver_piece_known_1 r_0 r_1 r_2 cap0_b cap0_o w R := by kernel_rfl
theorem F_receiver_piece_known_1_ok {R : Ending → World → Prop} (r_0 r_1 r_2 : Int) (cap0_b cap0_o : Nat) (w : World) (h : F_receiver_piece_known_1 r_0 r_1 r_2 cap0_b cap0_o w fun v w' => R (.returned v) w') : Calls Tryz.prog N_receiver_piece_known_1 #[(.agg #[.int .i64 r_0, .int .i64 r_1, .int .i64 r_2]), (.pointer (some ⟨cap0_b, cap0_o, none⟩))] w R :=
 calls_of (f := 106) follows_ok Tryz.func106 (Eq.mpr (F_receiver_piece_known_1_eq r_0 r_1 r_2 cap0_b cap0_o w _) h)

def h_slices_ContainsFunc_Sapi_Range_api_Range : H := (.seq .reg (.seq .reg .leaf))
def F_slices_ContainsFunc_Sapi_Range_api_Range (s_a : OA) (s_l s_c f_g : Nat) (f_f : Array Value) (f_c : Array Value) (w : World) (R : Value → WP) : Prop :=
 (CP N_slices_IndexFunc_Sapi_Range_api_Range #[(.slice s_a s_l s_c), (.func (.func f_g) f_f f_c)] w fun e_ w1 =>
 ∃ r : Int, e_ = .returned (Iv r) ∧
 (kLet (decide (r ≥ (0 : Int))) fun x =>
 R (.bool x) w1))
theorem F_slices_ContainsFunc_Sapi_Range_api_Range_eq (s_a : Option Addr) (s_l s_c f_g : Nat) (f_f : Array Value) (f_c : Array Value) (w : World) (R : Value → World → Prop) : sxFn Tryz.prog TT h_slices_ContainsFunc_Sapi_Range_api_Range Tryz.f107 #[(.slice s_a s_l s_c), (.func (.func f_g) f_f f_c)] w R = F_slices_ContainsFunc_Sapi_Range_api_Range s_a s_l s_c f_g f_f f_c w R := by kernel_rfl
theorem F_slices_ContainsFunc_Sapi_Range_api_Range_ok {R : Ending → World → Prop} (s_a : Option Addr) (s_l s_c f_g : Nat) (f_f : Array Value) (f_c : Array Value) (w : World) (h : F_slices_ContainsFunc_Sapi_Range_api_Range s_a s_l s_c f_g f_f f_c w fun v w' => R (.returned v) w') : Calls Tryz.prog N_slices_ContainsFunc_Sapi_Range_api_Range #[(.slice s_a s_l s_c), (.func (.func f_g) f_f f_c)] w R :=
 calls_of (f := 107) follows_ok Tryz.func107 (Eq.mpr (F_slices_ContainsFunc_Sapi_Range_api_Range_eq s_a s_l s_c f_g f_f f_c w _) h)

def h_serial_valid : H := (.seq .reg (.seq .reg .leaf))
def F_serial_valid (n : Int) (w : World) (R : Value → WP) : Prop :=
 (bsplit (decide (n ≥ (1 : Int)))
 ((kLet (decide (n ≤ (32 : Int))) fun x =>
 R (.bool x) w))
 (R (.bool false) w))
theorem F_serial_valid_eq (n : Int) (w : World) (R : Value → World → Prop) : sxFn Tryz.prog TT h_serial_valid Tryz.f109 #[(.int .i64 n)] w R = F_serial_valid n w R := by kernel_rfl
theorem F_serial_valid_ok {R : Ending → World → Prop} (n : Int) (w : World) (h : F_serial_valid n w fun v w' => R (.returned v) w') : Calls Tryz.prog N_serial_valid #[(.int .i64 n)] w R :=
 calls_of (f := 109) follows_ok Tryz.func109 (Eq.mpr (F_serial_valid_eq n w _) h)

def h_segment_Normal : H := (.seq .reg (.seq (.seq .reg (.block (.loop [(7, .p (.int .i64))] [2, 3, 4, 7, 8, 9, 10, 11, 12, 13, 14, 15, 16, 17, 18, 19, 20, 21, 22, 23, 24, 25, 26, 27, 28, 29, 30, 31, 32, 33, 34, 35, 36, 37] (.seq .reg (.seq (.cond .leaf .leaf) (.seq (.block (.seq .reg (.seq (.draw .no (.one 0 .stable (.one 1 .stable (.one 2 .stable (.one 3 .stable (.one 4 .stable (.one 5 .stable (.one 6 .stable (.one 7 .stable (.one 8 .stable (.one 9 .stable (.one 10 .stable (.one 11 .stable (.one 12 .stable (.one 13 .stable (.one 14 .stable (.one 15 .stable (.one 16 .stable (.one 17 .stable (.one 18 .stable (.one 19 .stable (.one 20 .stable (.one 21 .stable (.one 22 .stable (.one 23 .stable (.one 24 .stable .nil)))))))))))))))))))))))))) (.cond (.seq .reg .leaf) .leaf)))) .reg)))))) (.seq .reg .leaf)))
def F_segment_Normal (l_a : OA) (l_l _ : Nat) (w : World) (R : Value → WP) : Prop :=
 (∃ I : Int → Nat × (WP), (I (0 : Int)).2 w ∧
 (∀ (_ : Env) (x : Int) (w1 : World), (I x).2 w1 →
 (bsplit (decide (x < (l_l : Int)))
 ((kIx l_a l_l x fun b =>
 (∃ x_0 x_1 x_2 : Int, cellsAt w1 (b.add (x.toNat * 3)) 0 [(Iv x_0), (Iv x_1), (Iv x_2)] ∧
 (kAlloc w1 #[Iv (0 : Int), Iv (0 : Int), Iv (0 : Int)] Ty_api_Range fun b1 w2 =>
 (sxStore w2 ⟨b1, 0, none⟩ 0 [(Iv x_0), (Iv x_1), (Iv x_2)] fun w3 =>
 (kDrew w3 fun w4 =>
 (kLd w4 ⟨b1, 1, none⟩ .i64 fun x1 =>
 (bsplit (decide (x1 < (0 : Int)))
 (R (.bool false) w4)
 ((kLd w4 ⟨b1, 1, none⟩ .i64 fun x3 =>
 (kLd w4 ⟨b1, 2, none⟩ .i64 fun x4 =>
 (bsplit (decide (x3 ≥ x4))
 (R (.bool false) w4)
 ((bsplit (decide (x > (0 : Int)))
 ((kLd w4 ⟨b1, 1, none⟩ .i64 fun x6 =>
 (kW .i64 (x - (1 : Int)) fun x7 =>
 (kIx l_a l_l x7 fun b2 =>
 (kLd w4 ((b2.add (x7.toNat * 3)).add 2) .i64 fun x8 =>
 (bsplit (decide (x6 ≤ x8))
 (R (.bool false) w4)
 ((kW .i64 (x + (1 : Int)) fun x9 =>
 ((I x9).2 w4 ∧ (I x9).1 < (I x).1)))))))))
 ((kW .i64 (x + (1 : Int)) fun x10 =>
 ((I x10).2 w4 ∧ (I x10).1 < (I x).1)))))))))))))))))
 (R (.bool true) w1))))
theorem F_segment_Normal_eq (l_a : Option Addr) (l_l l_c : Nat) (w : World) (R : Value → World → Prop) : sxFn Tryz.prog TT h_segment_Normal Tryz.f110 #[(.slice l_a l_l l_c)] w R = F_segment_Normal l_a l_l l_c w R := by kernel_rfl
theorem F_segment_Normal_ok {R : Ending → World → Prop} (l_a : Option Addr) (l_l l_c : Nat) (w : World) (h : F_segment_Normal l_a l_l l_c w fun v w' => R (.returned v) w') : Calls Tryz.prog N_segment_Normal #[(.slice l_a l_l l_c)] w R :=
 calls_of (f := 110) follows_ok Tryz.func110 (Eq.mpr (F_segment_Normal_eq l_a l_l l_c w _) h)

def h_slices_Concat_Sapi_Range_api_Range : H := (.seq .reg (.seq .reg (.seq (.seq .reg (.block (.loop [(3, .p (.int .i64)), (11, .p (.int .i64))] [3, 5, 11, 12, 13, 14, 15, 16, 17, 18, 19, 20, 21, 22] (.seq .reg (.seq (.cond .leaf .leaf) (.seq (.block (.seq .reg (.seq .reg (.seq .reg (.cond .reg .leaf))))) .reg)))))) (.seq .reg (.seq (.seq .reg (.block (.loop [(6, .p .slice), (27, .p (.int .i64))] [6, 8, 27, 28, 29, 30, 31, 32, 33, 34] (.seq .reg (.seq (.cond .leaf .leaf) (.seq (.block (.seq .reg .reg)) .reg)))))) (.seq .reg .leaf))))))
def F_slices_Concat_Sapi_Range_api_Range (slices_a : OA) (slices_l _ : Nat) (w : World) (R : Value → WP) : Prop :=
 (∃ I : Int → Int → Nat × (WP), (I (0 : Int) (0 : Int)).2 w ∧
 (∀ (_ : Env) (size : Int) (x : Int) (w1 : World), (I size x).2 w1 →
 (bsplit (decide (x < (slices_l : Int)))
 ((kIx slices_a slices_l x fun b =>
 (kLdS w1 (b.add (x.toNat * 1)) fun _ x_l _ =>
 (kW .i64 (size + (x_l : Int)) fun x1 =>
 (bsplit (decide (x1 < (0 : Int)))
 (False)
 ((kW .i64 (x + (1 : Int)) fun x2 =>
 ((I x1 x2).2 w1 ∧ (I x1 x2).1 < (I size x).1))))))))
 ((CP N_slices_Grow_Sapi_Range_api_Range #[(.slice none 0 0), (Iv size)] w1 fun e_ w2 =>
 ∃ r_a : OA, ∃ r_l r_c : Nat, e_ = .returned (.slice r_a r_l r_c) ∧
 (∃ I1 : OA → Nat → Nat → Int → Nat × (WP), (I1 r_a r_l r_c (0 : Int)).2 w2 ∧
 (∀ (_ : Env) (newslice_a : OA) (newslice_l : Nat) (newslice_c : Nat) (x3 : Int) (w3 : World), (I1 newslice_a newslice_l newslice_c x3).2 w3 →
 (bsplit (decide (x3 < (slices_l : Int)))
 ((kIx slices_a slices_l x3 fun b1 =>
 (kLdS w3 (b1.add (x3.toNat * 1)) fun x_a1 x_l1 x_c1 =>
 (AppP Tryz.prog #[Ty_S_api_Range, Ty_S_api_Range] Ty_S_api_Range #[(.slice newslice_a newslice_l newslice_c), (.slice x_a1 x_l1 x_c1)] w3 fun x_a2 x_l2 x_c2 w4 =>
 (kW .i64 (x3 + (1 : Int)) fun x4 =>
 ((I1 x_a2 x_l2 x_c2 x4).2 w4 ∧ (I1 x_a2 x_l2 x_c2 x4).1 < (I1 newslice_a newslice_l newslice_c x3).1))))))
 (R (.slice newslice_a newslice_l newslice_c) w3)))))))))
theorem F_slices_Concat_Sapi_Range_api_Range_eq (slices_a : Option Addr) (slices_l slices_c : Nat) (w : World) (R : Value → World → Prop) : sxFn Tryz.prog TT h_slices_Concat_Sapi_Range_api_Range Tryz.f111 #[(.slice slices_a slices_l slices_c)] w R = F_slices_Concat_Sapi_Range_api_Range slices_a slices_l slices_c w R := by kernel_rfl
theorem F_slices_Concat_Sapi_Range_api_Range_ok {R : Ending → World → Prop} (slices_a : Option Addr) (slices_l slices_c : Nat) (w : World) (h : F_slices_Concat_Sapi_Range_api_Range slices_a slices_l slices_c w fun v w' => R (.returned v) w') : Calls Tryz.prog N_slices_Concat_Sapi_Range_api_Range #[(.slice slices_a slices_l slices_c)] w R :=
 calls_of (f := 111) follows_ok Tryz.func111 (Eq.mpr (F_slices_Concat_Sapi_Range_api_Range_eq slices_a slices_l slices_c w _) h)

def h_status_part : H := (.seq .reg (.seq .reg .leaf))
def F_status_part (r_0 r_1 r_2 : Int) (w : World) (R : Value → WP) : Prop :=
 (kAlloc w #[(Iv r_0), (Iv r_1), (Iv r_2)] Ty_api_Range fun b w1 =>
 (kLd w1 ⟨b, 1, none⟩ .i64 fun x =>
 (bsplit (decide (x ≥ (0 : Int)))
 ((kLd w1 ⟨b, 1, none⟩ .i64 fun x1 =>
 (kLd w1 ⟨b, 2, none⟩ .i64 fun x2 =>
 (bsplit (decide (x1 < x2))
 ((kLd w1 ⟨b, 2, none⟩ .i64 fun x3 =>
 (kLet (decide (x3 ≤ (65535 : Int))) fun x4 =>
 R (.bool x4) w1)))
 (R (.bool false) w1)))))
 (R (.bool false) w1))))
theorem F_status_part_eq (r_0 r_1 r_2 : Int) (w : World) (R : Value → World → Prop) : sxFn Tryz.prog TT h_status_part Tryz.f112 #[(.agg #[.int .i64 r_0, .int .i64 r_1, .int .i64 r_2])] w R = F_status_part r_0 r_1 r_2 w R := by kernel_rfl
theorem F_status_part_ok {R : Ending → World → Prop} (r_0 r_1 r_2 : Int) (w : World) (h : F_status_part r_0 r_1 r_2 w fun v w' => R (.returned v) w') : Calls Tryz.prog N_status_part #[(.agg #[.int .i64 r_0, .int .i64 r_1, .int .i64 r_2])] w R :=
 calls_of (f := 112) follows_ok Tryz.func112 (Eq.mpr (F_status_part_eq r_0 r_1 r_2 w _) h)

def h_ref02_Distance : H := (.seq .reg (.seq (.seq .reg (.cond (.seq .reg .leaf) .leaf)) (.seq .reg .leaf)))
def F_ref02_Distance (n a b : Int) (w : World) (R : Value → WP) : Prop :=
 (CP N_ref02_valid #[(Iv n)] w fun e_ w1 =>
 ∃ r : Bool, e_ = .returned (.bool r) ∧
 (bsplit (!r)
 (R (Iv (-1 : Int)) w1)
 ((CP N_ref02_Low #[(Iv n), (Iv b)] w1 fun e_1 w2 =>
 ∃ r1 : Int, e_1 = .returned (Iv r1) ∧
 (CP N_ref02_Low #[(Iv n), (Iv a)] w2 fun e_2 w3 =>
 ∃ r2 : Int, e_2 = .returned (Iv r2) ∧
 (kW .i64 (r1 - r2) fun x =>
 (kW .u64 (n) fun x1 =>
 (0 ≤ x1 ∧ (kW .i64 ((1 : Int) * 2 ^ (min x1.toNat (IntKind.bits .i64))) fun x2 =>
 (kW .i64 (x2 - (1 : Int)) fun x3 =>
 (kLet (bAnd .i64 x x3) fun x4 =>
 R (Iv x4) w3)))))))))))
theorem F_ref02_Distance_eq (n a b : Int) (w : World) (R : Value → World → Prop) : sxFn Tryz.prog TT h_ref02_Distance Tryz.f113 #[(.int .i64 n), (.int .i64 a), (.int .i64 b)] w R = F_ref02_Distance n a b w R := by kernel_rfl
theorem F_ref02_Distance_ok {R : Ending → World → Prop} (n a b : Int) (w : World) (h : F_ref02_Distance n a b w fun v w' => R (.returned v) w') : Calls Tryz.prog N_ref02_Distance #[(.int .i64 n), (.int .i64 a), (.int .i64 b)] w R :=
 calls_of (f := 113) follows_ok Tryz.func113 (Eq.mpr (F_ref02_Distance_eq n a b w _) h)

def h_receiver_partial_1 : H := (.seq .reg (.seq .reg .leaf))
def F_receiver_partial_1 (r_0 r_1 r_2 : Int) (cap0_b cap0_o : Nat) (w : World) (R : Value → WP) : Prop :=
 (kAlloc w #[(Iv r_0), (Iv r_1), (Iv r_2)] Ty_api_Range fun b w1 =>
 (kLd w1 ⟨b, 0, none⟩ .i64 fun x =>
 (kLd w1 ⟨cap0_b, cap0_o, none⟩ .i64 fun x1 =>
 (kLet (!decide (x = x1)) fun x2 =>
 R (.bool x2) w1))))
theorem F_receiver_partial_1_eq (r_0 r_1 r_2 : Int) (cap0_b cap0_o : Nat) (w : World) (R : Value → World → Prop) : sxFn Tryz.prog TT h_receiver_partial_1 Tryz.f114 #[(.agg #[.int .i64 r_0, .int .i64 r_1, .int .i64 r_2]), (.pointer (some ⟨cap0_b, cap0_o, none⟩))] w R = F_receiver_partial_1 r_0 r_1 r_2 cap0_b cap0_o w R := by kernel_rfl
theorem F_receiver_partial_1_ok {R : Ending → World → Prop} (r_0 r_1 r_2 : Int) (cap0_b cap0_o : Nat) (w : World) (h : F_receiver_partial_1 r_0 r_1 r_2 cap0_b cap0_o w fun v w' => R (.returned v) w') : Calls Tryz.prog N_receiver_partial_1 #[(.agg #[.int .i64 r_0, .int .i64 r_1, .int .i64 r_2]), (.pointer (some ⟨cap0_b, cap0_o, none⟩))] w R :=
 calls_of (f := 114) follows_ok Tryz.func114 (Eq.mpr (F_receiver_partial_1_eq r_0 r_1 r_2 cap0_b cap0_o w _) h)

def h_slices_ContainsFunc_Sbyte_byte : H := (.seq .reg (.seq .reg .leaf))
def F_slices_ContainsFunc_Sbyte_byte (s_a : OA) (s_l s_c f_g : Nat) (f_f : Array Value) (f_c : Array Value) (w : World) (R : Value → WP) : Prop :=
 (CP N_slices_IndexFunc_Sbyte_byte #[(.slice s_a s_l s_c), (.func (.func f_g) f_f f_c)] w fun e_ w1 =>
 ∃ r : Int, e_ = .returned (Iv r) ∧
 (kLet (decide (r ≥ (0 : Int))) fun x =>
 R (.bool x) w1))
theorem F_slices_ContainsFunc_Sbyte_byte_eq (s_a : Option Addr) (s_l s_c f_g : Nat) (f_f : Array Value) (f_c : Array Value) (w : World) (R : Value → World → Prop) : sxFn Tryz.prog TT h_slices_ContainsFunc_Sbyte_byte Tryz.f115 #[(.slice s_a s_l s_c), (.func (.func f_g) f_f f_c)] w R = F_slices_ContainsFunc_Sbyte_byte s_a s_l s_c f_g f_f f_c w R := by kernel_rfl
theorem F_slices_ContainsFunc_Sbyte_byte_ok {R : Ending → World → Prop} (s_a : Option Addr) (s_l s_c f_g : Nat) (f_f : Array Value) (f_c : Array Value) (w : World) (h : F_slices_ContainsFunc_Sbyte_byte s_a s_l s_c f_g f_f f_c w fun v w' => R (.returned v) w') : Calls Tryz.prog N_slices_ContainsFunc_Sbyte_byte #[(.slice s_a s_l s_c), (.func (.func f_g) f_f f_c)] w R :=
 calls_of (f := 115) follows_ok Tryz.func115 (Eq.mpr (F_slices_ContainsFunc_Sbyte_byte_eq s_a s_l s_c f_g f_f f_c w _) h)

def h_receiver_partial_2 : H := (.seq .reg (.seq .reg .leaf))
def F_receiver_partial_2 (c : Int) (w : World) (R : Value → WP) : Prop :=
 (kLet (!decide (c = (0 : Int))) fun x =>
 R (.bool x) w)
theorem F_receiver_partial_2_eq (c : Int) (w : World) (R : Value → World → Prop) : sxFn Tryz.prog TT h_receiver_partial_2 Tryz.f116 #[(.int .u8 c)] w R = F_receiver_partial_2 c w R := by kernel_rfl
theorem F_receiver_partial_2_ok {R : Ending → World → Prop} (c : Int) (w : World) (h : F_receiver_partial_2 c w fun v w' => R (.returned v) w') : Calls Tryz.prog N_receiver_partial_2 #[(.int .u8 c)] w R :=
 calls_of (f := 116) follows_ok Tryz.func116 (Eq.mpr (F_receiver_partial_2_eq c w _) h)

def h_ref21_ends : H := (.seq .reg (.seq .reg .leaf))
def F_ref21_ends (p_0 p_1 p_2 p_3 : Int) (p_4_a : OA) (p_4_l p_4_c : Nat) (w : World) (R : Value → WP) : Prop :=
 (kAlloc w #[(Iv p_0), (Iv p_1), (Iv p_2), (Iv p_3), (.slice p_4_a p_4_l p_4_c)] Ty_api_Piece fun b w1 =>
 (kLd w1 ⟨b, 1, none⟩ .i64 fun x =>
 (bsplit (decide (x = (0 : Int)))
 (R (.bool true) w1)
 ((kLd w1 ⟨b, 1, none⟩ .i64 fun x1 =>
 (kLet (decide (x1 = (2 : Int))) fun x2 =>
 R (.bool x2) w1))))))
theorem F_ref21_ends_eq (p_0 p_1 p_2 p_3 : Int) (p_4_a : Option Addr) (p_4_l p_4_c : Nat) (w : World) (R : Value → World → Prop) : sxFn Tryz.prog TT h_ref21_ends Tryz.f117 #[(.agg #[.int .i64 p_0, .int .i64 p_1, .int .i64 p_2, .int .i64 p_3, .slice p_4_a p_4_l p_4_c])] w R = F_ref21_ends p_0 p_1 p_2 p_3 p_4_a p_4_l p_4_c w R := by kernel_rfl
theorem F_ref21_ends_ok {R : Ending → World → Prop} (p_0 p_1 p_2 p_3 : Int) (p_4_a : Option Addr) (p_4_l p_4_c : Nat) (w : World) (h : F_ref21_ends p_0 p_1 p_2 p_3 p_4_a p_4_l p_4_c w fun v w' => R (.returned v) w') : Calls Tryz.prog N_ref21_ends #[(.agg #[.int .i64 p_0, .int .i64 p_1, .int .i64 p_2, .int .i64 p_3, .slice p_4_a p_4_l p_4_c])] w R :=
 calls_of (f := 117) follows_ok Tryz.func117 (Eq.mpr (F_ref21_ends_eq p_0 p_1 p_2 p_3 p_4_a p_4_l p_4_c w _) h)

def h_ref18_Union : H := (.seq .reg (.cut [] [4, 5, 9, 10, 11, 12, 13, 14, 15, 16, 17] (.seq .reg (.cond (.seq .reg .leaf) .leaf)) (.seq .reg (.seq .reg (.cut [(6, .p .slice), (7, .p (.int .i64))] [6, 7, 18, 19, 20, 21, 22, 23, 24, 25, 26, 27, 28, 29, 30, 31, 32, 33, 34, 35, 36, 37, 38, 39, 40, 41, 42, 43, 44, 45, 46, 47, 48, 49] (.block (.loop [(6, .p .slice), (7, .p (.int .i64))] [6, 7, 18, 19, 20, 21, 22, 23, 24, 25, 26, 27, 28, 29, 30, 31, 32, 33, 34, 35, 36, 37, 38, 39, 40, 41, 42, 43, 44, 45, 46, 47, 48, 49] (.cut [] [18, 19, 20, 21, 22, 23, 24, 25, 26, 27, 28, 29, 30, 31] (.seq (.draw .no (.one 0 .stable (.one 1 .stable (.one 2 .stable (.one 3 .stable (.one 4 .stable (.one 5 .stable (.one 6 .stable (.one 7 .stable (.one 8 .stable (.one 9 .stable (.one 10 .stable (.one 11 .stable (.one 12 .stable (.one 13 .stable .nil))))))))))))))) (.cond .leaf .leaf)) (.block (.seq (.draw .blk (.one 0 .stable (.one 1 .pre (.one 2 .pre (.one 3 .pre (.one 4 .pre (.one 5 .pre (.one 6 .pre (.one 7 .pre (.one 8 .pre (.one 9 .pre (.one 10 .pre (.one 11 .pre (.one 12 .pre (.one 13 .keep (.one 14 .keep (.one 15 .keep (.one 16 .stable .nil)))))))))))))))))) .reg))))) (.seq .reg (.cut [(7, .p (.int .i64))] [7, 51, 52, 53, 54, 55, 56, 57, 58, 59, 60, 61, 62, 63, 64, 65, 66, 67, 68, 69, 70, 71, 72, 73, 74, 75, 76, 77, 78, 79, 80, 81, 82, 83, 84] (.block (.loop [(7, .p (.int .i64))] [7, 51, 52, 53, 54, 55, 56, 57, 58, 59, 60, 61, 62, 63, 64, 65, 66, 67, 68, 69, 70, 71, 72, 73, 74, 75, 76, 77, 78, 79, 80, 81, 82, 83, 84] (.cut [] [51, 52, 53, 54, 55, 56, 57, 58, 59, 60, 61, 62, 63, 64] (.seq (.draw .no (.one 0 .stable (.one 1 .stable (.one 2 .stable (.one 3 .stable (.one 4 .stable (.one 5 .stable (.one 6 .stable (.one 7 .stable (.one 8 .stable (.one 9 .stable (.one 10 .stable (.one 11 .stable (.one 12 .stable (.one 13 .stable .nil))))))))))))))) (.cond .leaf .leaf)) (.block (.seq (.draw .blk (.one 0 .pre (.one 1 .pre (.one 2 .pre (.one 3 .pre (.one 4 .pre (.one 5 .pre (.one 6 .pre (.one 7 .pre (.one 8 .pre (.one 9 .pre (.one 10 .stable (.one 11 .stable (.one 12 .stable (.one 13 .stable (.one 14 .stable (.one 15 .stable (.one 16 .pre (.one 17 .keep (.one 18 .stable (.one 19 .last .nil))))))))))))))))))))) .reg))))) (.seq .reg (.seq (.block (.loop [(6, .p .slice), (7, .p (.int .i64))] [6, 7, 89, 90, 91, 92, 93, 94, 95, 96, 97, 98, 99, 100, 101, 102, 103, 104, 105, 106, 107, 108, 109, 110] (.seq (.seq .reg (.cond .leaf .leaf)) (.block (.seq (.draw .blk (.one 0 .stable (.one 1 .pre (.one 2 .pre (.one 3 .pre (.one 4 .pre (.one 5 .pre (.one 6 .pre (.one 7 .pre (.one 8 .pre (.one 9 .pre (.one 10 .pre (.one 11 .pre (.one 12 .pre (.one 13 .keep (.one 14 .keep (.one 15 .keep (.one 16 .stable .nil)))))))))))))))))) .reg))))) (.seq .reg .leaf))))))))))
def F_ref18_Union (l_a : OA) (l_l l_c : Nat) (r_0 r_1 r_2 : Int) (w : World) (R : Value → WP) : Prop :=
 (kAlloc w #[(Iv r_0), (Iv r_1), (Iv r_2)] Ty_api_Range fun b w1 =>
 (∃ J : WP,
 (∀ (_ : Env)  (w5 : World), J w5 →
 (∃ J1 : OA → Nat → Nat → Int → WP,
 (∀ (_ : Env) (out_a1 : OA) (out_l1 : Nat) (out_c1 : Nat) (i1 : Int) (w12 : World), J1 out_a1 out_l1 out_c1 i1 w12 →
 (∃ x_01 x_11 x_21 : Int, cellsAt w12 ⟨b, 0, none⟩ 0 [(Iv x_01), (Iv x_11), (Iv x_21)] ∧
 (kAlloc w12 #[Iv (0 : Int), Iv (0 : Int), Iv (0 : Int)] Ty_api_Range fun b6 w13 =>
 (sxStore w13 ⟨b6, 0, none⟩ 0 [(Iv x_01), (Iv x_11), (Iv x_21)] fun w14 =>
 (∃ J3 : Int → WP,
 (∀ (_ : Env) (i3 : Int) (w21 : World), J3 i3 w21 →
 (∃ x_02 x_12 x_22 : Int, cellsAt w21 ⟨b6, 0, none⟩ 0 [(Iv x_02), (Iv x_12), (Iv x_22)] ∧
 (kAlloc w21 #[(Iv x_02), (Iv x_12), (Iv x_22)] Ty_api_Range fun b10 w22 =>
 (AppP Tryz.prog #[Ty_S_api_Range, Ty_S_api_Range] Ty_S_api_Range #[(.slice out_a1 out_l1 out_c1), (.slice (some ⟨b10, 0, none⟩) 1 1)] w22 fun x_a1 x_l1 x_c1 w23 =>
 (∃ I2 : OA → Nat → Nat → Int → Nat × (WP), (I2 x_a1 x_l1 x_c1 i3).2 w23 ∧
 (∀ (_ : Env) (out_a2 : OA) (out_l2 : Nat) (out_c2 : Nat) (i4 : Int) (w24 : World), (I2 out_a2 out_l2 out_c2 i4).2 w24 →
 (bsplit (decide (i4 < (l_l : Int)))
 ((kDrew w24 fun w25 =>
 (∃ S2 : Nat → Prop,
 (kLd w25 ⟨b, 0, none⟩ .i64 fun x13 =>
 (kIx l_a l_l i4 fun b11 =>
 (kLd w25 ((b11.add (i4.toNat * 3)).add 1) .i64 fun x14 =>
 (kIx l_a l_l i4 fun b12 =>
 (kLd w25 ((b12.add (i4.toNat * 3)).add 2) .i64 fun x15 =>
 (KeepsB S2 w25 w25 ∧ (kAlloc w25 #[(Iv x13), (Iv x14), (Iv x15)] Ty_api_Range fun b13 w26 =>
 (KeepsB S2 w25 w26 ∧ (AppP Tryz.prog #[Ty_S_api_Range, Ty_S_api_Range] Ty_S_api_Range #[(.slice out_a2 out_l2 out_c2), (.slice (some ⟨b13, 0, none⟩) 1 1)] w26 fun x_a2 x_l2 x_c2 w27 =>
 (KeepsB S2 w25 w27 ∧ (kW .i64 (i4 + (1 : Int)) fun x16 =>
 ((I2 x_a2 x_l2 x_c2 x16).2 w27 ∧ (I2 x_a2 x_l2 x_c2 x16).1 < (I2 out_a2 out_l2 out_c2 i4).1)))))))))))))))
 (R (.tuple #[(.slice out_a2 out_l2 out_c2), (Iv (0 : Int))]) w24)))))))) ∧
 (∃ I1 : Int → Nat × (WP), (I1 i1).2 w14 ∧
 (∀ (_ : Env) (i2 : Int) (w15 : World), (I1 i2).2 w15 →
 (∃ J4 : WP,
 (∀ (_ : Env)  (w17 : World), J4 w17 →
 (kDrew w17 fun w18 =>
 (∃ S1 : Nat → Prop,
 (kLd w18 ⟨b6, 1, none⟩ .i64 fun x8 =>
 (kIx l_a l_l i2 fun b8 =>
 (kLd w18 ((b8.add (i2.toNat * 3)).add 1) .i64 fun x9 =>
 (kLd w18 ⟨b6, 2, none⟩ .i64 fun x10 =>
 (kIx l_a l_l i2 fun b9 =>
 (S1 ((b9.add (i2.toNat * 3)).add 2).block ∧
 (kLd w18 ((b9.add (i2.toNat * 3)).add 2) .i64 fun x11 =>
 (kSet w18 ⟨b6, 1, none⟩ (Iv (if x9 < x8 then x9 else x8)) fun w19 =>
 (KeepsB S1 w18 w19 ∧ (kSet w19 ⟨b6, 2, none⟩ (Iv (if x11 > x10 then x11 else x10)) fun w20 =>
 (kW .i64 (i2 + (1 : Int)) fun x12 =>
 ((I1 x12).2 w20 ∧ (I1 x12).1 < (I1 i2).1))))))))))))))) ∧
 (kDrew w15 fun w16 =>
 (bsplit (decide (i2 < (l_l : Int)))
 ((kIx l_a l_l i2 fun b7 =>
 (kLd w16 ((b7.add (i2.toNat * 3)).add 1) .i64 fun x6 =>
 (kLd w16 ⟨b6, 2, none⟩ .i64 fun x7 =>
 (bsplit (decide (x6 ≤ x7))
 (J4 w16)
 (J3 i2 w16))))))
 (J3 i2 w16))))))))))) ∧
 (∃ I : OA → Nat → Nat → Int → Nat × (WP), (I none 0 0 (0 : Int)).2 w5 ∧
 (∀ (_ : Env) (out_a : OA) (out_l : Nat) (out_c : Nat) (i : Int) (w6 : World), (I out_a out_l out_c i).2 w6 →
 (∃ J2 : WP,
 (∀ (_ : Env)  (w8 : World), J2 w8 →
 (kDrew w8 fun w9 =>
 (∃ S : Nat → Prop,
 (kLd w9 ⟨b, 0, none⟩ .i64 fun x2 =>
 (kIx l_a l_l i fun b3 =>
 (kLd w9 ((b3.add (i.toNat * 3)).add 1) .i64 fun x3 =>
 (kIx l_a l_l i fun b4 =>
 (kLd w9 ((b4.add (i.toNat * 3)).add 2) .i64 fun x4 =>
 (KeepsB S w9 w9 ∧ (kAlloc w9 #[(Iv x2), (Iv x3), (Iv x4)] Ty_api_Range fun b5 w10 =>
 (KeepsB S w9 w10 ∧ (AppP Tryz.prog #[Ty_S_api_Range, Ty_S_api_Range] Ty_S_api_Range #[(.slice out_a out_l out_c), (.slice (some ⟨b5, 0, none⟩) 1 1)] w10 fun x_a x_l x_c w11 =>
 (KeepsB S w9 w11 ∧ (kW .i64 (i + (1 : Int)) fun x5 =>
 ((I x_a x_l x_c x5).2 w11 ∧ (I x_a x_l x_c x5).1 < (I out_a out_l out_c i).1))))))))))))))) ∧
 (kDrew w6 fun w7 =>
 (bsplit (decide (i < (l_l : Int)))
 ((kIx l_a l_l i fun b2 =>
 (kLd w7 ((b2.add (i.toNat * 3)).add 2) .i64 fun x =>
 (kLd w7 ⟨b, 1, none⟩ .i64 fun x1 =>
 (bsplit (decide (x < x1))
 (J2 w7)
 (J1 out_a out_l out_c i w7))))))
 (J1 out_a out_l out_c i w7)))))))) ∧
 (CP N_ref18_Normal #[(.slice l_a l_l l_c)] w1 fun e_ w2 =>
 ∃ r : Bool, e_ = .returned (.bool r) ∧
 (bsplit (!r)
 (R (.tuple #[(.slice none 0 0), (Iv (4 : Int))]) w2)
 ((∃ x_0 x_1 x_2 : Int, cellsAt w2 ⟨b, 0, none⟩ 0 [(Iv x_0), (Iv x_1), (Iv x_2)] ∧
 (kAlloc w2 #[(Iv x_0), (Iv x_1), (Iv x_2)] Ty_api_Range fun b1 w3 =>
 (CP N_ref18_Normal #[(.slice (some ⟨b1, 0, none⟩) 1 1)] w3 fun e_1 w4 =>
 ∃ r1 : Bool, e_1 = .returned (.bool r1) ∧
 (bsplit (!r1)
 (R (.tuple #[(.slice none 0 0), (Iv (4 : Int))]) w4)
 (J w4))))))))))
theorem F_ref18_Union_eq (l_a : Option Addr) (l_l l_c : Nat) (r_0 r_1 r_2 : Int) (w : World) (R : Value → World → Prop) : sxFn Tryz.prog TT h_ref18_Union Tryz.f118 #[(.slice l_a l_l l_c), (.agg #[.int .i64 r_0, .int .i64 r_1, .int .i64 r_2])] w R = F_ref18_Union l_a l_l l_c r_0 r_1 r_2 w R := by kernel_rfl
theorem F_ref18_Union_ok {R : Ending → World → Prop} (l_a : Option Addr) (l_l l_c : Nat) (r_0 r_1 r_2 : Int) (w : World) (h : F_ref18_Union l_a l_l l_c r_0 r_1 r_2 w fun v w' => R (.returned v) w') : Calls Tryz.prog N_ref18_Union #[(.slice l_a l_l l_c), (.agg #[.int .i64 r_0, .int .i64 r_1, .int .i64 r_2])] w R :=
 calls_of (f := 118) follows_ok Tryz.func118 (Eq.mpr (F_ref18_Union_eq l_a l_l l_c r_0 r_1 r_2 w _) h)

def h_slices_IndexFunc_Sapi_Range_api_Range : H := (.seq .reg (.seq (.seq .reg (.block (.loop [(8, .p (.int .i64))] [4, 5, 8, 9, 10, 11, 12, 13, 14, 15, 16, 17, 18] (.seq .reg (.seq (.cond .leaf .leaf) (.seq (.block (.seq .reg (.seq .reg (.cond (.seq .reg .leaf) .leaf)))) .reg)))))) (.seq .reg .leaf)))
def F_slices_IndexFunc_Sapi_Range_api_Range (s_a : OA) (s_l _ f_g : Nat) (f_f : Array Value) (f_c : Array Value) (w : World) (R : Value → WP) : Prop :=
 (∃ I : Int → Nat × (WP), (I (0 : Int)).2 w ∧
 (∀ (_ : Env) (x : Int) (w1 : World), (I x).2 w1 →
 (bsplit (decide (x < (s_l : Int)))
 ((kIx s_a s_l x fun b =>
 (∃ x_0 x_1 x_2 : Int, cellsAt w1 (b.add (x.toNat * 3)) 0 [(Iv x_0), (Iv x_1), (Iv x_2)] ∧
 (okFn Tryz.prog f_g = true ∧ CP f_g (f_f ++ #[(.agg #[Iv x_0, Iv x_1, Iv x_2])] ++ f_c) w1 fun e_ w2 =>
 ∃ r : Bool, e_ = .returned (.bool r) ∧
 (bsplit r
 (R (Iv x) w2)
 ((kW .i64 (x + (1 : Int)) fun x1 =>
 ((I x1).2 w2 ∧ (I x1).1 < (I x).1))))))))
 (R (Iv (-1 : Int)) w1))))
theorem F_slices_IndexFunc_Sapi_Range_api_Range_eq (s_a : Option Addr) (s_l s_c f_g : Nat) (f_f : Array Value) (f_c : Array Value) (w : World) (R : Value → World → Prop) : sxFn Tryz.prog TT h_slices_IndexFunc_Sapi_Range_api_Range Tryz.f119 #[(.slice s_a s_l s_c), (.func (.func f_g) f_f f_c)] w R = F_slices_IndexFunc_Sapi_Range_api_Range s_a s_l s_c f_g f_f f_c w R := by kernel_rfl
theorem F_slices_IndexFunc_Sapi_Range_api_Range_ok {R : Ending → World → Prop} (s_a : Option Addr) (s_l s_c f_g : Nat) (f_f : Array Value) (f_c : Array Value) (w : World) (h : F_slices_IndexFunc_Sapi_Range_api_Range s_a s_l s_c f_g f_f f_c w fun v w' => R (.returned v) w') : Calls Tryz.prog N_slices_IndexFunc_Sapi_Range_api_Range #[(.slice s_a s_l s_c), (.func (.func f_g) f_f f_c)] w R :=
 calls_of (f := 119) follows_ok Tryz.func119 (Eq.mpr (F_slices_IndexFunc_Sapi_Range_api_Range_eq s_a s_l s_c f_g f_f f_c w _) h)

def h_slices_Grow_Sapi_Range_api_Range : H := (.seq .reg (.cut [] [5, 6, 7] (.seq .reg (.cond .reg .leaf)) (.seq (.seq .reg (.seq .reg (.cond .reg .leaf))) (.seq .reg .leaf))))
def F_slices_Grow_Sapi_Range_api_Range (s_a : OA) (s_l s_c : Nat) (n : Int) (w : World) (R : Value → WP) : Prop :=
 (∃ J : WP,
 (∀ (_ : Env)  (w1 : World), J w1 →
 (kW .i64 ((s_c : Int) - (s_l : Int)) fun x =>
 (kW .i64 (n - x) fun x1 =>
 (bsplit (decide (x1 > (0 : Int)))
 (((0 ≤ (s_c : Int) ∧ (s_c : Int) ≤ ((s_c : Nat) : Int)) ∧ (AppP Tryz.prog #[Ty_S_api_Range, Ty_int] Ty_S_api_Range #[(.slice (slAddr s_c 0 3 s_a) ((s_c : Int).toNat - 0) (s_c - 0)), (Iv x1)] w1 fun x_a _ x_c w2 =>
 ((0 ≤ (s_l : Int) ∧ (s_l : Int) ≤ ((x_c : Nat) : Int)) ∧ R (.slice (slAddr x_c 0 3 x_a) ((s_l : Int).toNat - 0) (x_c - 0)) w2))))
 (R (.slice s_a s_l s_c) w1))))) ∧
 (bsplit (decide (n < (0 : Int)))
 (False)
 (J w)))
theorem F_slices_Grow_Sapi_Range_api_Range_eq (s_a : Option Addr) (s_l s_c : Nat) (n : Int) (w : World) (R : Value → World → Prop) : sxFn Tryz.prog TT h_slices_Grow_Sapi_Range_api_Range Tryz.f121 #[(.slice s_a s_l s_c), (.int .i64 n)] w R = F_slices_Grow_Sapi_Range_api_Range s_a s_l s_c n w R := by kernel_rfl
theorem F_slices_Grow_Sapi_Range_api_Range_ok {R : Ending → World → Prop} (s_a : Option Addr) (s_l s_c : Nat) (n : Int) (w : World) (h : F_slices_Grow_Sapi_Range_api_Range s_a s_l s_c n w fun v w' => R (.returned v) w') : Calls Tryz.prog N_slices_Grow_Sapi_Range_api_Range #[(.slice s_a s_l s_c), (.int .i64 n)] w R :=
 calls_of (f := 121) follows_ok Tryz.func121 (Eq.mpr (F_slices_Grow_Sapi_Range_api_Range_eq s_a s_l s_c n w _) h)

def h_slices_IndexFunc_Sbyte_byte : H := (.seq .reg (.seq (.seq .reg (.block (.loop [(8, .p (.int .i64))] [4, 5, 8, 9, 10, 11, 12, 13, 14, 15, 16, 17, 18] (.seq .reg (.seq (.cond .leaf .leaf) (.seq (.block (.seq .reg (.seq .reg (.cond (.seq .reg .leaf) .leaf)))) .reg)))))) (.seq .reg .leaf)))
def F_slices_IndexFunc_Sbyte_byte (s_a : OA) (s_l _ f_g : Nat) (f_f : Array Value) (f_c : Array Value) (w : World) (R : Value → WP) : Prop :=
 (∃ I : Int → Nat × (WP), (I (0 : Int)).2 w ∧
 (∀ (_ : Env) (x : Int) (w1 : World), (I x).2 w1 →
 (bsplit (decide (x < (s_l : Int)))
 ((kIx s_a s_l x fun b =>
 (kLd w1 (b.add (x.toNat * 1)) .u8 fun x1 =>
 (okFn Tryz.prog f_g = true ∧ CP f_g (f_f ++ #[(.int .u8 x1)] ++ f_c) w1 fun e_ w2 =>
 ∃ r : Bool, e_ = .returned (.bool r) ∧
 (bsplit r
 (R (Iv x) w2)
 ((kW .i64 (x + (1 : Int)) fun x2 =>
 ((I x2).2 w2 ∧ (I x2).1 < (I x).1))))))))
 (R (Iv (-1 : Int)) w1))))
theorem F_slices_IndexFunc_Sbyte_byte_eq (s_a : Option Addr) (s_l s_c f_g : Nat) (f_f : Array Value) (f_c : Array Value) (w : World) (R : Value → World → Prop) : sxFn Tryz.prog TT h_slices_IndexFunc_Sbyte_byte Tryz.f122 #[(.slice s_a s_l s_c), (.func (.func f_g) f_f f_c)] w R = F_slices_IndexFunc_Sbyte_byte s_a s_l s_c f_g f_f f_c w R := by kernel_rfl
theorem F_slices_IndexFunc_Sbyte_byte_ok {R : Ending → World → Prop} (s_a : Option Addr) (s_l s_c f_g : Nat) (f_f : Array Value) (f_c : Array Value) (w : World) (h : F_slices_IndexFunc_Sbyte_byte s_a s_l s_c f_g f_f f_c w fun v w' => R (.returned v) w') : Calls Tryz.prog N_slices_IndexFunc_Sbyte_byte #[(.slice s_a s_l s_c), (.func (.func f_g) f_f f_c)] w R :=
 calls_of (f := 122) follows_ok Tryz.func122 (Eq.mpr (F_slices_IndexFunc_Sbyte_byte_eq s_a s_l s_c f_g f_f f_c w _) h)

end Go.Proofs.YthceaojjeokclaaGreat
