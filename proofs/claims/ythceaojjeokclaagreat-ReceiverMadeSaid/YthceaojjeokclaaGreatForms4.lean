import Derived.Test.YthceaojjeokclaaGreatBase
import Derived.KernelRfl
namespace Go.Proofs.YthceaojjeokclaaGreat
open Go.Sx Go.RowKit
set_option maxRecDepth 100000

def h_segment_begins : H := (.seq .reg (.seq .reg .leaf))
def F_segment_begins (part : Int) (w : World) (R : Value → WP) : Prop :=
 (bsplit (decide (part = (0 : Int)))
 (R (.bool true) w)
 ((kLet (decide (part = (1 : Int))) fun a =>
 R (.bool a) w)))
theorem F_segment_begins_ok {R : EP} (part : Int) (w : World) (h : F_segment_begins part w fun v w' => R (.returned v) w') : CP N_segment_begins #[(Iv part)] w R :=
 calls_of (k := TTk) (h := h_segment_begins) (f := 104) follows_ok Tryz.func104 (Eq.mpr (by kernel_rfl) h)

def h_receiver_end : H := (.seq .reg (.seq (.seq .reg (.cond (.seq .reg .leaf) .leaf)) (.seq .reg .leaf)))
def F_receiver_end (l_a : OA) (l_l _ : Nat) (w : World) (R : Value → WP) : Prop :=
 (bsplit (decide ((l_l : Int) = (0 : Int)))
 (R (Iv (0 : Int)) w)
 ((kW .i64 ((l_l : Int) - (1 : Int)) fun b =>
 (kIx l_a l_l b fun c =>
 (kLd w ((c.add (b.toNat * 3)).add 2) .i64 fun a =>
 R (Iv a) w)))))
theorem F_receiver_end_ok {R : EP} (l_a : OA) (l_l l_c : Nat) (w : World) (h : F_receiver_end l_a l_l l_c w fun v w' => R (.returned v) w') : CP N_receiver_end #[(.slice l_a l_l l_c)] w R :=
 calls_of (k := TTk) (h := h_receiver_end) (f := 105) follows_ok Tryz.func105 (Eq.mpr (by kernel_rfl) h)

def h_receiver_piece_known_1 : H := (.seq .reg (.seq .reg .leaf))
def F_receiver_piece_known_1 (r_0 r_1 r_2 : Int) (cap0_b cap0_o : Nat) (w : World) (R : Value → WP) : Prop :=
 (kAlloc w #[(Iv r_0), (Iv r_1), (Iv r_2)] Ty_api_Range fun f a =>
 (kLd a ⟨f, 1, none⟩ .i64 fun g =>
 (kLd a ⟨cap0_b, cap0_o + 3, none⟩ .i64 fun b =>
 (bsplit (decide (g ≤ b))
 ((kLd a ⟨f, 2, none⟩ .i64 fun c =>
 (kLd a ⟨cap0_b, cap0_o + 5, none⟩ .i64 fun d =>
 (kLet (decide (c ≥ d)) fun e =>
 R (.bool e) a))))
 (R (.bool false) a)))))
theorem F_receiver_piece_known_1_ok {R : EP} (r_0 r_1 r_2 : Int) (cap0_b cap0_o : Nat) (w : World) (h : F_receiver_piece_known_1 r_0 r_1 r_2 cap0_b cap0_o w fun v w' => R (.returned v) w') : CP N_receiver_piece_known_1 #[(.agg #[Iv r_0, Iv r_1, Iv r_2]), (.pointer (some ⟨cap0_b, cap0_o, none⟩))] w R :=
 calls_of (k := TTk) (h := h_receiver_piece_known_1) (f := 106) follows_ok Tryz.func106 (Eq.mpr (by kernel_rfl) h)

def h_slices_ContainsFunc_Sapi_Range_api_Range : H := (.seq .reg (.seq .reg .leaf))
def F_slices_ContainsFunc_Sapi_Range_api_Range (s_a : OA) (s_l s_c f_g : Nat) (f_f : Array Value) (f_c : Array Value) (w : World) (R : Value → WP) : Prop :=
 (CP N_slices_IndexFunc_Sapi_Range_api_Range #[(.slice s_a s_l s_c), (.func (.func f_g) f_f f_c)] w fun a b =>
 ∃ c : Int, a = .returned (Iv c) ∧
 (kLet (decide (c ≥ (0 : Int))) fun d =>
 R (.bool d) b))
theorem F_slices_ContainsFunc_Sapi_Range_api_Range_ok {R : EP} (s_a : OA) (s_l s_c f_g : Nat) (f_f : Array Value) (f_c : Array Value) (w : World) (h : F_slices_ContainsFunc_Sapi_Range_api_Range s_a s_l s_c f_g f_f f_c w fun v w' => R (.returned v) w') : CP N_slices_ContainsFunc_Sapi_Range_api_Range #[(.slice s_a s_l s_c), (.func (.func f_g) f_f f_c)] w R :=
 calls_of (k := TTk) (h := h_slices_ContainsFunc_Sapi_Range_api_Range) (f := 107) follows_ok Tryz.func107 (Eq.mpr (by kernel_rfl) h)

def h_serial_valid : H := (.seq .reg (.seq .reg .leaf))
def F_serial_valid (n : Int) (w : World) (R : Value → WP) : Prop :=
 (bsplit (decide (n ≥ (1 : Int)))
 ((kLet (decide (n ≤ (32 : Int))) fun a =>
 R (.bool a) w))
 (R (.bool false) w))
theorem F_serial_valid_ok {R : EP} (n : Int) (w : World) (h : F_serial_valid n w fun v w' => R (.returned v) w') : CP N_serial_valid #[(Iv n)] w R :=
 calls_of (k := TTk) (h := h_serial_valid) (f := 109) follows_ok Tryz.func109 (Eq.mpr (by kernel_rfl) h)

def h_segment_Normal : H := (.seq .reg (.seq (.seq .reg (.block (.loop [(7, .p (.int .i64))] [2, 3, 4, 7, 8, 9, 10, 11, 12, 13, 14, 15, 16, 17, 18, 19, 20, 21, 22, 23, 24, 25, 26, 27, 28, 29, 30, 31, 32, 33, 34, 35, 36, 37] (.seq .reg (.seq (.cond .leaf .leaf) (.seq (.block (.seq .reg (.seq (.draw .no (.one 0 .stable (.one 1 .stable (.one 2 .stable (.one 3 .stable (.one 4 .stable (.one 5 .stable (.one 6 .stable (.one 7 .stable (.one 8 .stable (.one 9 .stable (.one 10 .stable (.one 11 .stable (.one 12 .stable (.one 13 .stable (.one 14 .stable (.one 15 .stable (.one 16 .stable (.one 17 .stable (.one 18 .stable (.one 19 .stable (.one 20 .stable (.one 21 .stable (.one 22 .stable (.one 23 .stable (.one 24 .stable .nil)))))))))))))))))))))))))) (.cond (.seq .reg .leaf) .leaf)))) .reg)))))) (.seq .reg .leaf)))
def F_segment_Normal (l_a : OA) (l_l _ : Nat) (w : World) (R : Value → WP) : Prop :=
 (∃ e : Int → Nat × (WP), (e (0 : Int)).2 w ∧
 (∀ (_ : Env) (c : Int) (d : World), (e c).2 d →
 (bsplit (decide (c < (l_l : Int)))
 ((kIx l_a l_l c fun t =>
 (∃ g h i : Int, cellsAt d (t.add (c.toNat * 3)) 0 [(Iv g), (Iv h), (Iv i)] ∧
 (kAlloc d #[Iv (0 : Int), Iv (0 : Int), Iv (0 : Int)] Ty_api_Range fun b m =>
 (sxStore m ⟨b, 0, none⟩ 0 [(Iv g), (Iv h), (Iv i)] fun n =>
 (kDrew n fun a =>
 (kLd a ⟨b, 1, none⟩ .i64 fun o =>
 (bsplit (decide (o < (0 : Int)))
 (R (.bool false) a)
 ((kLd a ⟨b, 1, none⟩ .i64 fun p =>
 (kLd a ⟨b, 2, none⟩ .i64 fun q =>
 (bsplit (decide (p ≥ q))
 (R (.bool false) a)
 ((bsplit (decide (c > (0 : Int)))
 ((kLd a ⟨b, 1, none⟩ .i64 fun r =>
 (kW .i64 (c - (1 : Int)) fun j =>
 (kIx l_a l_l j fun l =>
 (kLd a ((l.add (j.toNat * 3)).add 2) .i64 fun s =>
 (bsplit (decide (r ≤ s))
 (R (.bool false) a)
 ((kW .i64 (c + (1 : Int)) fun k =>
 ((e k).2 a ∧ (e k).1 < (e c).1)))))))))
 ((kW .i64 (c + (1 : Int)) fun f =>
 ((e f).2 a ∧ (e f).1 < (e c).1)))))))))))))))))
 (R (.bool true) d))))
theorem F_segment_Normal_ok {R : EP} (l_a : OA) (l_l l_c : Nat) (w : World) (h : F_segment_Normal l_a l_l l_c w fun v w' => R (.returned v) w') : CP N_segment_Normal #[(.slice l_a l_l l_c)] w R :=
 calls_of (k := TTk) (h := h_segment_Normal) (f := 110) follows_ok Tryz.func110 (Eq.mpr (by kernel_rfl) h)

def h_slices_Concat_Sapi_Range_api_Range : H := (.seq .reg (.seq .reg (.seq (.seq .reg (.block (.loop [(3, .p (.int .i64)), (11, .p (.int .i64))] [3, 5, 11, 12, 13, 14, 15, 16, 17, 18, 19, 20, 21, 22] (.seq .reg (.seq (.cond .leaf .leaf) (.seq (.block (.seq .reg (.seq .reg (.seq .reg (.cond .reg .leaf))))) .reg)))))) (.seq .reg (.seq (.seq .reg (.block (.loop [(6, .p .slice), (27, .p (.int .i64))] [6, 8, 27, 28, 29, 30, 31, 32, 33, 34] (.seq .reg (.seq (.cond .leaf .leaf) (.seq (.block (.seq .reg .reg)) .reg)))))) (.seq .reg .leaf))))))
def F_slices_Concat_Sapi_Range_api_Range (slices_a : OA) (slices_l _ : Nat) (w : World) (R : Value → WP) : Prop :=
 (∃ t : Int → Int → Nat × (WP), (t (0 : Int) (0 : Int)).2 w ∧
 (∀ (_ : Env) (d : Int) (s : Int) (j : World), (t d s).2 j →
 (bsplit (decide (s < (slices_l : Int)))
 ((kIx slices_a slices_l s fun ac =>
 (kLdS j (ac.add (s.toNat * 1)) fun _ x _ =>
 (kW .i64 (d + (x : Int)) fun o =>
 (bsplit (decide (o < (0 : Int)))
 (False)
 ((kW .i64 (s + (1 : Int)) fun u =>
 ((t o u).2 j ∧ (t o u).1 < (t d s).1))))))))
 ((CP N_slices_Grow_Sapi_Range_api_Range #[(.slice none 0 0), (Iv d)] j fun z aa =>
 ∃ l : OA, ∃ n m : Nat, z = .returned (.slice l n m) ∧
 (∃ f : OA → Nat → Nat → Int → Nat × (WP), (f l n m (0 : Int)).2 aa ∧
 (∀ (_ : Env) (a : OA) (c : Nat) (b : Nat) (e : Int) (k : World), (f a c b e).2 k →
 (bsplit (decide (e < (slices_l : Int)))
 ((kIx slices_a slices_l e fun y =>
 (kLdS k (y.add (e.toNat * 1)) fun p r q =>
 (AppP Tryz.prog #[Ty_S_api_Range, Ty_S_api_Range] Ty_S_api_Range #[(.slice a c b), (.slice p r q)] k fun g i h ab =>
 (kW .i64 (e + (1 : Int)) fun v =>
 ((f g i h v).2 ab ∧ (f g i h v).1 < (f a c b e).1))))))
 (R (.slice a c b) k)))))))))
theorem F_slices_Concat_Sapi_Range_api_Range_ok {R : EP} (slices_a : OA) (slices_l slices_c : Nat) (w : World) (h : F_slices_Concat_Sapi_Range_api_Range slices_a slices_l slices_c w fun v w' => R (.returned v) w') : CP N_slices_Concat_Sapi_Range_api_Range #[(.slice slices_a slices_l slices_c)] w R :=
 calls_of (k := TTk) (h := h_slices_Concat_Sapi_Range_api_Range) (f := 111) follows_ok Tryz.func111 (Eq.mpr (by kernel_rfl) h)

def h_status_part : H := (.seq .reg (.seq .reg .leaf))
def F_status_part (r_0 r_1 r_2 : Int) (w : World) (R : Value → WP) : Prop :=
 (kAlloc w #[(Iv r_0), (Iv r_1), (Iv r_2)] Ty_api_Range fun b a =>
 (kLd a ⟨b, 1, none⟩ .i64 fun g =>
 (bsplit (decide (g ≥ (0 : Int)))
 ((kLd a ⟨b, 1, none⟩ .i64 fun c =>
 (kLd a ⟨b, 2, none⟩ .i64 fun d =>
 (bsplit (decide (c < d))
 ((kLd a ⟨b, 2, none⟩ .i64 fun e =>
 (kLet (decide (e ≤ (65535 : Int))) fun f =>
 R (.bool f) a)))
 (R (.bool false) a)))))
 (R (.bool false) a))))
theorem F_status_part_ok {R : EP} (r_0 r_1 r_2 : Int) (w : World) (h : F_status_part r_0 r_1 r_2 w fun v w' => R (.returned v) w') : CP N_status_part #[(.agg #[Iv r_0, Iv r_1, Iv r_2])] w R :=
 calls_of (k := TTk) (h := h_status_part) (f := 112) follows_ok Tryz.func112 (Eq.mpr (by kernel_rfl) h)

def h_ref02_Distance : H := (.seq .reg (.seq (.seq .reg (.cond (.seq .reg .leaf) .leaf)) (.seq .reg .leaf)))
def F_ref02_Distance (n a b : Int) (w : World) (R : Value → WP) : Prop :=
 (CP N_ref02_valid #[(Iv n)] w fun i g =>
 ∃ p : Bool, i = .returned (.bool p) ∧
 (bsplit (!p)
 (R (Iv (-1 : Int)) g)
 ((CP N_ref02_Low #[(Iv n), (Iv b)] g fun c j =>
 ∃ e : Int, c = .returned (Iv e) ∧
 (CP N_ref02_Low #[(Iv n), (Iv a)] j fun d k =>
 ∃ f : Int, d = .returned (Iv f) ∧
 (kW .i64 (e - f) fun q =>
 (kW .u64 (n) fun h =>
 (0 ≤ h ∧ (kW .i64 ((1 : Int) * 2 ^ (min h.toNat (IntKind.bits .i64))) fun l =>
 (kW .i64 (l - (1 : Int)) fun m =>
 (kLet (bAnd .i64 q m) fun o =>
 R (Iv o) k)))))))))))
theorem F_ref02_Distance_ok {R : EP} (n a b : Int) (w : World) (h : F_ref02_Distance n a b w fun v w' => R (.returned v) w') : CP N_ref02_Distance #[(Iv n), (Iv a), (Iv b)] w R :=
 calls_of (k := TTk) (h := h_ref02_Distance) (f := 113) follows_ok Tryz.func113 (Eq.mpr (by kernel_rfl) h)

def h_receiver_partial_1 : H := (.seq .reg (.seq .reg .leaf))
def F_receiver_partial_1 (r_0 r_1 r_2 : Int) (cap0_b cap0_o : Nat) (w : World) (R : Value → WP) : Prop :=
 (kAlloc w #[(Iv r_0), (Iv r_1), (Iv r_2)] Ty_api_Range fun d a =>
 (kLd a ⟨d, 0, none⟩ .i64 fun e =>
 (kLd a ⟨cap0_b, cap0_o, none⟩ .i64 fun b =>
 (kLet (!decide (e = b)) fun c =>
 R (.bool c) a))))
theorem F_receiver_partial_1_ok {R : EP} (r_0 r_1 r_2 : Int) (cap0_b cap0_o : Nat) (w : World) (h : F_receiver_partial_1 r_0 r_1 r_2 cap0_b cap0_o w fun v w' => R (.returned v) w') : CP N_receiver_partial_1 #[(.agg #[Iv r_0, Iv r_1, Iv r_2]), (.pointer (some ⟨cap0_b, cap0_o, none⟩))] w R :=
 calls_of (k := TTk) (h := h_receiver_partial_1) (f := 114) follows_ok Tryz.func114 (Eq.mpr (by kernel_rfl) h)

def h_slices_ContainsFunc_Sbyte_byte : H := (.seq .reg (.seq .reg .leaf))
def F_slices_ContainsFunc_Sbyte_byte (s_a : OA) (s_l s_c f_g : Nat) (f_f : Array Value) (f_c : Array Value) (w : World) (R : Value → WP) : Prop :=
 (CP N_slices_IndexFunc_Sbyte_byte #[(.slice s_a s_l s_c), (.func (.func f_g) f_f f_c)] w fun a b =>
 ∃ c : Int, a = .returned (Iv c) ∧
 (kLet (decide (c ≥ (0 : Int))) fun d =>
 R (.bool d) b))
theorem F_slices_ContainsFunc_Sbyte_byte_ok {R : EP} (s_a : OA) (s_l s_c f_g : Nat) (f_f : Array Value) (f_c : Array Value) (w : World) (h : F_slices_ContainsFunc_Sbyte_byte s_a s_l s_c f_g f_f f_c w fun v w' => R (.returned v) w') : CP N_slices_ContainsFunc_Sbyte_byte #[(.slice s_a s_l s_c), (.func (.func f_g) f_f f_c)] w R :=
 calls_of (k := TTk) (h := h_slices_ContainsFunc_Sbyte_byte) (f := 115) follows_ok Tryz.func115 (Eq.mpr (by kernel_rfl) h)

def h_receiver_partial_2 : H := (.seq .reg (.seq .reg .leaf))
def F_receiver_partial_2 (c : Int) (w : World) (R : Value → WP) : Prop :=
 (kLet (!decide (c = (0 : Int))) fun a =>
 R (.bool a) w)
theorem F_receiver_partial_2_ok {R : EP} (c : Int) (w : World) (h : F_receiver_partial_2 c w fun v w' => R (.returned v) w') : CP N_receiver_partial_2 #[(.int .u8 c)] w R :=
 calls_of (k := TTk) (h := h_receiver_partial_2) (f := 116) follows_ok Tryz.func116 (Eq.mpr (by kernel_rfl) h)

def h_ref21_ends : H := (.seq .reg (.seq .reg .leaf))
def F_ref21_ends (p_0 p_1 p_2 p_3 : Int) (p_4_a : OA) (p_4_l p_4_c : Nat) (w : World) (R : Value → WP) : Prop :=
 (kAlloc w #[(Iv p_0), (Iv p_1), (Iv p_2), (Iv p_3), (.slice p_4_a p_4_l p_4_c)] Ty_api_Piece fun d a =>
 (kLd a ⟨d, 1, none⟩ .i64 fun e =>
 (bsplit (decide (e = (0 : Int)))
 (R (.bool true) a)
 ((kLd a ⟨d, 1, none⟩ .i64 fun b =>
 (kLet (decide (b = (2 : Int))) fun c =>
 R (.bool c) a))))))
theorem F_ref21_ends_ok {R : EP} (p_0 p_1 p_2 p_3 : Int) (p_4_a : OA) (p_4_l p_4_c : Nat) (w : World) (h : F_ref21_ends p_0 p_1 p_2 p_3 p_4_a p_4_l p_4_c w fun v w' => R (.returned v) w') : CP N_ref21_ends #[(.agg #[Iv p_0, Iv p_1, Iv p_2, Iv p_3, .slice p_4_a p_4_l p_4_c])] w R :=
 calls_of (k := TTk) (h := h_ref21_ends) (f := 117) follows_ok Tryz.func117 (Eq.mpr (by kernel_rfl) h)

def h_ref18_Union : H := (.seq .reg (.cut [] [4, 5, 9, 10, 11, 12, 13, 14, 15, 16, 17] (.seq .reg (.cond (.seq .reg .leaf) .leaf)) (.seq .reg (.seq .reg (.cut [(6, .p .slice), (7, .p (.int .i64))] [6, 7, 18, 19, 20, 21, 22, 23, 24, 25, 26, 27, 28, 29, 30, 31, 32, 33, 34, 35, 36, 37, 38, 39, 40, 41, 42, 43, 44, 45, 46, 47, 48, 49] (.block (.loop [(6, .p .slice), (7, .p (.int .i64))] [6, 7, 18, 19, 20, 21, 22, 23, 24, 25, 26, 27, 28, 29, 30, 31, 32, 33, 34, 35, 36, 37, 38, 39, 40, 41, 42, 43, 44, 45, 46, 47, 48, 49] (.cut [] [18, 19, 20, 21, 22, 23, 24, 25, 26, 27, 28, 29, 30, 31] (.seq (.draw .no (.one 0 .stable (.one 1 .stable (.one 2 .stable (.one 3 .stable (.one 4 .stable (.one 5 .stable (.one 6 .stable (.one 7 .stable (.one 8 .stable (.one 9 .stable (.one 10 .stable (.one 11 .stable (.one 12 .stable (.one 13 .stable .nil))))))))))))))) (.cond .leaf .leaf)) (.block (.seq (.draw .blk (.one 0 .stable (.one 1 .pre (.one 2 .pre (.one 3 .pre (.one 4 .pre (.one 5 .pre (.one 6 .pre (.one 7 .pre (.one 8 .pre (.one 9 .pre (.one 10 .pre (.one 11 .pre (.one 12 .pre (.one 13 .keep (.one 14 .keep (.one 15 .keep (.one 16 .stable .nil)))))))))))))))))) .reg))))) (.seq .reg (.cut [(7, .p (.int .i64))] [7, 51, 52, 53, 54, 55, 56, 57, 58, 59, 60, 61, 62, 63, 64, 65, 66, 67, 68, 69, 70, 71, 72, 73, 74, 75, 76, 77, 78, 79, 80, 81, 82, 83, 84] (.block (.loop [(7, .p (.int .i64))] [7, 51, 52, 53, 54, 55, 56, 57, 58, 59, 60, 61, 62, 63, 64, 65, 66, 67, 68, 69, 70, 71, 72, 73, 74, 75, 76, 77, 78, 79, 80, 81, 82, 83, 84] (.cut [] [51, 52, 53, 54, 55, 56, 57, 58, 59, 60, 61, 62, 63, 64] (.seq (.draw .no (.one 0 .stable (.one 1 .stable (.one 2 .stable (.one 3 .stable (.one 4 .stable (.one 5 .stable (.one 6 .stable (.one 7 .stable (.one 8 .stable (.one 9 .stable (.one 10 .stable (.one 11 .stable (.one 12 .stable (.one 13 .stable .nil))))))))))))))) (.cond .leaf .leaf)) (.block (.seq (.draw .blk (.one 0 .pre (.one 1 .pre (.one 2 .pre (.one 3 .pre (.one 4 .pre (.one 5 .pre (.one 6 .pre (.one 7 .pre (.one 8 .pre (.one 9 .pre (.one 10 .stable (.one 11 .stable (.one 12 .stable (.one 13 .stable (.one 14 .stable (.one 15 .stable (.one 16 .pre (.one 17 .keep (.one 18 .stable (.one 19 .last .nil))))))))))))))))))))) .reg))))) (.seq .reg (.seq (.block (.loop [(6, .p .slice), (7, .p (.int .i64))] [6, 7, 89, 90, 91, 92, 93, 94, 95, 96, 97, 98, 99, 100, 101, 102, 103, 104, 105, 106, 107, 108, 109, 110] (.seq (.seq .reg (.cond .leaf .leaf)) (.block (.seq (.draw .blk (.one 0 .stable (.one 1 .pre (.one 2 .pre (.one 3 .pre (.one 4 .pre (.one 5 .pre (.one 6 .pre (.one 7 .pre (.one 8 .pre (.one 9 .pre (.one 10 .pre (.one 11 .pre (.one 12 .pre (.one 13 .keep (.one 14 .keep (.one 15 .keep (.one 16 .stable .nil)))))))))))))))))) .reg))))) (.seq .reg .leaf))))))))))
def F_ref18_Union (l_a : OA) (l_l l_c : Nat) (r_0 r_1 r_2 : Int) (w : World) (R : Value → WP) : Prop :=
 (kAlloc w #[(Iv r_0), (Iv r_1), (Iv r_2)] Ty_api_Range fun bb ca =>
 (∃ ci : WP,
 (∀ (_ : Env)  (br : World), ci br →
 (∃ a0 : OA → Nat → Nat → Int → WP,
 (∀ (_ : Env) (k : OA) (m : Nat) (l : Nat) (bi : Int) (t : World), a0 k m l bi t →
 (∃ y aa ac : Int, cellsAt t ⟨bb, 0, none⟩ 0 [(Iv y), (Iv aa), (Iv ac)] ∧
 (kAlloc t #[Iv (0 : Int), Iv (0 : Int), Iv (0 : Int)] Ty_api_Range fun p bl =>
 (sxStore bl ⟨p, 0, none⟩ 0 [(Iv y), (Iv aa), (Iv ac)] fun bm =>
 (∃ a1 : Int → WP,
 (∀ (_ : Env) (bj : Int) (u : World), a1 bj u →
 (∃ z ab ad : Int, cellsAt u ⟨p, 0, none⟩ 0 [(Iv z), (Iv ab), (Iv ad)] ∧
 (kAlloc u #[(Iv z), (Iv ab), (Iv ad)] Ty_api_Range fun bc bo =>
 (AppP Tryz.prog #[Ty_S_api_Range, Ty_S_api_Range] Ty_S_api_Range #[(.slice k m l), (.slice (some ⟨bc, 0, none⟩) 1 1)] bo fun a4 a6 a5 bp =>
 (∃ s : OA → Nat → Nat → Int → Nat × (WP), (s a4 a6 a5 bj).2 bp ∧
 (∀ (_ : Env) (b : OA) (f : Nat) (d : Nat) (j : Int) (v : World), (s b f d j).2 v →
 (bsplit (decide (j < (l_l : Int)))
 ((kDrew v fun h =>
 (∃ a2 : Nat → Prop,
 (kLd h ⟨bb, 0, none⟩ .i64 fun bu =>
 (kIx l_a l_l j fun bd =>
 (kLd h ((bd.add (j.toNat * 3)).add 1) .i64 fun bv =>
 (kIx l_a l_l j fun be =>
 (kLd h ((be.add (j.toNat * 3)).add 2) .i64 fun bw =>
 (KeepsB a2 h h ∧ (kAlloc h #[(Iv bu), (Iv bv), (Iv bw)] Ty_api_Range fun bf am =>
 (KeepsB a2 h am ∧ (AppP Tryz.prog #[Ty_S_api_Range, Ty_S_api_Range] Ty_S_api_Range #[(.slice b f d), (.slice (some ⟨bf, 0, none⟩) 1 1)] am fun ae ag af an =>
 (KeepsB a2 h an ∧ (kW .i64 (j + (1 : Int)) fun ar =>
 ((s ae ag af ar).2 an ∧ (s ae ag af ar).1 < (s b f d j).1)))))))))))))))
 (R (.tuple #[(.slice b f d), (Iv (0 : Int))]) v)))))))) ∧
 (∃ r : Int → Nat × (WP), (r bi).2 bm ∧
 (∀ (_ : Env) (g : Int) (aj : World), (r g).2 aj →
 (∃ a9 : WP,
 (∀ (_ : Env)  (ak : World), a9 ak →
 (kDrew ak fun i =>
 (∃ ba : Nat → Prop,
 (kLd i ⟨p, 1, none⟩ .i64 fun bz =>
 (kIx l_a l_l g fun b8 =>
 (kLd i ((b8.add (g.toNat * 3)).add 1) .i64 fun b0 =>
 (kLd i ⟨p, 2, none⟩ .i64 fun ao =>
 (kIx l_a l_l g fun bg =>
 (ba ((bg.add (g.toNat * 3)).add 2).block ∧
 (kLd i ((bg.add (g.toNat * 3)).add 2) .i64 fun ap =>
 (kSet i ⟨p, 1, none⟩ (Iv (if b0 < bz then b0 else bz)) fun al =>
 (KeepsB ba i al ∧ (kSet al ⟨p, 2, none⟩ (Iv (if ap > ao then ap else ao)) fun bn =>
 (kW .i64 (g + (1 : Int)) fun aq =>
 ((r aq).2 bn ∧ (r aq).1 < (r g).1))))))))))))))) ∧
 (kDrew aj fun n =>
 (bsplit (decide (g < (l_l : Int)))
 ((kIx l_a l_l g fun b7 =>
 (kLd n ((b7.add (g.toNat * 3)).add 1) .i64 fun cg =>
 (kLd n ⟨p, 2, none⟩ .i64 fun ch =>
 (bsplit (decide (cg ≤ ch))
 (a9 n)
 (a1 g n))))))
 (a1 g n))))))))))) ∧
 (∃ a7 : OA → Nat → Nat → Int → Nat × (WP), (a7 none 0 0 (0 : Int)).2 br ∧
 (∀ (_ : Env) (a : OA) (e : Nat) (c : Nat) (q : Int) (bs : World), (a7 a e c q).2 bs →
 (∃ a8 : WP,
 (∀ (_ : Env)  (bt : World), a8 bt →
 (kDrew bt fun o =>
 (∃ b1 : Nat → Prop,
 (kLd o ⟨bb, 0, none⟩ .i64 fun cd =>
 (kIx l_a l_l q fun b4 =>
 (kLd o ((b4.add (q.toNat * 3)).add 1) .i64 fun ce =>
 (kIx l_a l_l q fun b5 =>
 (kLd o ((b5.add (q.toNat * 3)).add 2) .i64 fun cf =>
 (KeepsB b1 o o ∧ (kAlloc o #[(Iv cd), (Iv ce), (Iv cf)] Ty_api_Range fun b6 ah =>
 (KeepsB b1 o ah ∧ (AppP Tryz.prog #[Ty_S_api_Range, Ty_S_api_Range] Ty_S_api_Range #[(.slice a e c), (.slice (some ⟨b6, 0, none⟩) 1 1)] ah fun ax az ay ai =>
 (KeepsB b1 o ai ∧ (kW .i64 (q + (1 : Int)) fun bx =>
 ((a7 ax az ay bx).2 ai ∧ (a7 ax az ay bx).1 < (a7 a e c q).1))))))))))))))) ∧
 (kDrew bs fun x =>
 (bsplit (decide (q < (l_l : Int)))
 ((kIx l_a l_l q fun b3 =>
 (kLd x ((b3.add (q.toNat * 3)).add 2) .i64 fun ck =>
 (kLd x ⟨bb, 1, none⟩ .i64 fun cc =>
 (bsplit (decide (ck < cc))
 (a8 x)
 (a0 a e c q x))))))
 (a0 a e c q x)))))))) ∧
 (CP N_ref18_Normal #[(.slice l_a l_l l_c)] ca fun b9 a3 =>
 ∃ cj : Bool, b9 = .returned (.bool cj) ∧
 (bsplit (!cj)
 (R (.tuple #[(.slice none 0 0), (Iv (4 : Int))]) a3)
 ((∃ au av aw : Int, cellsAt a3 ⟨bb, 0, none⟩ 0 [(Iv au), (Iv av), (Iv aw)] ∧
 (kAlloc a3 #[(Iv au), (Iv av), (Iv aw)] Ty_api_Range fun b2 cb =>
 (CP N_ref18_Normal #[(.slice (some ⟨b2, 0, none⟩) 1 1)] cb fun bh bq =>
 ∃ bk : Bool, bh = .returned (.bool bk) ∧
 (bsplit (!bk)
 (R (.tuple #[(.slice none 0 0), (Iv (4 : Int))]) bq)
 (ci bq))))))))))
theorem F_ref18_Union_ok {R : EP} (l_a : OA) (l_l l_c : Nat) (r_0 r_1 r_2 : Int) (w : World) (h : F_ref18_Union l_a l_l l_c r_0 r_1 r_2 w fun v w' => R (.returned v) w') : CP N_ref18_Union #[(.slice l_a l_l l_c), (.agg #[Iv r_0, Iv r_1, Iv r_2])] w R :=
 calls_of (k := TTk) (h := h_ref18_Union) (f := 118) follows_ok Tryz.func118 (Eq.mpr (by kernel_rfl) h)

def h_slices_IndexFunc_Sapi_Range_api_Range : H := (.seq .reg (.seq (.seq .reg (.block (.loop [(8, .p (.int .i64))] [4, 5, 8, 9, 10, 11, 12, 13, 14, 15, 16, 17, 18] (.seq .reg (.seq (.cond .leaf .leaf) (.seq (.block (.seq .reg (.seq .reg (.cond (.seq .reg .leaf) .leaf)))) .reg)))))) (.seq .reg .leaf)))
def F_slices_IndexFunc_Sapi_Range_api_Range (s_a : OA) (s_l _ f_g : Nat) (f_f : Array Value) (f_c : Array Value) (w : World) (R : Value → WP) : Prop :=
 (∃ f : Int → Nat × (WP), (f (0 : Int)).2 w ∧
 (∀ (_ : Env) (e : Int) (a : World), (f e).2 a →
 (bsplit (decide (e < (s_l : Int)))
 ((kIx s_a s_l e fun k =>
 (∃ b c d : Int, cellsAt a (k.add (e.toNat * 3)) 0 [(Iv b), (Iv c), (Iv d)] ∧
 (okFn Tryz.prog f_g = true ∧ CP f_g (f_f ++ #[(.agg #[Iv b, Iv c, Iv d])] ++ f_c) a fun i g =>
 ∃ j : Bool, i = .returned (.bool j) ∧
 (bsplit j
 (R (Iv e) g)
 ((kW .i64 (e + (1 : Int)) fun h =>
 ((f h).2 g ∧ (f h).1 < (f e).1))))))))
 (R (Iv (-1 : Int)) a))))
theorem F_slices_IndexFunc_Sapi_Range_api_Range_ok {R : EP} (s_a : OA) (s_l s_c f_g : Nat) (f_f : Array Value) (f_c : Array Value) (w : World) (h : F_slices_IndexFunc_Sapi_Range_api_Range s_a s_l s_c f_g f_f f_c w fun v w' => R (.returned v) w') : CP N_slices_IndexFunc_Sapi_Range_api_Range #[(.slice s_a s_l s_c), (.func (.func f_g) f_f f_c)] w R :=
 calls_of (k := TTk) (h := h_slices_IndexFunc_Sapi_Range_api_Range) (f := 119) follows_ok Tryz.func119 (Eq.mpr (by kernel_rfl) h)

def h_slices_Grow_Sapi_Range_api_Range : H := (.seq .reg (.cut [] [5, 6, 7] (.seq .reg (.cond .reg .leaf)) (.seq (.seq .reg (.seq .reg (.cond .reg .leaf))) (.seq .reg .leaf))))
def F_slices_Grow_Sapi_Range_api_Range (s_a : OA) (s_l s_c : Nat) (n : Int) (w : World) (R : Value → WP) : Prop :=
 (∃ f : WP,
 (∀ (_ : Env)  (b : World), f b →
 (kW .i64 ((s_c : Int) - (s_l : Int)) fun g =>
 (kW .i64 (n - g) fun c =>
 (bsplit (decide (c > (0 : Int)))
 (((0 ≤ (s_c : Int) ∧ (s_c : Int) ≤ ((s_c : Nat) : Int)) ∧ (AppP Tryz.prog #[Ty_S_api_Range, Ty_int] Ty_S_api_Range #[(.slice (slAddr s_c 0 3 s_a) ((s_c : Int).toNat - 0) (s_c - 0)), (Iv c)] b fun d _ a e =>
 ((0 ≤ (s_l : Int) ∧ (s_l : Int) ≤ ((a : Nat) : Int)) ∧ R (.slice (slAddr a 0 3 d) ((s_l : Int).toNat - 0) (a - 0)) e))))
 (R (.slice s_a s_l s_c) b))))) ∧
 (bsplit (decide (n < (0 : Int)))
 (False)
 (f w)))
theorem F_slices_Grow_Sapi_Range_api_Range_ok {R : EP} (s_a : OA) (s_l s_c : Nat) (n : Int) (w : World) (h : F_slices_Grow_Sapi_Range_api_Range s_a s_l s_c n w fun v w' => R (.returned v) w') : CP N_slices_Grow_Sapi_Range_api_Range #[(.slice s_a s_l s_c), (Iv n)] w R :=
 calls_of (k := TTk) (h := h_slices_Grow_Sapi_Range_api_Range) (f := 121) follows_ok Tryz.func121 (Eq.mpr (by kernel_rfl) h)

def h_slices_IndexFunc_Sbyte_byte : H := (.seq .reg (.seq (.seq .reg (.block (.loop [(8, .p (.int .i64))] [4, 5, 8, 9, 10, 11, 12, 13, 14, 15, 16, 17, 18] (.seq .reg (.seq (.cond .leaf .leaf) (.seq (.block (.seq .reg (.seq .reg (.cond (.seq .reg .leaf) .leaf)))) .reg)))))) (.seq .reg .leaf)))
def F_slices_IndexFunc_Sbyte_byte (s_a : OA) (s_l _ f_g : Nat) (f_f : Array Value) (f_c : Array Value) (w : World) (R : Value → WP) : Prop :=
 (∃ c : Int → Nat × (WP), (c (0 : Int)).2 w ∧
 (∀ (_ : Env) (b : Int) (a : World), (c b).2 a →
 (bsplit (decide (b < (s_l : Int)))
 ((kIx s_a s_l b fun i =>
 (kLd a (i.add (b.toNat * 1)) .u8 fun g =>
 (okFn Tryz.prog f_g = true ∧ CP f_g (f_f ++ #[(.int .u8 g)] ++ f_c) a fun f d =>
 ∃ h : Bool, f = .returned (.bool h) ∧
 (bsplit h
 (R (Iv b) d)
 ((kW .i64 (b + (1 : Int)) fun e =>
 ((c e).2 d ∧ (c e).1 < (c b).1))))))))
 (R (Iv (-1 : Int)) a))))
theorem F_slices_IndexFunc_Sbyte_byte_ok {R : EP} (s_a : OA) (s_l s_c f_g : Nat) (f_f : Array Value) (f_c : Array Value) (w : World) (h : F_slices_IndexFunc_Sbyte_byte s_a s_l s_c f_g f_f f_c w fun v w' => R (.returned v) w') : CP N_slices_IndexFunc_Sbyte_byte #[(.slice s_a s_l s_c), (.func (.func f_g) f_f f_c)] w R :=
 calls_of (k := TTk) (h := h_slices_IndexFunc_Sbyte_byte) (f := 122) follows_ok Tryz.func122 (Eq.mpr (by kernel_rfl) h)

end Go.Proofs.YthceaojjeokclaaGreat
