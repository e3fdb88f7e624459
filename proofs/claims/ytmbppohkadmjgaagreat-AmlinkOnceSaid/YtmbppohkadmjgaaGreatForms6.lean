import Derived.Test.YtmbppohkadmjgaaGreatBase
import Derived.KernelRfl
namespace Go.Proofs.YtmbppohkadmjgaaGreat
open Go.Sx Go.RowKit
set_option maxRecDepth 100000

def h_receiver_partial_1 : H := (sr sl)
def F_receiver_partial_1 (r_0 r_1 r_2 : Int) (cap0_b cap0_o : Nat) (w : World) (R : Value -> WP) : Prop :=
 (kAlloc w #[(Iv r_0), (Iv r_1), (Iv r_2)] Ty_api_Range fun d a =>
 (kLd a ⟨d, 0, none⟩ .i64 fun e =>
 (kLd a ⟨cap0_b, cap0_o, none⟩ .i64 fun b =>
 (kLet (!decide (e = b)) fun c =>
 R (.bool c) a))))
theorem F_receiver_partial_1_ok {R : EP} (r_0 r_1 r_2 : Int) (cap0_b cap0_o : Nat) (w : World) (h : F_receiver_partial_1 r_0 r_1 r_2 cap0_b cap0_o w fun v w' => R (.returned v) w') : CP N_receiver_partial_1 #[(.agg #[Iv r_0, Iv r_1, Iv r_2]), (.pointer (some ⟨cap0_b, cap0_o, none⟩))] w R :=
 calls_of (k := TTk) (h := h_receiver_partial_1) (f := 190) follows_ok Tryz.func190 (Eq.mpr (by kernel_rfl) h)

def h_segment_Gaps : H := (sr (.seq sc (.cut [] ([6, 7, 8] ++ rg 16 18) (sr sc) (sr (sr (.seq (sr (.block (.loop [(9, .p .slice), (10, .p (.int .i64)), (42, .p (.int .i64))] ([9, 10, 12] ++ rg 42 19) (sr (.seq (.cond .leaf .leaf) (.seq (.block (sr (.seq (sr (.cond .reg .leaf)) .reg))) .reg)))))) sl))))))
def F_segment_Gaps (l_a : OA) (l_l l_c : Nat) (sn length : Int) (w : World) (R : Value -> WP) : Prop :=
 (CP N_segment_Normal #[(.slice l_a l_l l_c)] w fun ah f =>
 ∃ aq : Bool, ah = .returned (.bool aq) /\
 (bsplit (!aq)
 (R (.tuple #[(.slice none 0 0), (Iv (4 : Int))]) f)
 ((∃ ad : WP,
 (∀ (_ : Env)  (x : World), ad x ->
 (CP N_slices_Clone_Sapi_Range_api_Range #[(.slice l_a l_l l_c)] x fun v ai =>
 ∃ n : OA, ∃ p o : Nat, v = .returned (.slice n p o) /\
 (kAlloc ai #[(Iv (0 : Int)), (Iv length), (Iv length)] Ty_api_Range fun ae aj =>
 (AppP Tryz.prog #[Ty_S_api_Range, Ty_S_api_Range] Ty_S_api_Range #[(.slice n p o), (.slice (some ⟨ae, 0, none⟩) 1 1)] aj fun ac u _ ak =>
 (∃ m : OA -> Nat -> Nat -> Int -> Int -> Nat × (WP), (m none 0 0 (0 : Int) (0 : Int)).2 ak /\
 (∀ (_ : Env) (a : OA) (c : Nat) (b : Nat) (d : Int) (e : Int) (l : World), (m a c b d e).2 l ->
 (bsplit (decide (e < (u : Int)))
 ((kIx ac u e fun af =>
 (∃ r s t : Int, cellsAt l (af.add (e.toNat * 3)) 0 [(Iv r), (Iv s), (Iv t)] /\
 (kAlloc l #[Iv (0 : Int), Iv (0 : Int), Iv (0 : Int)] Ty_api_Range fun g al =>
 (sxStore al ⟨g, 0, none⟩ 0 [(Iv r), (Iv s), (Iv t)] fun h =>
 (kLd h ⟨g, 1, none⟩ .i64 fun ao =>
 (bsplit (decide (ao > d))
 ((kLd h ⟨g, 1, none⟩ .i64 fun ap =>
 (kAlloc h #[(Iv sn), (Iv d), (Iv ap)] Ty_api_Range fun ag am =>
 (AppP Tryz.prog #[Ty_S_api_Range, Ty_S_api_Range] Ty_S_api_Range #[(.slice a c b), (.slice (some ⟨ag, 0, none⟩) 1 1)] am fun i k j q =>
 (kLd q ⟨g, 2, none⟩ .i64 fun y =>
 (kW .i64 (e + (1 : Int)) fun z =>
 ((m i k j y z).2 q /\ (m i k j y z).1 < (m a c b d e).1)))))))
 ((kLd h ⟨g, 2, none⟩ .i64 fun aa =>
 (kW .i64 (e + (1 : Int)) fun ab =>
 ((m a c b aa ab).2 h /\ (m a c b aa ab).1 < (m a c b d e).1)))))))))))
 (R (.tuple #[(.slice a c b), (Iv (0 : Int))]) l)))))))) /\
 (bsplit (decide (length < (0 : Int)))
 (R (.tuple #[(.slice none 0 0), (Iv (3 : Int))]) f)
 ((bsplit (decide ((l_l : Int) > (0 : Int)))
 ((kW .i64 ((l_l : Int) - (1 : Int)) fun ar =>
 (kIx l_a l_l ar fun au =>
 (kLd f ((au.add (ar.toNat * 3)).add 2) .i64 fun an =>
 (bsplit (decide (length < an))
 (R (.tuple #[(.slice none 0 0), (Iv (3 : Int))]) f)
 (ad f))))))
 (ad f))))))))
theorem F_segment_Gaps_ok {R : EP} (l_a : OA) (l_l l_c : Nat) (sn length : Int) (w : World) (h : F_segment_Gaps l_a l_l l_c sn length w fun v w' => R (.returned v) w') : CP N_segment_Gaps #[(.slice l_a l_l l_c), (Iv sn), (Iv length)] w R :=
 calls_of (k := TTk) (h := h_segment_Gaps) (f := 191) follows_ok Tryz.func191 (Eq.mpr (by kernel_rfl) h)

def h_slices_ContainsFunc_Sbyte_byte : H := (sr sl)
def F_slices_ContainsFunc_Sbyte_byte (s_a : OA) (s_l s_c f_g : Nat) (f_f : Array Value) (f_c : Array Value) (w : World) (R : Value -> WP) : Prop :=
 (CP N_slices_IndexFunc_Sbyte_byte #[(.slice s_a s_l s_c), (.func (.func f_g) f_f f_c)] w fun a b =>
 ∃ c : Int, a = .returned (Iv c) /\
 (kLet (decide (c >= (0 : Int))) fun d =>
 R (.bool d) b))
theorem F_slices_ContainsFunc_Sbyte_byte_ok {R : EP} (s_a : OA) (s_l s_c f_g : Nat) (f_f : Array Value) (f_c : Array Value) (w : World) (h : F_slices_ContainsFunc_Sbyte_byte s_a s_l s_c f_g f_f f_c w fun v w' => R (.returned v) w') : CP N_slices_ContainsFunc_Sbyte_byte #[(.slice s_a s_l s_c), (.func (.func f_g) f_f f_c)] w R :=
 calls_of (k := TTk) (h := h_slices_ContainsFunc_Sbyte_byte) (f := 192) follows_ok Tryz.func192 (Eq.mpr (by kernel_rfl) h)

def h_receiver_partial_2 : H := (sr sl)
def F_receiver_partial_2 (c : Int) (w : World) (R : Value -> WP) : Prop :=
 (kLet (!decide (c = (0 : Int))) fun a =>
 R (.bool a) w)
theorem F_receiver_partial_2_ok {R : EP} (c : Int) (w : World) (h : F_receiver_partial_2 c w fun v w' => R (.returned v) w') : CP N_receiver_partial_2 #[(.int .u8 c)] w R :=
 calls_of (k := TTk) (h := h_receiver_partial_2) (f := 193) follows_ok Tryz.func193 (Eq.mpr (by kernel_rfl) h)

def h_slices_IndexFunc_Sapi_Range_api_Range : H := (sr (.seq (sr (.block (.loop [(8, .p (.int .i64))] ([4, 5] ++ rg 8 11) (sr (.seq (.cond .leaf .leaf) (.seq (.block (sr sc)) .reg)))))) sl))
def F_slices_IndexFunc_Sapi_Range_api_Range (s_a : OA) (s_l _ f_g : Nat) (f_f : Array Value) (f_c : Array Value) (w : World) (R : Value -> WP) : Prop :=
 (∃ f : Int -> Nat × (WP), (f (0 : Int)).2 w /\
 (∀ (_ : Env) (e : Int) (a : World), (f e).2 a ->
 (bsplit (decide (e < (s_l : Int)))
 ((kIx s_a s_l e fun k =>
 (∃ b c d : Int, cellsAt a (k.add (e.toNat * 3)) 0 [(Iv b), (Iv c), (Iv d)] /\
 (okFn Tryz.prog f_g = true /\ CP f_g (f_f ++ #[(.agg #[Iv b, Iv c, Iv d])] ++ f_c) a fun i g =>
 ∃ j : Bool, i = .returned (.bool j) /\
 (bsplit j
 (R (Iv e) g)
 ((kW .i64 (e + (1 : Int)) fun h =>
 ((f h).2 g /\ (f h).1 < (f e).1))))))))
 (R (Iv (-1 : Int)) a))))
theorem F_slices_IndexFunc_Sapi_Range_api_Range_ok {R : EP} (s_a : OA) (s_l s_c f_g : Nat) (f_f : Array Value) (f_c : Array Value) (w : World) (h : F_slices_IndexFunc_Sapi_Range_api_Range s_a s_l s_c f_g f_f f_c w fun v w' => R (.returned v) w') : CP N_slices_IndexFunc_Sapi_Range_api_Range #[(.slice s_a s_l s_c), (.func (.func f_g) f_f f_c)] w R :=
 calls_of (k := TTk) (h := h_slices_IndexFunc_Sapi_Range_api_Range) (f := 194) follows_ok Tryz.func194 (Eq.mpr (by kernel_rfl) h)

def h_slices_Grow_Sapi_Range_api_Range : H := (sr (.cut [] [5, 6, 7] (sr (.cond .reg .leaf)) (.seq (sr (sr (.cond .reg .leaf))) sl)))
def F_slices_Grow_Sapi_Range_api_Range (s_a : OA) (s_l s_c : Nat) (n : Int) (w : World) (R : Value -> WP) : Prop :=
 (∃ f : WP,
 (∀ (_ : Env)  (b : World), f b ->
 (kW .i64 ((s_c : Int) - (s_l : Int)) fun g =>
 (kW .i64 (n - g) fun c =>
 (bsplit (decide (c > (0 : Int)))
 (((0 <= (s_c : Int) /\ (s_c : Int) <= ((s_c : Nat) : Int)) /\ (AppP Tryz.prog #[Ty_S_api_Range, Ty_int] Ty_S_api_Range #[(.slice (slAddr s_c 0 3 s_a) ((s_c : Int).toNat - 0) (s_c - 0)), (Iv c)] b fun d _ a e =>
 ((0 <= (s_l : Int) /\ (s_l : Int) <= ((a : Nat) : Int)) /\ R (.slice (slAddr a 0 3 d) ((s_l : Int).toNat - 0) (a - 0)) e))))
 (R (.slice s_a s_l s_c) b))))) /\
 (bsplit (decide (n < (0 : Int)))
 (False)
 (f w)))
theorem F_slices_Grow_Sapi_Range_api_Range_ok {R : EP} (s_a : OA) (s_l s_c : Nat) (n : Int) (w : World) (h : F_slices_Grow_Sapi_Range_api_Range s_a s_l s_c n w fun v w' => R (.returned v) w') : CP N_slices_Grow_Sapi_Range_api_Range #[(.slice s_a s_l s_c), (Iv n)] w R :=
 calls_of (k := TTk) (h := h_slices_Grow_Sapi_Range_api_Range) (f := 196) follows_ok Tryz.func196 (Eq.mpr (by kernel_rfl) h)

def h_sender_side_unit_1 : H := (sr sl)
def F_sender_side_unit_1 (r_0 r_1 r_2 : Int) (cap0_b cap0_o : Nat) (w : World) (R : Value -> WP) : Prop :=
 (kAlloc w #[(Iv r_0), (Iv r_1), (Iv r_2)] Ty_api_Range fun f a =>
 (kLd a ⟨f, 0, none⟩ .i64 fun g =>
 (kLd a ⟨cap0_b, cap0_o, none⟩ .i64 fun b =>
 (bsplit (!decide (g = b))
 (R (.bool true) a)
 ((kLd a ⟨f, 2, none⟩ .i64 fun c =>
 (kLd a ⟨cap0_b, cap0_o + 2, none⟩ .i64 fun d =>
 (kLet (decide (c > d)) fun e =>
 R (.bool e) a))))))))
theorem F_sender_side_unit_1_ok {R : EP} (r_0 r_1 r_2 : Int) (cap0_b cap0_o : Nat) (w : World) (h : F_sender_side_unit_1 r_0 r_1 r_2 cap0_b cap0_o w fun v w' => R (.returned v) w') : CP N_sender_side_unit_1 #[(.agg #[Iv r_0, Iv r_1, Iv r_2]), (.pointer (some ⟨cap0_b, cap0_o, none⟩))] w R :=
 calls_of (k := TTk) (h := h_sender_side_unit_1) (f := 197) follows_ok Tryz.func197 (Eq.mpr (by kernel_rfl) h)

def h_slices_IndexFunc_Sapi_Partial_api_Partial : H := (sr (.seq (sr (.block (.loop [(8, .p (.int .i64))] ([4, 5] ++ rg 8 11) (sr (.seq (.cond .leaf .leaf) (.seq (.block (sr sc)) .reg)))))) sl))
def F_slices_IndexFunc_Sapi_Partial_api_Partial (s_a : OA) (s_l _ f_g : Nat) (f_f : Array Value) (f_c : Array Value) (w : World) (R : Value -> WP) : Prop :=
 (∃ l : Int -> Nat × (WP), (l (0 : Int)).2 w /\
 (∀ (_ : Env) (k : Int) (g : World), (l k).2 g ->
 (bsplit (decide (k < (s_l : Int)))
 ((kIx s_a s_l k fun q =>
 (∃ h : Int, ∃ i : Bool, ∃ j : Int, ∃ a : OA, ∃ c b : Nat, ∃ d : OA, ∃ f e : Nat, cellsAt g (q.add (k.toNat * 5)) 0 [(Iv h), (.bool i), (Iv j), (.slice a c b), (.slice d f e)] /\
 (okFn Tryz.prog f_g = true /\ CP f_g (f_f ++ #[(.agg #[Iv h, .bool i, Iv j, .slice a c b, .slice d f e])] ++ f_c) g fun o m =>
 ∃ p : Bool, o = .returned (.bool p) /\
 (bsplit p
 (R (Iv k) m)
 ((kW .i64 (k + (1 : Int)) fun n =>
 ((l n).2 m /\ (l n).1 < (l k).1))))))))
 (R (Iv (-1 : Int)) g))))
theorem F_slices_IndexFunc_Sapi_Partial_api_Partial_ok {R : EP} (s_a : OA) (s_l s_c f_g : Nat) (f_f : Array Value) (f_c : Array Value) (w : World) (h : F_slices_IndexFunc_Sapi_Partial_api_Partial s_a s_l s_c f_g f_f f_c w fun v w' => R (.returned v) w') : CP N_slices_IndexFunc_Sapi_Partial_api_Partial #[(.slice s_a s_l s_c), (.func (.func f_g) f_f f_c)] w R :=
 calls_of (k := TTk) (h := h_slices_IndexFunc_Sapi_Partial_api_Partial) (f := 198) follows_ok Tryz.func198 (Eq.mpr (by kernel_rfl) h)

def h_receiver_side_missing_1 : H := (sr sl)
def F_receiver_side_missing_1 (p_0 : Int) (p_1 : Bool) (p_2 : Int) (p_3_a : OA) (p_3_l p_3_c : Nat) (p_4_a : OA) (p_4_l p_4_c cap0_b cap0_o : Nat) (w : World) (R : Value -> WP) : Prop :=
 (kAlloc w #[(Iv p_0), (.bool p_1), (Iv p_2), (.slice p_3_a p_3_l p_3_c), (.slice p_4_a p_4_l p_4_c)] Ty_api_Partial fun d a =>
 (kLd a ⟨d, 0, none⟩ .i64 fun e =>
 (kLd a ⟨cap0_b, cap0_o, none⟩ .i64 fun b =>
 (kLet (decide (e = b)) fun c =>
 R (.bool c) a))))
theorem F_receiver_side_missing_1_ok {R : EP} (p_0 : Int) (p_1 : Bool) (p_2 : Int) (p_3_a : OA) (p_3_l p_3_c : Nat) (p_4_a : OA) (p_4_l p_4_c cap0_b cap0_o : Nat) (w : World) (h : F_receiver_side_missing_1 p_0 p_1 p_2 p_3_a p_3_l p_3_c p_4_a p_4_l p_4_c cap0_b cap0_o w fun v w' => R (.returned v) w') : CP N_receiver_side_missing_1 #[(.agg #[Iv p_0, .bool p_1, Iv p_2, .slice p_3_a p_3_l p_3_c, .slice p_4_a p_4_l p_4_c]), (.pointer (some ⟨cap0_b, cap0_o, none⟩))] w R :=
 calls_of (k := TTk) (h := h_receiver_side_missing_1) (f := 199) follows_ok Tryz.func199 (Eq.mpr (by kernel_rfl) h)

def h_slices_IndexFunc_Sbyte_byte : H := (sr (.seq (sr (.block (.loop [(8, .p (.int .i64))] ([4, 5] ++ rg 8 11) (sr (.seq (.cond .leaf .leaf) (.seq (.block (sr sc)) .reg)))))) sl))
def F_slices_IndexFunc_Sbyte_byte (s_a : OA) (s_l _ f_g : Nat) (f_f : Array Value) (f_c : Array Value) (w : World) (R : Value -> WP) : Prop :=
 (∃ c : Int -> Nat × (WP), (c (0 : Int)).2 w /\
 (∀ (_ : Env) (b : Int) (a : World), (c b).2 a ->
 (bsplit (decide (b < (s_l : Int)))
 ((kIx s_a s_l b fun i =>
 (kLd a (i.add (b.toNat * 1)) .u8 fun g =>
 (okFn Tryz.prog f_g = true /\ CP f_g (f_f ++ #[(.int .u8 g)] ++ f_c) a fun f d =>
 ∃ h : Bool, f = .returned (.bool h) /\
 (bsplit h
 (R (Iv b) d)
 ((kW .i64 (b + (1 : Int)) fun e =>
 ((c e).2 d /\ (c e).1 < (c b).1))))))))
 (R (Iv (-1 : Int)) a))))
theorem F_slices_IndexFunc_Sbyte_byte_ok {R : EP} (s_a : OA) (s_l s_c f_g : Nat) (f_f : Array Value) (f_c : Array Value) (w : World) (h : F_slices_IndexFunc_Sbyte_byte s_a s_l s_c f_g f_f f_c w fun v w' => R (.returned v) w') : CP N_slices_IndexFunc_Sbyte_byte #[(.slice s_a s_l s_c), (.func (.func f_g) f_f f_c)] w R :=
 calls_of (k := TTk) (h := h_slices_IndexFunc_Sbyte_byte) (f := 200) follows_ok Tryz.func200 (Eq.mpr (by kernel_rfl) h)

end Go.Proofs.YtmbppohkadmjgaaGreat
