import Derived.Test.YtmbppohkadmjgaaGreatBase
import Derived.KernelRfl
namespace Go.Proofs.YtmbppohkadmjgaaGreat
open Go.Sx Go.RowKit
set_option maxRecDepth 100000

def h_sender_between : H := (sr sl)
def F_sender_between (x least most : Int) (w : World) (R : Value -> WP) : Prop :=
 (bsplit (decide (x >= least))
 ((kLet (decide (x <= most)) fun a =>
 R (.bool a) w))
 (R (.bool false) w))
theorem F_sender_between_ok {R : EP} (x least most : Int) (w : World) (h : F_sender_between x least most w fun v w' => R (.returned v) w') : CP N_sender_between #[(Iv x), (Iv least), (Iv most)] w R :=
 calls_of (k := TTk) (h := h_sender_between) (f := 122) follows_ok Tryz.func122 (Eq.mpr (by kernel_rfl) h)

def h_receiver_side_number : H := (sr sl)
def F_receiver_side_number (s_b s_o : Nat) (n : Int) (w : World) (R : Value -> WP) : Prop :=
 (bsplit (decide (n >= (0 : Int)))
 ((kLd w ⟨s_b, s_o, none⟩ .i64 fun c =>
 (0 <= c /\ (kW .i64 ((1 : Int) * 2 ^ (min c.toNat (IntKind.bits .i64))) fun a =>
 (kLet (decide (n < a)) fun b =>
 R (.bool b) w)))))
 (R (.bool false) w))
theorem F_receiver_side_number_ok {R : EP} (s_b s_o : Nat) (n : Int) (w : World) (h : F_receiver_side_number s_b s_o n w fun v w' => R (.returned v) w') : CP N_receiver_side_number #[(.pointer (some ⟨s_b, s_o, none⟩)), (Iv n)] w R :=
 calls_of (k := TTk) (h := h_receiver_side_number) (f := 123) follows_ok Tryz.func123 (Eq.mpr (by kernel_rfl) h)

def h_receiver_side_partials : H := (sr (sr (.seq (sr (.cond (.seq (.draw .no (so 0 12 .nil)) .leaf) .leaf)) (.seq (sr (.block (.loop [(32, .p (.int .i64))] ([2, 4, 5] ++ rg 32 53) (sr (.seq (.cond .leaf .leaf) (.seq (.block (sr (.cut [(83, .p .bool)] (rg 37 47) (.draw .blk (po 0 3 (ko 3 1 (so 4 3 (ko 7 1 (so 8 6 (so 15 6 (ko 14 1 (ko 21 1 (so 22 9 (so 32 11 (ko 31 1 (ko 43 1 (so 44 3 .nil)))))))))))))) (.cond sl .leaf)))) .reg)))))) (sr (.seq (.draw .blk (po 0 25 (so 26 5 (ko 25 1 (so 31 3 .nil))))) .leaf))))))
def F_receiver_side_partials (s_b s_o : Nat) (w : World) (R : Value -> WP) : Prop :=
 (kLdS w ⟨s_b, s_o + 13, none⟩ fun _ ag _ =>
 (bsplit (decide ((ag : Int) = (0 : Int)))
 ((kDrew w fun ay =>
 (kLd ay ⟨s_b, s_o + 7, none⟩ .i64 fun ck =>
 (kLd ay ⟨s_b, s_o + 6, none⟩ .i64 fun cb =>
 (kLet (decide (ck = cb)) fun cc =>
 R (.bool cc) ay)))))
 ((kLdS w ⟨s_b, s_o + 13, none⟩ fun a2 ah _ =>
 (∃ bc : Int -> Nat × (WP), (bc (0 : Int)).2 w /\
 (∀ (_ : Env) (d : Int) (x : World), (bc d).2 x ->
 (bsplit (decide (d < (ah : Int)))
 ((kIx a2 ah d fun cj =>
 (∃ au : Int, ∃ av : Bool, ∃ aw : Int, ∃ q : OA, ∃ s r : Nat, ∃ t : OA, ∃ v u : Nat, cellsAt x (cj.add (d.toNat * 5)) 0 [(Iv au), (.bool av), (Iv aw), (.slice q s r), (.slice t v u)] /\
 (kAlloc x #[Iv (0 : Int), .bool false, Iv (0 : Int), .slice none 0 0, .slice none 0 0] Ty_api_Partial fun c b9 =>
 (sxStore b9 ⟨c, 0, none⟩ 0 [(Iv au), (.bool av), (Iv aw), (.slice q s r), (.slice t v u)] fun ca =>
 (∃ bb : Bool -> WP,
 (∀ (_ : Env) (ao : Bool) (z : World), bb ao z ->
 (bsplit ao
 (R (.bool false) z)
 ((kW .i64 (d + (1 : Int)) fun ap =>
 ((bc ap).2 z /\ (bc ap).1 < (bc d).1))))) /\
 (kDrew ca fun b =>
 (∃ y : Nat -> Prop,
 (kLd b ⟨c, 0, none⟩ .i64 fun cd =>
 (CP N_receiver_side_number #[(.pointer (some ⟨s_b, s_o, none⟩)), (Iv cd)] b fun b8 az =>
 ∃ ci : Bool, b8 = .returned (.bool ci) /\
 (KeepsB y b az /\ (bsplit (!ci)
 (bb true az)
 ((y c /\
 (∃ aa : Int, ∃ ac : Bool, ∃ ae : Int, ∃ e : OA, ∃ i g : Nat, ∃ k : OA, ∃ o m : Nat, cellsAt b ⟨c, 0, none⟩ 0 [(Iv aa), (.bool ac), (Iv ae), (.slice e i g), (.slice k o m)] /\
 (CP N_receiver_partial #[(.agg #[Iv aa, .bool ac, Iv ae, .slice e i g, .slice k o m])] az fun be a0 =>
 ∃ bl : Bool, be = .returned (.bool bl) /\
 (KeepsB y b a0 /\ (bsplit (!bl)
 (bb true a0)
 ((y c /\
 (kLd b ⟨c, 0, none⟩ .i64 fun ce =>
 (y s_b /\
 (kLd b ⟨s_b, s_o + 7, none⟩ .i64 fun cf =>
 (CP N_receiver_side_place #[(.pointer (some ⟨s_b, s_o, none⟩)), (Iv ce)] a0 fun bf bu =>
 ∃ bm : Int, bf = .returned (Iv bm) /\
 (KeepsB y b bu /\ (CP N_receiver_side_place #[(.pointer (some ⟨s_b, s_o, none⟩)), (Iv cf)] bu fun bg aj =>
 ∃ bn : Int, bg = .returned (Iv bn) /\
 (KeepsB y b aj /\ (bsplit (decide (bm >= bn))
 (bb true aj)
 ((bsplit (decide (d > (0 : Int)))
 ((y c /\
 (kLd b ⟨c, 0, none⟩ .i64 fun cg =>
 (y s_b /\
 (kLdS b ⟨s_b, s_o + 13, none⟩ fun a3 a7 _ =>
 (kW .i64 (d - (1 : Int)) fun a1 =>
 (kIx a3 a7 a1 fun bd =>
 (y (bd.add (a1.toNat * 5)).block /\
 (kLd b (bd.add (a1.toNat * 5)) .i64 fun ch =>
 (CP N_receiver_side_place #[(.pointer (some ⟨s_b, s_o, none⟩)), (Iv cg)] aj fun bh ak =>
 ∃ bo : Int, bh = .returned (Iv bo) /\
 (KeepsB y b ak /\ (CP N_receiver_side_place #[(.pointer (some ⟨s_b, s_o, none⟩)), (Iv ch)] ak fun bi al =>
 ∃ bp : Int, bi = .returned (Iv bp) /\
 (KeepsB y b al /\ bb (decide (bo <= bp)) al)))))))))))))
 (bb false aj)))))))))))))))))))))))))))))))
 ((kLdS x ⟨s_b, s_o + 13, none⟩ fun a4 a8 _ =>
 (kIx a4 a8 (0 : Int) fun b5 =>
 (∃ ab : Int, ∃ ad : Bool, ∃ af : Int, ∃ f : OA, ∃ j h : Nat, ∃ l : OA, ∃ p n : Nat, cellsAt x (b5.add ((0 : Int).toNat * 5)) 0 [(Iv ab), (.bool ad), (Iv af), (.slice f j h), (.slice l p n)] /\
 (kAlloc x #[Iv (0 : Int), .bool false, Iv (0 : Int), .slice none 0 0, .slice none 0 0] Ty_api_Partial fun ax bs =>
 (sxStore bs ⟨ax, 0, none⟩ 0 [(Iv ab), (.bool ad), (Iv af), (.slice f j h), (.slice l p n)] fun bt =>
 (kDrew bt fun a =>
 (∃ ai : Nat -> Prop,
 (kLdB a ⟨ax, 1, none⟩ fun bv =>
 (bsplit bv
 ((kLd a ⟨ax, 0, none⟩ .i64 fun bw =>
 (kLd a ⟨s_b, s_o + 6, none⟩ .i64 fun bx =>
 (bsplit (!(decide (bw = bx)))
 ((kLdS a ⟨s_b, s_o + 13, none⟩ fun a5 a9 _ =>
 (kW .i64 ((ag : Int) - (1 : Int)) fun aq =>
 (kIx a5 a9 aq fun b6 =>
 (kLd a (b6.add (aq.toNat * 5)) .i64 fun bz =>
 (ai s_b /\
 (kLd a ⟨s_b, s_o + 7, none⟩ .i64 fun b0 =>
 (CP N_receiver_side_behind #[(.pointer (some ⟨s_b, s_o, none⟩)), (Iv bz)] a fun bj am =>
 ∃ bq : Int, bj = .returned (Iv bq) /\
 (KeepsB ai a am /\ (kLet (decide (bq = b0)) fun b1 =>
 R (.bool b1) am))))))))))
 (R (.bool false) a)))))
 ((kLdS a ⟨s_b, s_o + 13, none⟩ fun a6 ba _ =>
 (kW .i64 ((ag : Int) - (1 : Int)) fun ar =>
 (kIx a6 ba ar fun b7 =>
 (kLd a (b7.add (ar.toNat * 5)) .i64 fun b2 =>
 (ai s_b /\
 (kLd a ⟨s_b, s_o + 7, none⟩ .i64 fun b3 =>
 (CP N_receiver_side_behind #[(.pointer (some ⟨s_b, s_o, none⟩)), (Iv b2)] a fun bk an =>
 ∃ br : Int, bk = .returned (Iv br) /\
 (KeepsB ai a an /\ (kLet (decide (br = b3)) fun b4 =>
 R (.bool b4) an)))))))))))))))))))))))))))
theorem F_receiver_side_partials_ok {R : EP} (s_b s_o : Nat) (w : World) (h : F_receiver_side_partials s_b s_o w fun v w' => R (.returned v) w') : CP N_receiver_side_partials #[(.pointer (some ⟨s_b, s_o, none⟩))] w R :=
 calls_of (k := TTk) (h := h_receiver_side_partials) (f := 124) follows_ok Tryz.func124 (Eq.mpr (by kernel_rfl) h)

def h_slices_Clone_Sapi_Partial_api_Partial : H := (sr (.seq sc sl))
def F_slices_Clone_Sapi_Partial_api_Partial (s_a : OA) (s_l s_c : Nat) (w : World) (R : Value -> WP) : Prop :=
 (bsplit s_a.isNone
 (R (.slice none 0 0) w)
 ((kAlloc w #[] Ty_api_Partial fun f d =>
 (AppP Tryz.prog #[Ty_S_api_Partial, Ty_S_api_Partial] Ty_S_api_Partial #[(.slice (some ⟨f, 0, none⟩) 0 0), (.slice s_a s_l s_c)] d fun a c b e =>
 R (.slice a c b) e))))
theorem F_slices_Clone_Sapi_Partial_api_Partial_ok {R : EP} (s_a : OA) (s_l s_c : Nat) (w : World) (h : F_slices_Clone_Sapi_Partial_api_Partial s_a s_l s_c w fun v w' => R (.returned v) w') : CP N_slices_Clone_Sapi_Partial_api_Partial #[(.slice s_a s_l s_c)] w R :=
 calls_of (k := TTk) (h := h_slices_Clone_Sapi_Partial_api_Partial) (f := 125) follows_ok Tryz.func125 (Eq.mpr (by kernel_rfl) h)

def h_slices_Clone_Sbyte_byte : H := (sr (.seq sc sl))
def F_slices_Clone_Sbyte_byte (s_a : OA) (s_l s_c : Nat) (w : World) (R : Value -> WP) : Prop :=
 (bsplit s_a.isNone
 (R (.slice none 0 0) w)
 ((kAlloc w #[] Ty_uint8 fun f d =>
 (AppP Tryz.prog #[Ty_S_uint8, Ty_S_uint8] Ty_S_uint8 #[(.slice (some ⟨f, 0, none⟩) 0 0), (.slice s_a s_l s_c)] d fun a c b e =>
 R (.slice a c b) e))))
theorem F_slices_Clone_Sbyte_byte_ok {R : EP} (s_a : OA) (s_l s_c : Nat) (w : World) (h : F_slices_Clone_Sbyte_byte s_a s_l s_c w fun v w' => R (.returned v) w') : CP N_slices_Clone_Sbyte_byte #[(.slice s_a s_l s_c)] w R :=
 calls_of (k := TTk) (h := h_slices_Clone_Sbyte_byte) (f := 126) follows_ok Tryz.func126 (Eq.mpr (by kernel_rfl) h)

def h_slices_Clone_Sapi_Range_api_Range : H := (sr (.seq sc sl))
def F_slices_Clone_Sapi_Range_api_Range (s_a : OA) (s_l s_c : Nat) (w : World) (R : Value -> WP) : Prop :=
 (bsplit s_a.isNone
 (R (.slice none 0 0) w)
 ((kAlloc w #[] Ty_api_Range fun f d =>
 (AppP Tryz.prog #[Ty_S_api_Range, Ty_S_api_Range] Ty_S_api_Range #[(.slice (some ⟨f, 0, none⟩) 0 0), (.slice s_a s_l s_c)] d fun a c b e =>
 R (.slice a c b) e))))
theorem F_slices_Clone_Sapi_Range_api_Range_ok {R : EP} (s_a : OA) (s_l s_c : Nat) (w : World) (h : F_slices_Clone_Sapi_Range_api_Range s_a s_l s_c w fun v w' => R (.returned v) w') : CP N_slices_Clone_Sapi_Range_api_Range #[(.slice s_a s_l s_c)] w R :=
 calls_of (k := TTk) (h := h_slices_Clone_Sapi_Range_api_Range) (f := 127) follows_ok Tryz.func127 (Eq.mpr (by kernel_rfl) h)

def h_segment_head : H := (sr (.seq sc sl))
def F_segment_head (part : Int) (w : World) (R : Value -> WP) : Prop :=
 (CP N_segment_begins #[(Iv part)] w fun b a =>
 ∃ c : Bool, b = .returned (.bool c) /\
 (bsplit c
 (R (Iv (2 : Int)) a)
 (R (Iv (4 : Int)) a)))
theorem F_segment_head_ok {R : EP} (part : Int) (w : World) (h : F_segment_head part w fun v w' => R (.returned v) w') : CP N_segment_head #[(Iv part)] w R :=
 calls_of (k := TTk) (h := h_segment_head) (f := 128) follows_ok Tryz.func128 (Eq.mpr (by kernel_rfl) h)

def h_segment_Valid : H := (sr (.seq (.cut [(39, .p .bool)] (rg 5 35) (.draw .blk (po 0 1 (ko 1 1 (so 2 33 .nil)))) (.cond sl .leaf)) (.cut [] ([4] ++ rg 40 17) (.seq (.draw .blk (po 0 2 (so 3 3 (ko 2 1 (so 6 11 .nil))))) (.cond sl .leaf)) sl)))
def F_segment_Valid (bits p_0 p_1 p_2 p_3 : Int) (p_4_a : OA) (p_4_l p_4_c : Nat) (w : World) (R : Value -> WP) : Prop :=
 (kAlloc w #[(Iv p_0), (Iv p_1), (Iv p_2), (Iv p_3), (.slice p_4_a p_4_l p_4_c)] Ty_api_Piece fun a x =>
 (∃ h : Bool -> WP,
 (∀ (_ : Env) (t : Bool) (j : World), h t j ->
 (bsplit t
 (R (.bool false) j)
 ((∃ l : WP,
 (∀ (_ : Env)  (e : World), l e ->
 (kLdS e ⟨a, 4, none⟩ fun _ u _ =>
 (bsplit (decide ((u : Int) >= (1 : Int)))
 ((kLdS e ⟨a, 4, none⟩ fun _ k _ =>
 (kLd e ⟨a, 3, none⟩ .i64 fun q =>
 (kW .i64 ((2054 : Int) - q) fun r =>
 (kLet (decide ((k : Int) <= r)) fun s =>
 R (.bool s) e)))))
 (R (.bool false) e)))) /\
 (kDrew j fun d =>
 (∃ g : Nat -> Prop,
 (kLd d ⟨a, 1, none⟩ .i64 fun ae =>
 (g a /\
 (kLd d ⟨a, 3, none⟩ .i64 fun af =>
 (CP N_segment_begins #[(Iv ae)] d fun m f =>
 ∃ n : Bool, m = .returned (.bool n) /\
 (KeepsB g d f /\ (bsplit (!(n == (decide (af = (0 : Int)))))
 (R (.bool false) f)
 ((g a /\
 (kLd d ⟨a, 3, none⟩ .i64 fun o =>
 (bsplit (decide (o < (0 : Int)))
 (R (.bool false) f)
 ((g a /\
 (kLd d ⟨a, 3, none⟩ .i64 fun p =>
 (bsplit (decide (p > (2054 : Int)))
 (R (.bool false) f)
 (l f))))))))))))))))))))) /\
 (kDrew x fun b =>
 (∃ i : Nat -> Prop,
 (CP N_counter_Bits #[(Iv bits)] b fun v c =>
 ∃ ag : Bool, v = .returned (.bool ag) /\
 (KeepsB i b c /\ (bsplit (!ag)
 (h true c)
 ((i a /\
 (kLd b ⟨a, 0, none⟩ .i64 fun ah =>
 (bsplit (decide (ah < (0 : Int)))
 (h true c)
 ((i a /\
 (kLd b ⟨a, 0, none⟩ .i64 fun y =>
 (0 <= bits /\ (kW .i64 ((1 : Int) * 2 ^ (min bits.toNat (IntKind.bits .i64))) fun z =>
 (bsplit (decide (y >= z))
 (h true c)
 ((i a /\
 (kLd b ⟨a, 1, none⟩ .i64 fun aa =>
 (bsplit (decide (aa < (0 : Int)))
 (h true c)
 ((i a /\
 (kLd b ⟨a, 1, none⟩ .i64 fun ab =>
 (bsplit (decide (ab > (3 : Int)))
 (h true c)
 ((i a /\
 (kLd b ⟨a, 2, none⟩ .i64 fun ac =>
 (bsplit (decide (ac < (0 : Int)))
 (h true c)
 ((i a /\
 (kLd b ⟨a, 2, none⟩ .i64 fun ad =>
 h (decide (ad > (1 : Int))) c))))))))))))))))))))))))))))))))
theorem F_segment_Valid_ok {R : EP} (bits p_0 p_1 p_2 p_3 : Int) (p_4_a : OA) (p_4_l p_4_c : Nat) (w : World) (h : F_segment_Valid bits p_0 p_1 p_2 p_3 p_4_a p_4_l p_4_c w fun v w' => R (.returned v) w') : CP N_segment_Valid #[(Iv bits), (.agg #[Iv p_0, Iv p_1, Iv p_2, Iv p_3, .slice p_4_a p_4_l p_4_c])] w R :=
 calls_of (k := TTk) (h := h_segment_Valid) (f := 129) follows_ok Tryz.func129 (Eq.mpr (by kernel_rfl) h)

def h_serial_Distance : H := (sr sl)
def F_serial_Distance (n a b : Int) (w : World) (R : Value -> WP) : Prop :=
 (kW .i64 (b - a) fun f =>
 (CP N_serial_Low #[(Iv n), (Iv f)] w fun c d =>
 ∃ e : Int, c = .returned (Iv e) /\
 R (Iv e) d))
theorem F_serial_Distance_ok {R : EP} (n a b : Int) (w : World) (h : F_serial_Distance n a b w fun v w' => R (.returned v) w') : CP N_serial_Distance #[(Iv n), (Iv a), (Iv b)] w R :=
 calls_of (k := TTk) (h := h_serial_Distance) (f := 130) follows_ok Tryz.func130 (Eq.mpr (by kernel_rfl) h)

def h_receiver_piece_contradicts : H := (sr (sr (.seq (.block (sr (.cond (.seq (.draw .blk (po 0 11 (so 12 2 (ko 11 1 (so 14 3 .nil))))) .leaf) sc))) sl)))
def F_receiver_piece_contradicts (p_0 p_1 p_2 p_3 : Int) (p_4_a : OA) (p_4_l p_4_c : Nat) (p_5 : Int) (p_6 : Bool) (x_0 : Int) (x_1 : Bool) (x_2 : Int) (x_3_a : OA) (x_3_l x_3_c : Nat) (x_4_a : OA) (x_4_l x_4_c : Nat) (w : World) (R : Value -> WP) : Prop :=
 (kAlloc w #[(Iv p_0), (Iv p_1), (Iv p_2), (Iv p_3), (.slice p_4_a p_4_l p_4_c), (Iv p_5), (.bool p_6)] Ty_receiver_piece fun e s =>
 (kAlloc s #[(Iv x_0), (.bool x_1), (Iv x_2), (.slice x_3_a x_3_l x_3_c), (.slice x_4_a x_4_l x_4_c)] Ty_api_Partial fun d b =>
 (kLd b ⟨d, 2, none⟩ .i64 fun ae =>
 (kLet (!decide (ae = (-1 : Int))) fun c =>
 (kLdB b ⟨e, 6, none⟩ fun t =>
 (bsplit t
 ((kDrew b fun a =>
 (∃ q : Nat -> Prop,
 (bsplit c
 ((kLd a ⟨d, 2, none⟩ .i64 fun u =>
 (kLd a ⟨e, 5, none⟩ .i64 fun v =>
 (bsplit (!decide (u = v))
 (R (.bool true) a)
 ((kLdS a ⟨d, 4, none⟩ fun n p o =>
 (q e /\
 (kLd a ⟨e, 5, none⟩ .i64 fun x =>
 (CP N_receiver_end #[(.slice n p o)] a fun r k =>
 ∃ ad : Int, r = .returned (Iv ad) /\
 (KeepsB q a k /\ (kLet (decide (ad > x)) fun y =>
 R (.bool y) k)))))))))))
 ((kLdS a ⟨d, 4, none⟩ fun f h g =>
 (q e /\
 (kLd a ⟨e, 5, none⟩ .i64 fun z =>
 (CP N_receiver_end #[(.slice f h g)] a fun i l =>
 ∃ j : Int, i = .returned (Iv j) /\
 (KeepsB q a l /\ (kLet (decide (j > z)) fun aa =>
 R (.bool aa) l)))))))))))
 ((bsplit c
 ((kLd b ⟨e, 5, none⟩ .i64 fun ab =>
 (kLd b ⟨d, 2, none⟩ .i64 fun ac =>
 (kLet (decide (ab >= ac)) fun m =>
 R (.bool m) b))))
 (R (.bool false) b)))))))))
theorem F_receiver_piece_contradicts_ok {R : EP} (p_0 p_1 p_2 p_3 : Int) (p_4_a : OA) (p_4_l p_4_c : Nat) (p_5 : Int) (p_6 : Bool) (x_0 : Int) (x_1 : Bool) (x_2 : Int) (x_3_a : OA) (x_3_l x_3_c : Nat) (x_4_a : OA) (x_4_l x_4_c : Nat) (w : World) (h : F_receiver_piece_contradicts p_0 p_1 p_2 p_3 p_4_a p_4_l p_4_c p_5 p_6 x_0 x_1 x_2 x_3_a x_3_l x_3_c x_4_a x_4_l x_4_c w fun v w' => R (.returned v) w') : CP N_receiver_piece_contradicts #[(.agg #[Iv p_0, Iv p_1, Iv p_2, Iv p_3, .slice p_4_a p_4_l p_4_c, Iv p_5, .bool p_6]), (.agg #[Iv x_0, .bool x_1, Iv x_2, .slice x_3_a x_3_l x_3_c, .slice x_4_a x_4_l x_4_c])] w R :=
 calls_of (k := TTk) (h := h_receiver_piece_contradicts) (f := 131) follows_ok Tryz.func131 (Eq.mpr (by kernel_rfl) h)

def h_receiver_piece_known : H := (sr (sr sl))
def F_receiver_piece_known (p_0 p_1 p_2 p_3 : Int) (p_4_a : OA) (p_4_l p_4_c : Nat) (p_5 : Int) (p_6 : Bool) (x_0 : Int) (x_1 : Bool) (x_2 : Int) (x_3_a : OA) (x_3_l x_3_c : Nat) (x_4_a : OA) (x_4_l x_4_c : Nat) (w : World) (R : Value -> WP) : Prop :=
 (kAlloc w #[(Iv p_0), (Iv p_1), (Iv p_2), (Iv p_3), (.slice p_4_a p_4_l p_4_c), (Iv p_5), (.bool p_6)] Ty_receiver_piece fun k h =>
 (kAlloc h #[(Iv x_0), (.bool x_1), (Iv x_2), (.slice x_3_a x_3_l x_3_c), (.slice x_4_a x_4_l x_4_c)] Ty_api_Partial fun b c =>
 (kLdS c ⟨b, 4, none⟩ fun d f e =>
 (CP N_slices_ContainsFunc_Sapi_Range_api_Range #[(.slice d f e), (.func (.func N_receiver_piece_known_1) #[] #[(.pointer (some ⟨k, 0, none⟩))])] c fun g a =>
 ∃ l : Bool, g = .returned (.bool l) /\
 (bsplit l
 ((kLdB a ⟨k, 6, none⟩ fun m =>
 (bsplit (!m)
 (R (.bool true) a)
 ((kLd a ⟨b, 2, none⟩ .i64 fun i =>
 (kLet (!decide (i = (-1 : Int))) fun j =>
 R (.bool j) a))))))
 (R (.bool false) a))))))
theorem F_receiver_piece_known_ok {R : EP} (p_0 p_1 p_2 p_3 : Int) (p_4_a : OA) (p_4_l p_4_c : Nat) (p_5 : Int) (p_6 : Bool) (x_0 : Int) (x_1 : Bool) (x_2 : Int) (x_3_a : OA) (x_3_l x_3_c : Nat) (x_4_a : OA) (x_4_l x_4_c : Nat) (w : World) (h : F_receiver_piece_known p_0 p_1 p_2 p_3 p_4_a p_4_l p_4_c p_5 p_6 x_0 x_1 x_2 x_3_a x_3_l x_3_c x_4_a x_4_l x_4_c w fun v w' => R (.returned v) w') : CP N_receiver_piece_known #[(.agg #[Iv p_0, Iv p_1, Iv p_2, Iv p_3, .slice p_4_a p_4_l p_4_c, Iv p_5, .bool p_6]), (.agg #[Iv x_0, .bool x_1, Iv x_2, .slice x_3_a x_3_l x_3_c, .slice x_4_a x_4_l x_4_c])] w R :=
 calls_of (k := TTk) (h := h_receiver_piece_known) (f := 132) follows_ok Tryz.func132 (Eq.mpr (by kernel_rfl) h)

def h_serial_Low : H := (sr (.seq sc sl))
def F_serial_Low (n x : Int) (w : World) (R : Value -> WP) : Prop :=
 (CP N_serial_valid #[(Iv n)] w fun b a =>
 ∃ f : Bool, b = .returned (.bool f) /\
 (bsplit (!f)
 (R (Iv (-1 : Int)) a)
 ((0 <= n /\ (kW .i64 ((1 : Int) * 2 ^ (min n.toNat (IntKind.bits .i64))) fun c =>
 (kW .i64 (c - (1 : Int)) fun d =>
 (kLet (bAnd .i64 x d) fun e =>
 R (Iv e) a)))))))
theorem F_serial_Low_ok {R : EP} (n x : Int) (w : World) (h : F_serial_Low n x w fun v w' => R (.returned v) w') : CP N_serial_Low #[(Iv n), (Iv x)] w R :=
 calls_of (k := TTk) (h := h_serial_Low) (f := 135) follows_ok Tryz.func135 (Eq.mpr (by kernel_rfl) h)

def h_segment_Union : H := (sr (.cut [] ([4, 5] ++ rg 10 9) sc (sr (.seq (sr (.block (.loop [(6, .p .slice), (7, .p .slice), (21, .p (.int .i64))] ([6, 7, 9] ++ rg 21 40) (sr (.seq (.cond .leaf .leaf) (.seq (.block (sr (sr (.block (sr (.cond .reg (sr (.cond .reg (.draw .blk (po 0 7 (so 7 3 (po 10 1 (ko 11 1 (so 12 1 (lo 13 1 .nil))))))))))))))) .reg)))))) sl))))
def F_segment_Union (l_a : OA) (l_l l_c : Nat) (r_0 r_1 r_2 : Int) (w : World) (R : Value -> WP) : Prop :=
 (kAlloc w #[(Iv r_0), (Iv r_1), (Iv r_2)] Ty_api_Range fun ac bi =>
 (∃ bs : WP,
 (∀ (_ : Env)  (a7 : World), bs a7 ->
 (∃ j : OA -> Nat -> Nat -> OA -> Nat -> Nat -> Int -> Nat × (WP), (j none 0 0 none 0 0 (0 : Int)).2 a7 /\
 (∀ (_ : Env) (a : OA) (c : Nat) (b : Nat) (d : OA) (f : Nat) (e : Nat) (ab : Int) (k : World), (j a c b d f e ab).2 k ->
 (bsplit (decide (ab < (l_l : Int)))
 ((kIx l_a l_l ab fun bc =>
 (∃ l p t : Int, cellsAt k (bc.add (ab.toNat * 3)) 0 [(Iv l), (Iv p), (Iv t)] /\
 (kAlloc k #[Iv (0 : Int), Iv (0 : Int), Iv (0 : Int)] Ty_api_Range fun h bk =>
 (sxStore bk ⟨h, 0, none⟩ 0 [(Iv l), (Iv p), (Iv t)] fun a8 =>
 (kLd a8 ⟨ac, 0, none⟩ .i64 fun bl =>
 (kSet a8 ⟨h, 0, none⟩ (Iv bl) fun i =>
 (kLd i ⟨h, 2, none⟩ .i64 fun bm =>
 (kLd i ⟨ac, 1, none⟩ .i64 fun bn =>
 (kLet (decide (bm < bn)) fun bo =>
 (bsplit bo
 ((∃ m q u : Int, cellsAt i ⟨h, 0, none⟩ 0 [(Iv m), (Iv q), (Iv u)] /\
 (kAlloc i #[(Iv m), (Iv q), (Iv u)] Ty_api_Range fun bd ay =>
 (AppP Tryz.prog #[Ty_S_api_Range, Ty_S_api_Range] Ty_S_api_Range #[(.slice a c b), (.slice (some ⟨bd, 0, none⟩) 1 1)] ay fun ap ar aq az =>
 (kW .i64 (ab + (1 : Int)) fun a9 =>
 ((j ap ar aq d f e a9).2 az /\ (j ap ar aq d f e a9).1 < (j a c b d f e ab).1))))))
 ((kLd i ⟨h, 1, none⟩ .i64 fun bp =>
 (kLd i ⟨ac, 2, none⟩ .i64 fun bq =>
 (kLet (decide (bp > bq)) fun br =>
 (bsplit br
 ((∃ n r v : Int, cellsAt i ⟨h, 0, none⟩ 0 [(Iv n), (Iv r), (Iv v)] /\
 (kAlloc i #[(Iv n), (Iv r), (Iv v)] Ty_api_Range fun be a0 =>
 (AppP Tryz.prog #[Ty_S_api_Range, Ty_S_api_Range] Ty_S_api_Range #[(.slice d f e), (.slice (some ⟨be, 0, none⟩) 1 1)] a0 fun y aa z a1 =>
 (kW .i64 (ab + (1 : Int)) fun ba =>
 ((j a c b y aa z ba).2 a1 /\ (j a c b y aa z ba).1 < (j a c b d f e ab).1))))))
 ((kDrew i fun g =>
 (∃ bt : Nat -> Prop,
 (kLd g ⟨ac, 1, none⟩ .i64 fun ah =>
 (kLd g ⟨h, 1, none⟩ .i64 fun ai =>
 (kLd g ⟨ac, 2, none⟩ .i64 fun aj =>
 (bt h /\
 (kLd g ⟨h, 2, none⟩ .i64 fun ak =>
 (kSet g ⟨ac, 1, none⟩ (Iv (if ai < ah then ai else ah)) fun ag =>
 (KeepsB bt g ag /\ (kSet ag ⟨ac, 2, none⟩ (Iv (if ak > aj then ak else aj)) fun a2 =>
 (kW .i64 (ab + (1 : Int)) fun al =>
 ((j a c b d f e al).2 a2 /\ (j a c b d f e al).1 < (j a c b d f e ab).1)))))))))))))))))))))))))))))
 ((∃ o s x : Int, cellsAt k ⟨ac, 0, none⟩ 0 [(Iv o), (Iv s), (Iv x)] /\
 (kAlloc k #[(Iv o), (Iv s), (Iv x)] Ty_api_Range fun bf a3 =>
 (kAlloc a3 #[(.slice a c b), (.slice (some ⟨bf, 0, none⟩) 1 1), (.slice d f e)] Ty_S_api_Range fun bg a4 =>
 (CP N_slices_Concat_Sapi_Range_api_Range #[(.slice (some ⟨bg, 0, none⟩) 3 3)] a4 fun aw a5 =>
 ∃ ad : OA, ∃ af ae : Nat, aw = .returned (.slice ad af ae) /\
 R (.tuple #[(.slice ad af ae), (Iv (0 : Int))]) a5))))))))) /\
 (CP N_segment_Normal #[(.slice l_a l_l l_c)] bi fun bh au =>
 ∃ bu : Bool, bh = .returned (.bool bu) /\
 (bsplit (!bu)
 (R (.tuple #[(.slice none 0 0), (Iv (4 : Int))]) au)
 ((∃ am an ao : Int, cellsAt au ⟨ac, 0, none⟩ 0 [(Iv am), (Iv an), (Iv ao)] /\
 (kAlloc au #[(Iv am), (Iv an), (Iv ao)] Ty_api_Range fun bb bj =>
 (CP N_segment_Normal #[(.slice (some ⟨bb, 0, none⟩) 1 1)] bj fun av a6 =>
 ∃ ax : Bool, av = .returned (.bool ax) /\
 (bsplit (!ax)
 (R (.tuple #[(.slice none 0 0), (Iv (4 : Int))]) a6)
 (bs a6))))))))))
theorem F_segment_Union_ok {R : EP} (l_a : OA) (l_l l_c : Nat) (r_0 r_1 r_2 : Int) (w : World) (h : F_segment_Union l_a l_l l_c r_0 r_1 r_2 w fun v w' => R (.returned v) w') : CP N_segment_Union #[(.slice l_a l_l l_c), (.agg #[Iv r_0, Iv r_1, Iv r_2])] w R :=
 calls_of (k := TTk) (h := h_segment_Union) (f := 136) follows_ok Tryz.func136 (Eq.mpr (by kernel_rfl) h)

def h_status_Whole : H := (sr sl)
def F_status_Whole (r_0 r_1 r_2 : Int) (w : World) (R : Value -> WP) : Prop :=
 (kAlloc w #[(Iv r_0), (Iv r_1), (Iv r_2)] Ty_api_Range fun d a =>
 (kLd a ⟨d, 1, none⟩ .i64 fun e =>
 (bsplit (decide (e = (0 : Int)))
 ((kLd a ⟨d, 2, none⟩ .i64 fun b =>
 (kLet (decide (b = (0 : Int))) fun c =>
 R (.bool c) a)))
 (R (.bool false) a))))
theorem F_status_Whole_ok {R : EP} (r_0 r_1 r_2 : Int) (w : World) (h : F_status_Whole r_0 r_1 r_2 w fun v w' => R (.returned v) w') : CP N_status_Whole #[(.agg #[Iv r_0, Iv r_1, Iv r_2])] w R :=
 calls_of (k := TTk) (h := h_status_Whole) (f := 137) follows_ok Tryz.func137 (Eq.mpr (by kernel_rfl) h)

def h_sender_side_number : H := (sr sl)
def F_sender_side_number (s_b s_o : Nat) (n : Int) (w : World) (R : Value -> WP) : Prop :=
 (kLd w ⟨s_b, s_o, none⟩ .i64 fun f =>
 (0 <= f /\ (kW .i64 ((1 : Int) * 2 ^ (min f.toNat (IntKind.bits .i64))) fun c =>
 (kW .i64 (c - (1 : Int)) fun d =>
 (CP N_sender_between #[(Iv n), (Iv (0 : Int)), (Iv d)] w fun a b =>
 ∃ e : Bool, a = .returned (.bool e) /\
 R (.bool e) b)))))
theorem F_sender_side_number_ok {R : EP} (s_b s_o : Nat) (n : Int) (w : World) (h : F_sender_side_number s_b s_o n w fun v w' => R (.returned v) w') : CP N_sender_side_number #[(.pointer (some ⟨s_b, s_o, none⟩)), (Iv n)] w R :=
 calls_of (k := TTk) (h := h_sender_side_number) (f := 138) follows_ok Tryz.func138 (Eq.mpr (by kernel_rfl) h)

def h_sender_side_units : H := (sr (.seq (sr (.cond (.seq (.draw .no (so 0 12 .nil)) .leaf) .leaf)) (.seq (.seq (.draw .no (so 0 14 .nil)) (.cond sl .leaf)) (.seq (sr (.block (.loop [(44, .p (.int .i64))] ([2, 3, 4, 5] ++ rg 44 54) (sr (.seq (.cond .leaf .leaf) (.seq (.block (sr (.cut [] ([2] ++ rg 49 18) (.seq (.draw .blk (po 0 2 (ko 2 1 (so 3 5 (so 9 6 (ko 8 1 (ko 15 1 (so 16 2 .nil)))))))) (.cond sl .leaf)) (sr (.cond (sr (.seq (.draw .blk (po 0 3 (so 4 3 (ko 3 1 (ko 7 1 (so 8 3 (ko 11 1 (so 12 7 .nil)))))))) (.cond sl .leaf))) .leaf))))) .reg)))))) sl))))
def F_sender_side_units (s_b s_o : Nat) (w : World) (R : Value -> WP) : Prop :=
 (kLdS w ⟨s_b, s_o + 8, none⟩ fun _ bt _ =>
 (bsplit (decide ((bt : Int) = (0 : Int)))
 ((kDrew w fun a4 =>
 (kLd a4 ⟨s_b, s_o + 7, none⟩ .i64 fun ca =>
 (kLd a4 ⟨s_b, s_o + 6, none⟩ .i64 fun b0 =>
 (kLet (decide (ca = b0)) fun b1 =>
 R (.bool b1) a4)))))
 ((kDrew w fun ag =>
 (kLdS ag ⟨s_b, s_o + 8, none⟩ fun a7 ba _ =>
 (kIx a7 ba (0 : Int) fun b9 =>
 (kLd ag (b9.add ((0 : Int).toNat * 5)) .i64 fun b2 =>
 (kLd ag ⟨s_b, s_o + 6, none⟩ .i64 fun b3 =>
 (bsplit (!decide (b2 = b3))
 (R (.bool false) ag)
 ((kLdS ag ⟨s_b, s_o + 8, none⟩ fun a8 av _ =>
 (∃ ah : Int -> Nat × (WP), (ah (0 : Int)).2 ag /\
 (∀ (_ : Env) (b : Int) (aw : World), (ah b).2 aw ->
 (bsplit (decide (b < (av : Int)))
 ((kIx a8 av b fun bu =>
 (∃ a1 : Int, ∃ z : OA, ∃ ab aa : Nat, ∃ a2 a3 : Int, ∃ ac : OA, ∃ ae ad : Nat, cellsAt aw (bu.add (b.toNat * 5)) 0 [(Iv a1), (.slice z ab aa), (Iv a2), (Iv a3), (.slice ac ae ad)] /\
 (kAlloc aw #[Iv (0 : Int), .slice none 0 0, Iv (0 : Int), Iv (0 : Int), .slice none 0 0] Ty_api_Unit fun v bx =>
 (sxStore bx ⟨v, 0, none⟩ 0 [(Iv a1), (.slice z ab aa), (Iv a2), (Iv a3), (.slice ac ae ad)] fun bz =>
 (∃ b7 : WP,
 (∀ (_ : Env)  (c : World), b7 c ->
 (bsplit (decide (b > (0 : Int)))
 ((kLdS c ⟨s_b, s_o + 8, none⟩ fun a9 bb _ =>
 (kW .i64 (b - (1 : Int)) fun bs =>
 (kIx a9 bb bs fun bv =>
 (∃ al : Int, ∃ e : OA, ∃ k h : Nat, ∃ ao ar : Int, ∃ n : OA, ∃ t q : Nat, cellsAt c (bv.add (bs.toNat * 5)) 0 [(Iv al), (.slice e k h), (Iv ao), (Iv ar), (.slice n t q)] /\
 (kAlloc c #[Iv (0 : Int), .slice none 0 0, Iv (0 : Int), Iv (0 : Int), .slice none 0 0] Ty_api_Unit fun ai bn =>
 (sxStore bn ⟨ai, 0, none⟩ 0 [(Iv al), (.slice e k h), (Iv ao), (Iv ar), (.slice n t q)] fun bo =>
 (kDrew bo fun a =>
 (∃ af : Nat -> Prop,
 (kLd a ⟨v, 0, none⟩ .i64 fun b6 =>
 (af ai /\
 (kLd a ⟨ai, 0, none⟩ .i64 fun bq =>
 (CP N_sender_side_place #[(.pointer (some ⟨s_b, s_o, none⟩)), (Iv b6)] a fun bf ax =>
 ∃ bk : Int, bf = .returned (Iv bk) /\
 (KeepsB af a ax /\ (CP N_sender_side_place #[(.pointer (some ⟨s_b, s_o, none⟩)), (Iv bq)] ax fun bg aj =>
 ∃ bl : Int, bg = .returned (Iv bl) /\
 (KeepsB af a aj /\ (bsplit (decide (bk <= bl))
 (R (.bool false) aj)
 ((af ai /\
 (∃ am : Int, ∃ f : OA, ∃ l i : Nat, ∃ ap au : Int, ∃ o : OA, ∃ u r : Nat, cellsAt a ⟨ai, 0, none⟩ 0 [(Iv am), (.slice f l i), (Iv ap), (Iv au), (.slice o u r)] /\
 (CP N_sender_whole #[(.agg #[Iv am, .slice f l i, Iv ap, Iv au, .slice o u r])] aj fun bh y =>
 ∃ bm : Bool, bh = .returned (.bool bm) /\
 (KeepsB af a y /\ (bsplit (!bm)
 ((af v /\
 (kLd a ⟨v, 2, none⟩ .i64 fun br =>
 (bsplit (decide (br > (0 : Int)))
 (R (.bool false) y)
 ((kW .i64 (b + (1 : Int)) fun ay =>
 ((ah ay).2 y /\ (ah ay).1 < (ah b).1)))))))
 ((kW .i64 (b + (1 : Int)) fun az =>
 ((ah az).2 y /\ (ah az).1 < (ah b).1))))))))))))))))))))))))))
 ((kW .i64 (b + (1 : Int)) fun a0 =>
 ((ah a0).2 c /\ (ah a0).1 < (ah b).1))))) /\
 (kDrew bz fun x =>
 (∃ bc : Nat -> Prop,
 (∃ ak : Int, ∃ d : OA, ∃ j g : Nat, ∃ an aq : Int, ∃ m : OA, ∃ s p : Nat, cellsAt x ⟨v, 0, none⟩ 0 [(Iv ak), (.slice d j g), (Iv an), (Iv aq), (.slice m s p)] /\
 (CP N_sender_side_unit #[(.pointer (some ⟨s_b, s_o, none⟩)), (.agg #[Iv ak, .slice d j g, Iv an, Iv aq, .slice m s p])] x fun bw a5 =>
 ∃ b8 : Bool, bw = .returned (.bool b8) /\
 (KeepsB bc x a5 /\ (bsplit (!b8)
 (R (.bool false) a5)
 ((bc v /\
 (kLd x ⟨v, 0, none⟩ .i64 fun b4 =>
 (bc s_b /\
 (kLd x ⟨s_b, s_o + 7, none⟩ .i64 fun b5 =>
 (CP N_sender_side_place #[(.pointer (some ⟨s_b, s_o, none⟩)), (Iv b4)] a5 fun bd bp =>
 ∃ bi : Int, bd = .returned (Iv bi) /\
 (KeepsB bc x bp /\ (CP N_sender_side_place #[(.pointer (some ⟨s_b, s_o, none⟩)), (Iv b5)] bp fun be a6 =>
 ∃ bj : Int, be = .returned (Iv bj) /\
 (KeepsB bc x a6 /\ (bsplit (decide (bi >= bj))
 (R (.bool false) a6)
 (b7 a6)))))))))))))))))))))))
 (R (.bool true) aw)))))))))))))))
theorem F_sender_side_units_ok {R : EP} (s_b s_o : Nat) (w : World) (h : F_sender_side_units s_b s_o w fun v w' => R (.returned v) w') : CP N_sender_side_units #[(.pointer (some ⟨s_b, s_o, none⟩))] w R :=
 calls_of (k := TTk) (h := h_sender_side_units) (f := 139) follows_ok Tryz.func139 (Eq.mpr (by kernel_rfl) h)

end Go.Proofs.YtmbppohkadmjgaaGreat
