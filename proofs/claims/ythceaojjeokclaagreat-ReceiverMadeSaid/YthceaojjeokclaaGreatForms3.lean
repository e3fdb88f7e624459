import Derived.Test.YthceaojjeokclaaGreatBase
import Derived.KernelRfl
namespace Go.Proofs.YthceaojjeokclaaGreat
open Go.Sx Go.RowKit
set_option maxRecDepth 100000

def h_receiver_side_number : H := (.seq .reg (.seq .reg .leaf))
def F_receiver_side_number (s_b s_o : Nat) (n : Int) (w : World) (R : Value → WP) : Prop :=
 (bsplit (decide (n ≥ (0 : Int)))
 ((kLd w ⟨s_b, s_o, none⟩ .i64 fun c =>
 (0 ≤ c ∧ (kW .i64 ((1 : Int) * 2 ^ (min c.toNat (IntKind.bits .i64))) fun a =>
 (kLet (decide (n < a)) fun b =>
 R (.bool b) w)))))
 (R (.bool false) w))
theorem F_receiver_side_number_ok {R : EP} (s_b s_o : Nat) (n : Int) (w : World) (h : F_receiver_side_number s_b s_o n w fun v w' => R (.returned v) w') : CP N_receiver_side_number #[(.pointer (some ⟨s_b, s_o, none⟩)), (Iv n)] w R :=
 calls_of (k := TTk) (h := h_receiver_side_number) (f := 65) follows_ok Tryz.func65 (Eq.mpr (by kernel_rfl) h)

def h_receiver_side_partials : H := (.seq .reg (.seq .reg (.seq (.seq .reg (.cond (.seq (.draw .no (.one 0 .stable (.one 1 .stable (.one 2 .stable (.one 3 .stable (.one 4 .stable (.one 5 .stable (.one 6 .stable (.one 7 .stable (.one 8 .stable (.one 9 .stable (.one 10 .stable (.one 11 .stable .nil))))))))))))) .leaf) .leaf)) (.seq (.seq .reg (.block (.loop [(32, .p (.int .i64))] [2, 4, 5, 32, 33, 34, 35, 36, 37, 38, 39, 40, 41, 42, 43, 44, 45, 46, 47, 48, 49, 50, 51, 52, 53, 54, 55, 56, 57, 58, 59, 60, 61, 62, 63, 64, 65, 66, 67, 68, 69, 70, 71, 72, 73, 74, 75, 76, 77, 78, 79, 80, 81, 82, 83, 84] (.seq .reg (.seq (.cond .leaf .leaf) (.seq (.block (.seq .reg (.cut [(83, .p .bool)] [37, 38, 39, 40, 41, 42, 43, 44, 45, 46, 47, 48, 49, 50, 51, 52, 53, 54, 55, 56, 57, 58, 59, 60, 61, 62, 63, 64, 65, 66, 67, 68, 69, 70, 71, 72, 73, 74, 75, 76, 77, 78, 79, 80, 81, 82, 83] (.draw .blk (.one 0 .pre (.one 1 .pre (.one 2 .pre (.one 3 .keep (.one 4 .stable (.one 5 .stable (.one 6 .stable (.one 7 .keep (.one 8 .stable (.one 9 .stable (.one 10 .stable (.one 11 .stable (.one 12 .stable (.one 13 .stable (.one 15 .stable (.one 16 .stable (.one 17 .stable (.one 18 .stable (.one 19 .stable (.one 20 .stable (.one 14 .keep (.one 21 .keep (.one 22 .stable (.one 23 .stable (.one 24 .stable (.one 25 .stable (.one 26 .stable (.one 27 .stable (.one 28 .stable (.one 29 .stable (.one 30 .stable (.one 32 .stable (.one 33 .stable (.one 34 .stable (.one 35 .stable (.one 36 .stable (.one 37 .stable (.one 38 .stable (.one 39 .stable (.one 40 .stable (.one 41 .stable (.one 42 .stable (.one 31 .keep (.one 43 .keep (.one 44 .stable (.one 45 .stable (.one 46 .stable .nil)))))))))))))))))))))))))))))))))))))))))))))))) (.cond (.seq .reg .leaf) .leaf)))) .reg)))))) (.seq .reg (.seq (.draw .blk (.one 0 .pre (.one 1 .pre (.one 2 .pre (.one 3 .pre (.one 4 .pre (.one 5 .pre (.one 6 .pre (.one 7 .pre (.one 8 .pre (.one 9 .pre (.one 10 .pre (.one 11 .pre (.one 12 .pre (.one 13 .pre (.one 14 .pre (.one 15 .pre (.one 16 .pre (.one 17 .pre (.one 18 .pre (.one 19 .pre (.one 20 .pre (.one 21 .pre (.one 22 .pre (.one 23 .pre (.one 24 .pre (.one 26 .stable (.one 27 .stable (.one 28 .stable (.one 29 .stable (.one 30 .stable (.one 25 .keep (.one 31 .stable (.one 32 .stable (.one 33 .stable .nil))))))))))))))))))))))))))))))))))) .leaf))))))
def F_receiver_side_partials (s_b s_o : Nat) (w : World) (R : Value → WP) : Prop :=
 (kLdS w ⟨s_b, s_o + 13, none⟩ fun _ ag _ =>
 (bsplit (decide ((ag : Int) = (0 : Int)))
 ((kDrew w fun ay =>
 (kLd ay ⟨s_b, s_o + 7, none⟩ .i64 fun ck =>
 (kLd ay ⟨s_b, s_o + 6, none⟩ .i64 fun cb =>
 (kLet (decide (ck = cb)) fun cc =>
 R (.bool cc) ay)))))
 ((kLdS w ⟨s_b, s_o + 13, none⟩ fun a2 ah _ =>
 (∃ bc : Int → Nat × (WP), (bc (0 : Int)).2 w ∧
 (∀ (_ : Env) (d : Int) (x : World), (bc d).2 x →
 (bsplit (decide (d < (ah : Int)))
 ((kIx a2 ah d fun cj =>
 (∃ au : Int, ∃ av : Bool, ∃ aw : Int, ∃ q : OA, ∃ s r : Nat, ∃ t : OA, ∃ v u : Nat, cellsAt x (cj.add (d.toNat * 5)) 0 [(Iv au), (.bool av), (Iv aw), (.slice q s r), (.slice t v u)] ∧
 (kAlloc x #[Iv (0 : Int), .bool false, Iv (0 : Int), .slice none 0 0, .slice none 0 0] Ty_api_Partial fun c b9 =>
 (sxStore b9 ⟨c, 0, none⟩ 0 [(Iv au), (.bool av), (Iv aw), (.slice q s r), (.slice t v u)] fun ca =>
 (∃ bb : Bool → WP,
 (∀ (_ : Env) (ao : Bool) (z : World), bb ao z →
 (bsplit ao
 (R (.bool false) z)
 ((kW .i64 (d + (1 : Int)) fun ap =>
 ((bc ap).2 z ∧ (bc ap).1 < (bc d).1))))) ∧
 (kDrew ca fun b =>
 (∃ y : Nat → Prop,
 (kLd b ⟨c, 0, none⟩ .i64 fun cd =>
 (CP N_receiver_side_number #[(.pointer (some ⟨s_b, s_o, none⟩)), (Iv cd)] b fun b8 az =>
 ∃ ci : Bool, b8 = .returned (.bool ci) ∧
 (KeepsB y b az ∧ (bsplit (!ci)
 (bb true az)
 ((y c ∧
 (∃ aa : Int, ∃ ac : Bool, ∃ ae : Int, ∃ e : OA, ∃ i g : Nat, ∃ k : OA, ∃ o m : Nat, cellsAt b ⟨c, 0, none⟩ 0 [(Iv aa), (.bool ac), (Iv ae), (.slice e i g), (.slice k o m)] ∧
 (CP N_receiver_partial #[(.agg #[Iv aa, .bool ac, Iv ae, .slice e i g, .slice k o m])] az fun be a0 =>
 ∃ bl : Bool, be = .returned (.bool bl) ∧
 (KeepsB y b a0 ∧ (bsplit (!bl)
 (bb true a0)
 ((y c ∧
 (kLd b ⟨c, 0, none⟩ .i64 fun ce =>
 (y s_b ∧
 (kLd b ⟨s_b, s_o + 7, none⟩ .i64 fun cf =>
 (CP N_receiver_side_place #[(.pointer (some ⟨s_b, s_o, none⟩)), (Iv ce)] a0 fun bf bu =>
 ∃ bm : Int, bf = .returned (Iv bm) ∧
 (KeepsB y b bu ∧ (CP N_receiver_side_place #[(.pointer (some ⟨s_b, s_o, none⟩)), (Iv cf)] bu fun bg aj =>
 ∃ bn : Int, bg = .returned (Iv bn) ∧
 (KeepsB y b aj ∧ (bsplit (decide (bm ≥ bn))
 (bb true aj)
 ((bsplit (decide (d > (0 : Int)))
 ((y c ∧
 (kLd b ⟨c, 0, none⟩ .i64 fun cg =>
 (y s_b ∧
 (kLdS b ⟨s_b, s_o + 13, none⟩ fun a3 a7 _ =>
 (kW .i64 (d - (1 : Int)) fun a1 =>
 (kIx a3 a7 a1 fun bd =>
 (y (bd.add (a1.toNat * 5)).block ∧
 (kLd b (bd.add (a1.toNat * 5)) .i64 fun ch =>
 (CP N_receiver_side_place #[(.pointer (some ⟨s_b, s_o, none⟩)), (Iv cg)] aj fun bh ak =>
 ∃ bo : Int, bh = .returned (Iv bo) ∧
 (KeepsB y b ak ∧ (CP N_receiver_side_place #[(.pointer (some ⟨s_b, s_o, none⟩)), (Iv ch)] ak fun bi al =>
 ∃ bp : Int, bi = .returned (Iv bp) ∧
 (KeepsB y b al ∧ bb (decide (bo ≤ bp)) al)))))))))))))
 (bb false aj)))))))))))))))))))))))))))))))
 ((kLdS x ⟨s_b, s_o + 13, none⟩ fun a4 a8 _ =>
 (kIx a4 a8 (0 : Int) fun b5 =>
 (∃ ab : Int, ∃ ad : Bool, ∃ af : Int, ∃ f : OA, ∃ j h : Nat, ∃ l : OA, ∃ p n : Nat, cellsAt x (b5.add ((0 : Int).toNat * 5)) 0 [(Iv ab), (.bool ad), (Iv af), (.slice f j h), (.slice l p n)] ∧
 (kAlloc x #[Iv (0 : Int), .bool false, Iv (0 : Int), .slice none 0 0, .slice none 0 0] Ty_api_Partial fun ax bs =>
 (sxStore bs ⟨ax, 0, none⟩ 0 [(Iv ab), (.bool ad), (Iv af), (.slice f j h), (.slice l p n)] fun bt =>
 (kDrew bt fun a =>
 (∃ ai : Nat → Prop,
 (kLdB a ⟨ax, 1, none⟩ fun bv =>
 (bsplit bv
 ((kLd a ⟨ax, 0, none⟩ .i64 fun bw =>
 (kLd a ⟨s_b, s_o + 6, none⟩ .i64 fun bx =>
 (bsplit (!(decide (bw = bx)))
 ((kLdS a ⟨s_b, s_o + 13, none⟩ fun a5 a9 _ =>
 (kW .i64 ((ag : Int) - (1 : Int)) fun aq =>
 (kIx a5 a9 aq fun b6 =>
 (kLd a (b6.add (aq.toNat * 5)) .i64 fun bz =>
 (ai s_b ∧
 (kLd a ⟨s_b, s_o + 7, none⟩ .i64 fun b0 =>
 (CP N_receiver_side_behind #[(.pointer (some ⟨s_b, s_o, none⟩)), (Iv bz)] a fun bj am =>
 ∃ bq : Int, bj = .returned (Iv bq) ∧
 (KeepsB ai a am ∧ (kLet (decide (bq = b0)) fun b1 =>
 R (.bool b1) am))))))))))
 (R (.bool false) a)))))
 ((kLdS a ⟨s_b, s_o + 13, none⟩ fun a6 ba _ =>
 (kW .i64 ((ag : Int) - (1 : Int)) fun ar =>
 (kIx a6 ba ar fun b7 =>
 (kLd a (b7.add (ar.toNat * 5)) .i64 fun b2 =>
 (ai s_b ∧
 (kLd a ⟨s_b, s_o + 7, none⟩ .i64 fun b3 =>
 (CP N_receiver_side_behind #[(.pointer (some ⟨s_b, s_o, none⟩)), (Iv b2)] a fun bk an =>
 ∃ br : Int, bk = .returned (Iv br) ∧
 (KeepsB ai a an ∧ (kLet (decide (br = b3)) fun b4 =>
 R (.bool b4) an)))))))))))))))))))))))))))
theorem F_receiver_side_partials_ok {R : EP} (s_b s_o : Nat) (w : World) (h : F_receiver_side_partials s_b s_o w fun v w' => R (.returned v) w') : CP N_receiver_side_partials #[(.pointer (some ⟨s_b, s_o, none⟩))] w R :=
 calls_of (k := TTk) (h := h_receiver_side_partials) (f := 66) follows_ok Tryz.func66 (Eq.mpr (by kernel_rfl) h)

def h_sender_between : H := (.seq .reg (.seq .reg .leaf))
def F_sender_between (x least most : Int) (w : World) (R : Value → WP) : Prop :=
 (bsplit (decide (x ≥ least))
 ((kLet (decide (x ≤ most)) fun a =>
 R (.bool a) w))
 (R (.bool false) w))
theorem F_sender_between_ok {R : EP} (x least most : Int) (w : World) (h : F_sender_between x least most w fun v w' => R (.returned v) w') : CP N_sender_between #[(Iv x), (Iv least), (Iv most)] w R :=
 calls_of (k := TTk) (h := h_sender_between) (f := 67) follows_ok Tryz.func67 (Eq.mpr (by kernel_rfl) h)

def h_counter_Bits : H := (.seq .reg (.seq .reg .leaf))
def F_counter_Bits (bits : Int) (w : World) (R : Value → WP) : Prop :=
 (bsplit (decide (bits ≥ (5 : Int)))
 ((kLet (decide (bits ≤ (9 : Int))) fun a =>
 R (.bool a) w))
 (R (.bool false) w))
theorem F_counter_Bits_ok {R : EP} (bits : Int) (w : World) (h : F_counter_Bits bits w fun v w' => R (.returned v) w') : CP N_counter_Bits #[(Iv bits)] w R :=
 calls_of (k := TTk) (h := h_counter_Bits) (f := 68) follows_ok Tryz.func68 (Eq.mpr (by kernel_rfl) h)

def h_ref21_Copy : H := (.seq .reg (.seq .reg (.seq .reg (.seq (.seq .reg (.block (.loop [(4, .p (.int .i64))] [4, 5, 8, 9, 10, 11, 12, 13, 14, 15, 16, 17, 18, 19, 20, 21, 22, 23, 24, 25, 26, 27, 28, 29, 30, 31, 32, 33] (.seq (.seq .reg (.cond .leaf .leaf)) (.seq (.block (.seq .reg (.seq .reg (.seq .reg .reg)))) .reg))))) (.seq .reg .leaf)))))
def F_ref21_Copy (r_0 r_1 r_2 r_3 r_4 r_5 r_6 r_7 r_8 r_9 r_10 r_11 : Int) (r_12 : Bool) (r_13_a : OA) (r_13_l r_13_c : Nat) (w : World) (R : Value → WP) : Prop :=
 (kAlloc w #[(Iv r_0), (Iv r_1), (Iv r_2), (Iv r_3), (Iv r_4), (Iv r_5), (Iv r_6), (Iv r_7), (Iv r_8), (Iv r_9), (Iv r_10), (Iv r_11), (.bool r_12), (.slice r_13_a r_13_l r_13_c)] Ty_api_Receiver fun ci cl =>
 (kAlloc cl #[Iv (0 : Int), Iv (0 : Int), Iv (0 : Int), Iv (0 : Int), Iv (0 : Int), Iv (0 : Int), Iv (0 : Int), Iv (0 : Int), Iv (0 : Int), Iv (0 : Int), Iv (0 : Int), Iv (0 : Int), .bool false, .slice none 0 0] Ty_api_Receiver fun ca cf =>
 (∃ bd be bf bg bh bi bj bk bl bm av aw : Int, ∃ ax : Bool, ∃ g : OA, ∃ i h : Nat, cellsAt cf ⟨ci, 0, none⟩ 0 [(Iv bd), (Iv be), (Iv bf), (Iv bg), (Iv bh), (Iv bi), (Iv bj), (Iv bk), (Iv bl), (Iv bm), (Iv av), (Iv aw), (.bool ax), (.slice g i h)] ∧
 (kAlloc cf #[Iv (0 : Int), Iv (0 : Int), Iv (0 : Int), Iv (0 : Int), Iv (0 : Int), Iv (0 : Int), Iv (0 : Int), Iv (0 : Int), Iv (0 : Int), Iv (0 : Int), Iv (0 : Int), Iv (0 : Int), .bool false, .slice none 0 0] Ty_api_Receiver fun ae cm =>
 (sxStore cm ⟨ae, 0, none⟩ 0 [(Iv bd), (Iv be), (Iv bf), (Iv bg), (Iv bh), (Iv bi), (Iv bj), (Iv bk), (Iv bl), (Iv bm), (Iv av), (Iv aw), (.bool ax), (.slice g i h)] fun cn =>
 (kSet cn ⟨ae, 13, none⟩ (.slice none 0 0) fun co =>
 (∃ b9 : Int → Nat × (WP), (b9 (0 : Int)).2 co ∧
 (∀ (_ : Env) (b8 : Int) (p : World), (b9 b8).2 p →
 (kLdS p ⟨ci, 13, none⟩ fun _ ch _ =>
 (bsplit (decide (b8 < (ch : Int)))
 ((kLdS p ⟨ci, 13, none⟩ fun bn b1 _ =>
 (kIx bn b1 b8 fun cj =>
 (∃ aq : Int, ∃ ay : Bool, ∃ a1 : Int, ∃ x : OA, ∃ z y : Nat, ∃ aa : OA, ∃ ac ab : Nat, cellsAt p (cj.add (b8.toNat * 5)) 0 [(Iv aq), (.bool ay), (Iv a1), (.slice x z y), (.slice aa ac ab)] ∧
 (kAlloc p #[Iv (0 : Int), .bool false, Iv (0 : Int), .slice none 0 0, .slice none 0 0] Ty_api_Partial fun ad cp =>
 (sxStore cp ⟨ad, 0, none⟩ 0 [(Iv aq), (.bool ay), (Iv a1), (.slice x z y), (.slice aa ac ab)] fun cg =>
 (kLdS cg ⟨ad, 3, none⟩ fun bo b2 bu =>
 (AppP Tryz.prog #[Ty_S_uint8, Ty_S_uint8] Ty_S_uint8 #[(.slice none 0 0), (.slice bo b2 bu)] cg fun bp b3 bv cq =>
 (kSet cq ⟨ad, 3, none⟩ (.slice bp b3 bv) fun bb =>
 (kLdS bb ⟨ad, 4, none⟩ fun bq b4 bw =>
 (AppP Tryz.prog #[Ty_S_api_Range, Ty_S_api_Range] Ty_S_api_Range #[(.slice none 0 0), (.slice bq b4 bw)] bb fun br b5 bx cb =>
 (kSet cb ⟨ad, 4, none⟩ (.slice br b5 bx) fun ap =>
 (kLdS ap ⟨ae, 13, none⟩ fun bs b6 bz =>
 (∃ ar : Int, ∃ az : Bool, ∃ a2 : Int, ∃ j : OA, ∃ l k : Nat, ∃ m : OA, ∃ o n : Nat, cellsAt ap ⟨ad, 0, none⟩ 0 [(Iv ar), (.bool az), (Iv a2), (.slice j l k), (.slice m o n)] ∧
 (kAlloc ap #[(Iv ar), (.bool az), (Iv a2), (.slice j l k), (.slice m o n)] Ty_api_Partial fun ck cc =>
 (AppP Tryz.prog #[Ty_S_api_Partial, Ty_S_api_Partial] Ty_S_api_Partial #[(.slice bs b6 bz), (.slice (some ⟨ck, 0, none⟩) 1 1)] cc fun bt b7 b0 cd =>
 (kSet cd ⟨ae, 13, none⟩ (.slice bt b7 b0) fun ce =>
 (kW .i64 (b8 + (1 : Int)) fun cr =>
 ((b9 cr).2 ce ∧ (b9 cr).1 < (b9 b8).1)))))))))))))))))))
 ((∃ au a0 a3 a4 a5 a6 a7 a8 a9 ba t u : Int, ∃ v : Bool, ∃ d : OA, ∃ f e : Nat, cellsAt p ⟨ae, 0, none⟩ 0 [(Iv au), (Iv a0), (Iv a3), (Iv a4), (Iv a5), (Iv a6), (Iv a7), (Iv a8), (Iv a9), (Iv ba), (Iv t), (Iv u), (.bool v), (.slice d f e)] ∧
 (sxStore p ⟨ca, 0, none⟩ 0 [(Iv au), (Iv a0), (Iv a3), (Iv a4), (Iv a5), (Iv a6), (Iv a7), (Iv a8), (Iv a9), (Iv ba), (Iv t), (Iv u), (.bool v), (.slice d f e)] fun bc =>
 (∃ af ag ah ai aj ak al am an ao q r : Int, ∃ s : Bool, ∃ a : OA, ∃ c b : Nat, cellsAt bc ⟨ca, 0, none⟩ 0 [(Iv af), (Iv ag), (Iv ah), (Iv ai), (Iv aj), (Iv ak), (Iv al), (Iv am), (Iv an), (Iv ao), (Iv q), (Iv r), (.bool s), (.slice a c b)] ∧
 R (.agg #[Iv af, Iv ag, Iv ah, Iv ai, Iv aj, Iv ak, Iv al, Iv am, Iv an, Iv ao, Iv q, Iv r, .bool s, .slice a c b]) bc))))))))))))))
theorem F_ref21_Copy_ok {R : EP} (r_0 r_1 r_2 r_3 r_4 r_5 r_6 r_7 r_8 r_9 r_10 r_11 : Int) (r_12 : Bool) (r_13_a : OA) (r_13_l r_13_c : Nat) (w : World) (h : F_ref21_Copy r_0 r_1 r_2 r_3 r_4 r_5 r_6 r_7 r_8 r_9 r_10 r_11 r_12 r_13_a r_13_l r_13_c w fun v w' => R (.returned v) w') : CP N_ref21_Copy #[(.agg #[Iv r_0, Iv r_1, Iv r_2, Iv r_3, Iv r_4, Iv r_5, Iv r_6, Iv r_7, Iv r_8, Iv r_9, Iv r_10, Iv r_11, .bool r_12, .slice r_13_a r_13_l r_13_c])] w R :=
 calls_of (k := TTk) (h := h_ref21_Copy) (f := 69) follows_ok Tryz.func69 (Eq.mpr (by kernel_rfl) h)

def h_ref18_Decode : H := (.seq .reg (.seq (.seq .reg (.cond (.seq .reg .leaf) .leaf)) (.seq (.seq .reg (.cond (.seq .reg .leaf) .leaf)) (.seq .reg (.seq .reg (.seq .reg (.seq (.seq .reg (.cond (.seq .reg .leaf) .leaf)) (.cut [] [36, 37, 38, 39, 40] (.seq .reg (.cond .reg .leaf)) (.seq .reg (.seq (.seq .reg (.cond (.seq .reg .leaf) .leaf)) (.seq .reg .leaf)))))))))))
def F_ref18_Decode (bits : Int) (b_a : OA) (b_l b_c : Nat) (w : World) (R : Value → WP) : Prop :=
 (kAlloc w #[Iv (0 : Int), Iv (0 : Int), Iv (0 : Int), Iv (0 : Int), .slice none 0 0] Ty_api_Piece fun ab b2 =>
 (CP N_ref15_Bits #[(Iv bits)] b2 fun b1 bh =>
 ∃ ca : Bool, b1 = .returned (.bool ca) ∧
 (bsplit (!ca)
 ((sxStore bh ⟨ab, 0, none⟩ 0 [(Iv (0 : Int)), (Iv (0 : Int)), (Iv (0 : Int)), (Iv (0 : Int)), (.slice none 0 0)] fun bs =>
 (∃ a9 ba bb bc : Int, ∃ x : OA, ∃ z y : Nat, cellsAt bs ⟨ab, 0, none⟩ 0 [(Iv a9), (Iv ba), (Iv bb), (Iv bc), (.slice x z y)] ∧
 R (.tuple #[(.agg #[Iv a9, Iv ba, Iv bb, Iv bc, .slice x z y]), (Iv (3 : Int))]) bs)))
 ((bsplit (decide ((b_l : Int) < (2 : Int)))
 ((sxStore bh ⟨ab, 0, none⟩ 0 [(Iv (0 : Int)), (Iv (0 : Int)), (Iv (0 : Int)), (Iv (0 : Int)), (.slice none 0 0)] fun bt =>
 (∃ ad ai an au : Int, ∃ b : OA, ∃ l g : Nat, cellsAt bt ⟨ab, 0, none⟩ 0 [(Iv ad), (Iv ai), (Iv an), (Iv au), (.slice b l g)] ∧
 R (.tuple #[(.agg #[Iv ad, Iv ai, Iv an, Iv au, .slice b l g]), (Iv (5 : Int))]) bt)))
 ((CP N_ref01_Get #[(.slice b_a b_l b_c), (Iv (0 : Int)), (Iv (2 : Int))] bh fun bj b3 =>
 ∃ ac : Int, bj = .returned (Iv ac) ∧
 (kLet (Int.fdiv ac (2 ^ 14)) fun cb =>
 (kLet (bAnd .i64 cb (1 : Int)) fun b5 =>
 (kLet (Int.fdiv ac (2 ^ 12)) fun b6 =>
 (kLet (bAnd .i64 b6 (3 : Int)) fun b7 =>
 (kLet (bAnd .i64 ac (4095 : Int)) fun b8 =>
 (kAlloc b3 #[Iv (0 : Int), Iv (0 : Int), Iv (0 : Int), Iv (0 : Int), .slice none 0 0] Ty_api_Piece fun aa b4 =>
 (sxStore b4 ⟨aa, 0, none⟩ 0 [(Iv b8), (Iv b7), (Iv b5), (Iv (0 : Int)), (.slice none 0 0)] fun bu =>
 (kLd bu ⟨aa, 1, none⟩ .i64 fun b9 =>
 (CP N_ref18_Head #[(Iv b9)] bu fun bk bi =>
 ∃ a : Int, bk = .returned (Iv a) ∧
 (bsplit (decide ((b_l : Int) ≤ a))
 ((sxStore bi ⟨ab, 0, none⟩ 0 [(Iv (0 : Int)), (Iv (0 : Int)), (Iv (0 : Int)), (Iv (0 : Int)), (.slice none 0 0)] fun bv =>
 (∃ ae aj ao av : Int, ∃ c : OA, ∃ m h : Nat, cellsAt bv ⟨ab, 0, none⟩ 0 [(Iv ae), (Iv aj), (Iv ao), (Iv av), (.slice c m h)] ∧
 R (.tuple #[(.agg #[Iv ae, Iv aj, Iv ao, Iv av, .slice c m h]), (Iv (5 : Int))]) bv)))
 ((∃ b0 : WP,
 (∀ (_ : Env)  (bd : World), b0 bd →
 ((0 ≤ a ∧ a ≤ ((b_l : Nat) : Int)) ∧ (AppP Tryz.prog #[Ty_S_uint8, Ty_S_uint8] Ty_S_uint8 #[(.slice none 0 0), (.slice (slAddr b_c (a.toNat) 1 b_a) (b_l - a.toNat) (b_c - a.toNat))] bd fun bw bz bx br =>
 (kSet br ⟨aa, 4, none⟩ (.slice bw bz bx) fun az =>
 (bsplit (decide (ac < (32768 : Int)))
 ((sxStore az ⟨ab, 0, none⟩ 0 [(Iv (0 : Int)), (Iv (0 : Int)), (Iv (0 : Int)), (Iv (0 : Int)), (.slice none 0 0)] fun be =>
 (∃ af ak ap aw : Int, ∃ d : OA, ∃ n i : Nat, cellsAt be ⟨ab, 0, none⟩ 0 [(Iv af), (Iv ak), (Iv ap), (Iv aw), (.slice d n i)] ∧
 R (.tuple #[(.agg #[Iv af, Iv ak, Iv ap, Iv aw, .slice d n i]), (Iv (4 : Int))]) be)))
 ((∃ a1 a3 a5 a7 : Int, ∃ q : OA, ∃ u s : Nat, cellsAt az ⟨aa, 0, none⟩ 0 [(Iv a1), (Iv a3), (Iv a5), (Iv a7), (.slice q u s)] ∧
 (CP N_ref18_Valid #[(Iv bits), (.agg #[Iv a1, Iv a3, Iv a5, Iv a7, .slice q u s])] az fun bm a0 =>
 ∃ bo : Bool, bm = .returned (.bool bo) ∧
 (bsplit (!bo)
 ((sxStore a0 ⟨ab, 0, none⟩ 0 [(Iv (0 : Int)), (Iv (0 : Int)), (Iv (0 : Int)), (Iv (0 : Int)), (.slice none 0 0)] fun bf =>
 (∃ ag al aq ax : Int, ∃ e : OA, ∃ o j : Nat, cellsAt bf ⟨ab, 0, none⟩ 0 [(Iv ag), (Iv al), (Iv aq), (Iv ax), (.slice e o j)] ∧
 R (.tuple #[(.agg #[Iv ag, Iv al, Iv aq, Iv ax, .slice e o j]), (Iv (4 : Int))]) bf)))
 ((∃ a2 a4 a6 a8 : Int, ∃ r : OA, ∃ v t : Nat, cellsAt a0 ⟨aa, 0, none⟩ 0 [(Iv a2), (Iv a4), (Iv a6), (Iv a8), (.slice r v t)] ∧
 (sxStore a0 ⟨ab, 0, none⟩ 0 [(Iv a2), (Iv a4), (Iv a6), (Iv a8), (.slice r v t)] fun bg =>
 (∃ ah am ar ay : Int, ∃ f : OA, ∃ p k : Nat, cellsAt bg ⟨ab, 0, none⟩ 0 [(Iv ah), (Iv am), (Iv ar), (Iv ay), (.slice f p k)] ∧
 R (.tuple #[(.agg #[Iv ah, Iv am, Iv ar, Iv ay, .slice f p k]), (Iv (0 : Int))]) bg))))))))))))) ∧
 (bsplit (decide (a = (4 : Int)))
 ((CP N_ref01_Get #[(.slice b_a b_l b_c), (Iv (2 : Int)), (Iv (2 : Int))] bi fun bl bp =>
 ∃ bn : Int, bl = .returned (Iv bn) ∧
 (kSet bp ⟨aa, 3, none⟩ (Iv bn) fun bq =>
 b0 bq)))
 (b0 bi)))))))))))))))))))))
theorem F_ref18_Decode_ok {R : EP} (bits : Int) (b_a : OA) (b_l b_c : Nat) (w : World) (h : F_ref18_Decode bits b_a b_l b_c w fun v w' => R (.returned v) w') : CP N_ref18_Decode #[(Iv bits), (.slice b_a b_l b_c)] w R :=
 calls_of (k := TTk) (h := h_ref18_Decode) (f := 70) follows_ok Tryz.func70 (Eq.mpr (by kernel_rfl) h)

def h_ref21_put : H := (.seq .reg (.seq (.seq (.draw .blk (.one 0 .pre (.one 1 .pre (.one 2 .pre (.one 4 .stable (.one 5 .stable (.one 6 .stable (.one 7 .stable (.one 8 .stable (.one 9 .stable (.one 3 .keep (.one 10 .stable .nil)))))))))))) (.cond (.seq .reg .leaf) .leaf)) (.seq .reg (.cut [(7, .p (.int .i64))] [7, 23, 24, 25, 26, 27, 28, 29, 30, 31, 32, 33, 34, 35, 36, 37, 38, 39, 40, 41, 42, 43, 44] (.block (.loop [(7, .p (.int .i64))] [7, 23, 24, 25, 26, 27, 28, 29, 30, 31, 32, 33, 34, 35, 36, 37, 38, 39, 40, 41, 42, 43, 44] (.seq (.seq (.draw .blk (.one 0 .pre (.one 1 .pre (.one 2 .pre (.one 3 .pre (.one 4 .pre (.one 5 .pre (.one 6 .pre (.one 7 .pre (.one 8 .pre (.one 9 .pre (.one 10 .pre (.one 11 .pre (.one 12 .pre (.one 14 .stable (.one 15 .stable (.one 16 .stable (.one 13 .keep (.one 17 .keep (.one 18 .stable (.one 19 .stable .nil))))))))))))))))))))) (.cond .leaf .leaf)) (.block .reg)))) (.seq .reg (.cut [(9, .p .bool)] [9, 48, 49, 50, 51, 52, 53, 54, 55, 56, 57, 58, 59, 60, 61, 62, 63] (.draw .no (.one 0 .stable (.one 1 .stable (.one 2 .stable (.one 3 .stable (.one 4 .stable (.one 5 .stable (.one 6 .stable (.one 7 .stable (.one 8 .stable (.one 9 .stable (.one 10 .stable (.one 11 .stable (.one 12 .stable (.one 13 .stable (.one 14 .stable (.one 15 .stable (.one 16 .stable .nil)))))))))))))))))) (.cut [] [5, 6, 64, 65, 66, 67, 68, 69, 70, 71, 72, 73, 74, 75, 76, 77, 78, 79, 80] (.seq .reg (.cond (.seq .reg (.seq (.seq .reg (.cond (.seq .reg .leaf) .leaf)) (.seq (.seq .reg (.cond (.seq .reg .leaf) .leaf)) (.seq .reg (.cond (.seq .reg .leaf) .leaf))))) .leaf)) (.seq .reg (.seq .reg (.cut [(10, .p .slice)] [10, 84, 85, 86, 87, 88, 89, 90] (.seq .reg (.cond (.seq .reg .reg) .leaf)) (.cut [] [91, 92, 93, 94, 95, 96, 97, 98, 99, 100, 101, 102, 103, 104, 105, 106, 107, 108, 109] (.seq .reg (.cond .reg (.draw .blk (.one 0 .stable (.one 1 .stable (.one 2 .stable (.one 3 .stable (.one 4 .pre (.one 6 .stable (.one 7 .stable (.one 8 .stable (.one 9 .stable (.one 5 .keep (.one 10 .keep (.one 11 .keep (.one 12 .stable (.one 13 .last .nil))))))))))))))))) (.cut [] [110, 111, 112, 113, 114, 115, 116, 117, 118, 119, 120, 121, 122, 123, 124, 125, 126] (.seq (.draw .blk (.one 0 .pre (.one 1 .pre (.one 2 .pre (.one 4 .stable (.one 5 .stable (.one 6 .stable (.one 3 .keep (.one 7 .keep (.one 8 .stable .nil)))))))))) (.cond .reg .leaf)) (.cut [] [127, 128, 129, 130, 131, 132, 133, 134, 135, 136, 137, 138, 139, 140, 141, 142, 143, 144, 145, 146, 147, 148, 149, 150, 151, 152, 153, 154, 155, 156, 157, 158, 159] (.block (.loopG [] [127, 128, 129, 130, 131, 132, 133, 134, 135, 136, 137, 138, 139, 140, 141, 142, 143, 144, 145, 146, 147, 148, 149, 150, 151, 152, 153, 154, 155, 156, 157, 158, 159] (.cut [] [127, 128, 129, 130, 131, 132, 133, 134, 135, 136, 137, 138, 139, 140, 141, 142, 143, 144, 145, 146, 147] (.seq (.draw .no (.one 0 .stable (.one 1 .stable (.one 2 .stable (.one 3 .stable (.one 4 .stable (.one 5 .stable (.one 6 .stable (.one 7 .stable (.one 8 .stable (.one 9 .stable (.one 10 .stable (.one 11 .stable (.one 12 .stable (.one 13 .stable (.one 14 .stable (.one 15 .stable (.one 16 .stable (.one 17 .stable (.one 18 .stable (.one 19 .stable (.one 20 .stable .nil)))))))))))))))))))))) (.cond .leaf .leaf)) (.block (.seq .reg .reg))))) (.seq (.seq (.draw .blk (.one 0 .pre (.one 1 .pre (.one 2 .pre (.one 4 .stable (.one 5 .stable (.one 6 .stable (.one 3 .keep (.one 7 .keep (.one 8 .stable .nil)))))))))) (.cond .reg .leaf)) (.seq .reg .leaf)))))))))))))))
def F_ref21_put (r_0 r_1 r_2 r_3 r_4 r_5 r_6 r_7 r_8 r_9 r_10 r_11 : Int) (r_12 : Bool) (r_13_a : OA) (r_13_l r_13_c : Nat) (p_0 p_1 p_2 p_3 : Int) (p_4_a : OA) (p_4_l p_4_c : Nat) (w : World) (R : Value → WP) : Prop :=
 (kAlloc w #[(Iv r_0), (Iv r_1), (Iv r_2), (Iv r_3), (Iv r_4), (Iv r_5), (Iv r_6), (Iv r_7), (Iv r_8), (Iv r_9), (Iv r_10), (Iv r_11), (.bool r_12), (.slice r_13_a r_13_l r_13_c)] Ty_api_Receiver fun a p9 =>
 (kAlloc p9 #[(Iv p_0), (Iv p_1), (Iv p_2), (Iv p_3), (.slice p_4_a p_4_l p_4_c)] Ty_api_Piece fun f qa =>
 (kAlloc qa #[Iv (0 : Int), Iv (0 : Int), Iv (0 : Int), Iv (0 : Int), Iv (0 : Int), Iv (0 : Int), Iv (0 : Int), Iv (0 : Int), Iv (0 : Int), Iv (0 : Int), Iv (0 : Int), Iv (0 : Int), .bool false, .slice none 0 0] Ty_api_Receiver fun d qb =>
 (kDrew qb fun jq =>
 (∃ qi : Nat → Prop,
 (∃ nc nd ne nf ng nh ni nj nk nl j2 j3 : Int, ∃ j4 : Bool, ∃ cc : OA, ∃ ce cd : Nat, cellsAt jq ⟨a, 0, none⟩ 0 [(Iv nc), (Iv nd), (Iv ne), (Iv nf), (Iv ng), (Iv nh), (Iv ni), (Iv nj), (Iv nk), (Iv nl), (Iv j2), (Iv j3), (.bool j4), (.slice cc ce cd)] ∧
 (kLd jq ⟨f, 0, none⟩ .i64 fun ql =>
 (qi a ∧
 (kLd jq ⟨a, 0, none⟩ .i64 fun qc =>
 (kW .i64 (qc - (1 : Int)) fun qd =>
 (kW .u64 (qd) fun py =>
 (0 ≤ py ∧ (kW .i64 ((1 : Int) * 2 ^ (min py.toNat (IntKind.bits .i64))) fun qe =>
 (CP N_ref21_place #[(.agg #[Iv nc, Iv nd, Iv ne, Iv nf, Iv ng, Iv nh, Iv ni, Iv nj, Iv nk, Iv nl, Iv j2, Iv j3, .bool j4, .slice cc ce cd]), (Iv ql)] jq fun p8 mj =>
 ∃ qk : Int, p8 = .returned (Iv qk) ∧
 (KeepsB qi jq mj ∧ (bsplit (decide (qk ≥ qe))
 ((∃ jt j5 kc kl ku k3 lc ll lu l3 e1 fb : Int, ∃ fl : Bool, ∃ a0 : OA, ∃ bi a9 : Nat, cellsAt mj ⟨a, 0, none⟩ 0 [(Iv jt), (Iv j5), (Iv kc), (Iv kl), (Iv ku), (Iv k3), (Iv lc), (Iv ll), (Iv lu), (Iv l3), (Iv e1), (Iv fb), (.bool fl), (.slice a0 bi a9)] ∧
 (sxStore mj ⟨d, 0, none⟩ 0 [(Iv jt), (Iv j5), (Iv kc), (Iv kl), (Iv ku), (Iv k3), (Iv lc), (Iv ll), (Iv lu), (Iv l3), (Iv e1), (Iv fb), (.bool fl), (.slice a0 bi a9)] fun pd =>
 (∃ hb hk hr h0 h8 ih iq iz i7 jf dq dz : Int, ∃ d8 : Bool, ∃ y : OA, ∃ ao ag : Nat, cellsAt pd ⟨d, 0, none⟩ 0 [(Iv hb), (Iv hk), (Iv hr), (Iv h0), (Iv h8), (Iv ih), (Iv iq), (Iv iz), (Iv i7), (Iv jf), (Iv dq), (Iv dz), (.bool d8), (.slice y ao ag)] ∧
 R (.tuple #[(.agg #[Iv hb, Iv hk, Iv hr, Iv h0, Iv h8, Iv ih, Iv iq, Iv iz, Iv i7, Iv jf, Iv dq, Iv dz, .bool d8, .slice y ao ag]), (.slice none 0 0), (Iv (11 : Int))]) pd))))
 ((∃ p1 : Int → WP,
 (∀ (_ : Env) (b : Int) (jo : World), p1 b jo →
 (kLd jo ⟨f, 0, none⟩ .i64 fun qh =>
 (kAlloc jo #[Iv (0 : Int), .bool false, Iv (0 : Int), .slice none 0 0, .slice none 0 0] Ty_api_Partial fun e o1 =>
 (sxStore o1 ⟨e, 0, none⟩ 0 [(Iv qh), (.bool false), (Iv (-1 : Int)), (.slice none 0 0), (.slice none 0 0)] fun o2 =>
 (∃ nn : Bool → WP,
 (∀ (_ : Env) (g : Bool) (br : World), nn g br →
 (∃ no : WP,
 (∀ (_ : Env)  (em : World), no em →
 (∃ eq : Int, ∃ fk : Bool, ∃ f3 : Int, ∃ ch : OA, ∃ ct cn : Nat, ∃ c1 : OA, ∃ dj da : Nat, cellsAt em ⟨e, 0, none⟩ 0 [(Iv eq), (.bool fk), (Iv f3), (.slice ch ct cn), (.slice c1 dj da)] ∧
 (∃ er fr f4 kt : Int, ∃ c2 : OA, ∃ dk db : Nat, cellsAt em ⟨f, 0, none⟩ 0 [(Iv er), (Iv fr), (Iv f4), (Iv kt), (.slice c2 dk db)] ∧
 (CP N_ref21_merge #[(.agg #[Iv eq, .bool fk, Iv f3, .slice ch ct cn, .slice c1 dj da]), (.agg #[Iv er, Iv fr, Iv f4, Iv kt, .slice c2 dk db])] em fun om o3 =>
 ∃ hf : Int, ∃ ho : Bool, ∃ hv : Int, ∃ eg : OA, ∃ ei eh : Nat, ∃ ej : OA, ∃ el ek : Nat, om = .returned (.agg #[Iv hf, .bool ho, Iv hv, .slice eg ei eh, .slice ej el ek]) ∧
 (sxStore o3 ⟨e, 0, none⟩ 0 [(Iv hf), (.bool ho), (Iv hv), (.slice eg ei eh), (.slice ej el ek)] fun mz =>
 (∃ np : OA → Nat → Nat → WP,
 (∀ (_ : Env) (h : OA) (j : Nat) (i : Nat) (bt : World), np h j i bt →
 (∃ nq : WP,
 (∀ (_ : Env)  (m3 : World), nq m3 →
 (∃ nr : WP,
 (∀ (_ : Env)  (m5 : World), nr m5 →
 (∃ me : WP,
 (∀ (_ : Env)  (m7 : World), me m7 →
 (kDrew m7 fun m =>
 (∃ mh : Nat → Prop,
 (∃ ex fx ga gg k2 lb lk lt l2 mb e9 b2 : Int, ∃ b8 : Bool, ∃ a8 : OA, ∃ bq bh : Nat, cellsAt m ⟨a, 0, none⟩ 0 [(Iv ex), (Iv fx), (Iv ga), (Iv gg), (Iv k2), (Iv lb), (Iv lk), (Iv lt), (Iv l2), (Iv mb), (Iv e9), (Iv b2), (.bool b8), (.slice a8 bq bh)] ∧
 (kLd m ⟨a, 8, none⟩ .i64 fun pv =>
 (mh a ∧
 (∃ ey fy gb gh gn gt gw gz g2 g5 bw b3 : Int, ∃ b9 : Bool, ∃ n : OA, ∃ t q : Nat, cellsAt m ⟨a, 0, none⟩ 0 [(Iv ey), (Iv fy), (Iv gb), (Iv gh), (Iv gn), (Iv gt), (Iv gw), (Iv gz), (Iv g2), (Iv g5), (Iv bw), (Iv b3), (.bool b9), (.slice n t q)] ∧
 (mh a ∧
 (kLd m ⟨a, 7, none⟩ .i64 fun pw =>
 (CP N_ref21_place #[(.agg #[Iv ex, Iv fx, Iv ga, Iv gg, Iv k2, Iv lb, Iv lk, Iv lt, Iv l2, Iv mb, Iv e9, Iv b2, .bool b8, .slice a8 bq bh]), (Iv pv)] m fun nt m8 =>
 ∃ mu : Int, nt = .returned (Iv mu) ∧
 (KeepsB mh m m8 ∧ (CP N_ref21_place #[(.agg #[Iv ey, Iv fy, Iv gb, Iv gh, Iv gn, Iv gt, Iv gw, Iv gz, Iv g2, Iv g5, Iv bw, Iv b3, .bool b9, .slice n t q]), (Iv pw)] m8 fun nu bv =>
 ∃ mv : Int, nu = .returned (Iv mv) ∧
 (KeepsB mh m bv ∧ (bsplit (decide (mu > mv))
 ((kLd bv ⟨a, 6, none⟩ .i64 fun px =>
 (kSet bv ⟨a, 8, none⟩ (Iv px) fun m9 =>
 (∃ ez fz gc gi go gu gx g0 g3 g6 bx b4 : Int, ∃ ca : Bool, ∃ o : OA, ∃ u r : Nat, cellsAt m9 ⟨a, 0, none⟩ 0 [(Iv ez), (Iv fz), (Iv gc), (Iv gi), (Iv go), (Iv gu), (Iv gx), (Iv g0), (Iv g3), (Iv g6), (Iv bx), (Iv b4), (.bool ca), (.slice o u r)] ∧
 (CP N_ref21_start #[(.agg #[Iv ez, Iv fz, Iv gc, Iv gi, Iv go, Iv gu, Iv gx, Iv g0, Iv g3, Iv g6, Iv bx, Iv b4, .bool ca, .slice o u r])] m9 fun nv pb =>
 ∃ hg hp hw h4 ic il iv i3 jb jj du d3 : Int, ∃ ec : Bool, ∃ ac : OA, ∃ au ak : Nat, nv = .returned (.agg #[Iv hg, Iv hp, Iv hw, Iv h4, Iv ic, Iv il, Iv iv, Iv i3, Iv jb, Iv jj, Iv du, Iv d3, .bool ec, .slice ac au ak]) ∧
 (sxStore pb ⟨d, 0, none⟩ 0 [(Iv hg), (Iv hp), (Iv hw), (Iv h4), (Iv ic), (Iv il), (Iv iv), (Iv i3), (Iv jb), (Iv jj), (Iv du), (Iv d3), (.bool ec), (.slice ac au ak)] fun na =>
 (∃ hh hq hx h5 id im iw i4 jc jk dv d4 : Int, ∃ ed : Bool, ∃ ad : OA, ∃ av al : Nat, cellsAt na ⟨d, 0, none⟩ 0 [(Iv hh), (Iv hq), (Iv hx), (Iv h5), (Iv id), (Iv im), (Iv iw), (Iv i4), (Iv jc), (Iv jk), (Iv dv), (Iv d4), (.bool ed), (.slice ad av al)] ∧
 R (.tuple #[(.agg #[Iv hh, Iv hq, Iv hx, Iv h5, Iv id, Iv im, Iv iw, Iv i4, Iv jc, Iv jk, Iv dv, Iv d4, .bool ed, .slice ad av al]), (.slice h j i), (Iv (0 : Int))]) na)))))))
 ((∃ e0 f0 gd gj gp gv gy g1 g4 g7 bz b5 : Int, ∃ cb : Bool, ∃ p : OA, ∃ v s : Nat, cellsAt bv ⟨a, 0, none⟩ 0 [(Iv e0), (Iv f0), (Iv gd), (Iv gj), (Iv gp), (Iv gv), (Iv gy), (Iv g1), (Iv g4), (Iv g7), (Iv bz), (Iv b5), (.bool cb), (.slice p v s)] ∧
 (CP N_ref21_start #[(.agg #[Iv e0, Iv f0, Iv gd, Iv gj, Iv gp, Iv gv, Iv gy, Iv g1, Iv g4, Iv g7, Iv bz, Iv b5, .bool cb, .slice p v s])] bv fun nw pc =>
 ∃ hi dy hy h6 ie io ix i5 jd jl dw d5 : Int, ∃ ee : Bool, ∃ ae : OA, ∃ aw am : Nat, nw = .returned (.agg #[Iv hi, Iv dy, Iv hy, Iv h6, Iv ie, Iv io, Iv ix, Iv i5, Iv jd, Iv jl, Iv dw, Iv d5, .bool ee, .slice ae aw am]) ∧
 (sxStore pc ⟨d, 0, none⟩ 0 [(Iv hi), (Iv dy), (Iv hy), (Iv h6), (Iv ie), (Iv io), (Iv ix), (Iv i5), (Iv jd), (Iv jl), (Iv dw), (Iv d5), (.bool ee), (.slice ae aw am)] fun nb =>
 (∃ hj d6 hz h7 ig ip iy i6 je jm dx d7 : Int, ∃ ef : Bool, ∃ af : OA, ∃ ax an : Nat, cellsAt nb ⟨d, 0, none⟩ 0 [(Iv hj), (Iv d6), (Iv hz), (Iv h7), (Iv ig), (Iv ip), (Iv iy), (Iv i6), (Iv je), (Iv jm), (Iv dx), (Iv d7), (.bool ef), (.slice af ax an)] ∧
 R (.tuple #[(.agg #[Iv hj, Iv d6, Iv hz, Iv h7, Iv ig, Iv ip, Iv iy, Iv i6, Iv je, Iv jm, Iv dx, Iv d7, .bool ef, .slice af ax an]), (.slice h j i), (Iv (0 : Int))]) nb))))))))))))))))))) ∧
 (∃ nm : Nat → WP, (∃ m' : Nat, nm m' m5) ∧
 (∀ (_ : Env)  (qj : Nat) (m6 : World), nm qj m6 →
 (∃ og : WP,
 (∀ (_ : Env)  (jr : World), og jr →
 (kLdS jr ⟨a, 13, none⟩ fun mn g9 g8 =>
 ((0 ≤ (1 : Int) ∧ (1 : Int) ≤ ((g9 : Nat) : Int)) ∧ (kSet jr ⟨a, 13, none⟩ (.slice (slAddr g8 ((1 : Int).toNat) 5 mn) (g9 - (1 : Int).toNat) (g8 - (1 : Int).toNat)) fun js =>
 (kLd js ⟨a, 0, none⟩ .i64 fun ps =>
 (kLd js ⟨a, 6, none⟩ .i64 fun pt =>
 (kW .i64 (pt + (1 : Int)) fun pu =>
 (CP N_ref02_Low #[(Iv ps), (Iv pu)] js fun ns o9 =>
 ∃ o0 : Int, ns = .returned (Iv o0) ∧
 (kSet o9 ⟨a, 6, none⟩ (Iv o0) fun pa =>
 (∃ m' : Nat, m' < qj ∧ nm m' pa)))))))))) ∧
 (kDrew m6 fun c =>
 (kLdS c ⟨a, 13, none⟩ fun _ mq _ =>
 (bsplit (decide ((mq : Int) > (0 : Int)))
 ((kLdS c ⟨a, 13, none⟩ fun ml mr _ =>
 (kIx ml mr (0 : Int) fun p7 =>
 (kLdB c ((p7.add ((0 : Int).toNat * 5)).add 1) fun pp =>
 (bsplit pp
 ((kLdS c ⟨a, 13, none⟩ fun mm ms _ =>
 (kIx mm ms (0 : Int) fun oh =>
 (kLd c (oh.add ((0 : Int).toNat * 5)) .i64 fun pq =>
 (kLd c ⟨a, 6, none⟩ .i64 fun pr =>
 (bsplit (decide (pq = pr))
 (og c)
 (me c)))))))
 (me c))))))
 (me c))))))))) ∧
 (kDrew m3 fun l =>
 (∃ mg : Nat → Prop,
 (∃ ev fv f8 ge k0 k9 li lr l0 l9 e7 b0 : Int, ∃ b6 : Bool, ∃ a6 : OA, ∃ bo bf : Nat, cellsAt l ⟨a, 0, none⟩ 0 [(Iv ev), (Iv fv), (Iv f8), (Iv ge), (Iv k0), (Iv k9), (Iv li), (Iv lr), (Iv l0), (Iv l9), (Iv e7), (Iv b0), (.bool b6), (.slice a6 bo bf)] ∧
 (kLd l ⟨f, 0, none⟩ .i64 fun pk =>
 (mg a ∧
 (∃ ew fw f9 gf k1 la lj ls l1 ma e8 b1 : Int, ∃ b7 : Bool, ∃ a7 : OA, ∃ bp bg : Nat, cellsAt l ⟨a, 0, none⟩ 0 [(Iv ew), (Iv fw), (Iv f9), (Iv gf), (Iv k1), (Iv la), (Iv lj), (Iv ls), (Iv l1), (Iv ma), (Iv e8), (Iv b1), (.bool b7), (.slice a7 bp bg)] ∧
 (mg a ∧
 (kLd l ⟨a, 7, none⟩ .i64 fun pl =>
 (CP N_ref21_place #[(.agg #[Iv ev, Iv fv, Iv f8, Iv ge, Iv k0, Iv k9, Iv li, Iv lr, Iv l0, Iv l9, Iv e7, Iv b0, .bool b6, .slice a6 bo bf]), (Iv pk)] l fun oo m4 =>
 ∃ ox : Int, oo = .returned (Iv ox) ∧
 (KeepsB mg l m4 ∧ (CP N_ref21_place #[(.agg #[Iv ew, Iv fw, Iv f9, Iv gf, Iv k1, Iv la, Iv lj, Iv ls, Iv l1, Iv ma, Iv e8, Iv b1, .bool b7, .slice a7 bp bg]), (Iv pl)] m4 fun op bu =>
 ∃ oy : Int, op = .returned (Iv oy) ∧
 (KeepsB mg l bu ∧ (bsplit (decide (ox ≥ oy))
 ((kLd bu ⟨a, 0, none⟩ .i64 fun pm =>
 (kLd bu ⟨f, 0, none⟩ .i64 fun pn =>
 (kW .i64 (pn + (1 : Int)) fun po =>
 (CP N_ref02_Low #[(Iv pm), (Iv po)] bu fun oq o7 =>
 ∃ oz : Int, oq = .returned (Iv oz) ∧
 (kSet o7 ⟨a, 7, none⟩ (Iv oz) fun o8 =>
 nr o8))))))
 (nr bu)))))))))))))))) ∧
 (bsplit g
 ((kLdS bt ⟨a, 13, none⟩ fun n1 oc _ =>
 (∃ et : Int, ∃ ft : Bool, ∃ f6 : Int, ∃ cj : OA, ∃ cv cp : Nat, ∃ c4 : OA, ∃ dm dd : Nat, cellsAt bt ⟨e, 0, none⟩ 0 [(Iv et), (.bool ft), (Iv f6), (.slice cj cv cp), (.slice c4 dm dd)] ∧
 (kIx n1 oc b fun p5 =>
 (sxStore bt (p5.add (b.toNat * 5)) 0 [(Iv et), (.bool ft), (Iv f6), (.slice cj cv cp), (.slice c4 dm dd)] fun o5 =>
 nq o5)))))
 ((kDrew bt fun k =>
 (∃ ha : Nat → Prop,
 (ha a ∧
 (kLdS k ⟨a, 13, none⟩ fun n2 _ dp =>
 ((0 ≤ b ∧ b ≤ ((dp : Nat) : Int)) ∧ (∃ eu : Int, ∃ fu : Bool, ∃ f7 : Int, ∃ ck : OA, ∃ cw cq : Nat, ∃ c5 : OA, ∃ dn de : Nat, cellsAt k ⟨e, 0, none⟩ 0 [(Iv eu), (.bool fu), (Iv f7), (.slice ck cw cq), (.slice c5 dn de)] ∧
 (ha a ∧
 (kLdS k ⟨a, 13, none⟩ fun n3 md mc =>
 ((0 ≤ b ∧ b ≤ ((md : Nat) : Int)) ∧ (kAlloc k #[(Iv eu), (.bool fu), (Iv f7), (.slice ck cw cq), (.slice c5 dn de)] Ty_api_Partial fun p6 m0 =>
 (KeepsB ha k m0 ∧ (AppP Tryz.prog #[Ty_S_api_Partial, Ty_S_api_Partial] Ty_S_api_Partial #[(.slice (some ⟨p6, 0, none⟩) 1 1), (.slice (slAddr mc (b.toNat) 5 n3) (md - b.toNat) (mc - b.toNat))] m0 fun n4 od n6 m1 =>
 (KeepsB ha k m1 ∧ (AppP Tryz.prog #[Ty_S_api_Partial, Ty_S_api_Partial] Ty_S_api_Partial #[(.slice (slAddr dp 0 5 n2) (b.toNat - 0) (dp - 0)), (.slice n4 od n6)] m1 fun mk mp mo m2 =>
 (KeepsB ha k m2 ∧ (kSet m2 ⟨a, 13, none⟩ (.slice mk mp mo) fun o6 =>
 nq o6)))))))))))))))))))) ∧
 (∃ es : Int, ∃ fs : Bool, ∃ f5 : Int, ∃ ci : OA, ∃ cu co : Nat, ∃ c3 : OA, ∃ dl dc : Nat, cellsAt mz ⟨e, 0, none⟩ 0 [(Iv es), (.bool fs), (Iv f5), (.slice ci cu co), (.slice c3 dl dc)] ∧
 (CP N_ref21_whole #[(.agg #[Iv es, .bool fs, Iv f5, .slice ci cu co, .slice c3 dl dc])] mz fun on en =>
 ∃ ow : Bool, on = .returned (.bool ow) ∧
 (bsplit ow
 ((kLdS en ⟨e, 3, none⟩ fun n0 ob n5 =>
 (kLd en ⟨f, 0, none⟩ .i64 fun pj =>
 (sxStore en ⟨e, 0, none⟩ 0 [(Iv pj), (.bool true), (Iv (0 : Int)), (.slice none 0 0), (.slice none 0 0)] fun o4 =>
 np n0 ob n5 o4))))
 (np none 0 0 en)))))))))) ∧
 (bsplit g
 ((kLdS br ⟨a, 13, none⟩ fun nz oa _ =>
 (kIx nz oa b fun p4 =>
 (∃ jw : Int, ∃ j8 : Bool, ∃ kf : Int, ∃ gk : OA, ∃ gm gl : Nat, ∃ gq : OA, ∃ gs gr : Nat, cellsAt br (p4.add (b.toNat * 5)) 0 [(Iv jw), (.bool j8), (Iv kf), (.slice gk gm gl), (.slice gq gs gr)] ∧
 (sxStore br ⟨e, 0, none⟩ 0 [(Iv jw), (.bool j8), (Iv kf), (.slice gk gm gl), (.slice gq gs gr)] fun az =>
 (kLdB az ⟨e, 1, none⟩ fun pi =>
 (bsplit pi
 ((∃ jx j9 kg ko kx k6 lf lo lx l6 e4 fe : Int, ∃ fo : Bool, ∃ a3 : OA, ∃ bl bc : Nat, cellsAt az ⟨a, 0, none⟩ 0 [(Iv jx), (Iv j9), (Iv kg), (Iv ko), (Iv kx), (Iv k6), (Iv lf), (Iv lo), (Iv lx), (Iv l6), (Iv e4), (Iv fe), (.bool fo), (.slice a3 bl bc)] ∧
 (sxStore az ⟨d, 0, none⟩ 0 [(Iv jx), (Iv j9), (Iv kg), (Iv ko), (Iv kx), (Iv k6), (Iv lf), (Iv lo), (Iv lx), (Iv l6), (Iv e4), (Iv fe), (.bool fo), (.slice a3 bl bc)] fun mw =>
 (∃ hc hl hs h1 h9 ii ir i0 i8 jg dr d0 : Int, ∃ d9 : Bool, ∃ z : OA, ∃ ap ah : Nat, cellsAt mw ⟨d, 0, none⟩ 0 [(Iv hc), (Iv hl), (Iv hs), (Iv h1), (Iv h9), (Iv ii), (Iv ir), (Iv i0), (Iv i8), (Iv jg), (Iv dr), (Iv d0), (.bool d9), (.slice z ap ah)] ∧
 R (.tuple #[(.agg #[Iv hc, Iv hl, Iv hs, Iv h1, Iv h9, Iv ii, Iv ir, Iv i0, Iv i8, Iv jg, Iv dr, Iv d0, .bool d9, .slice z ap ah]), (.slice none 0 0), (Iv (12 : Int))]) mw))))
 ((∃ jy : Int, ∃ ka : Bool, ∃ kh : Int, ∃ cf : OA, ∃ cr cl : Nat, ∃ cx : OA, ∃ df c6 : Nat, cellsAt az ⟨e, 0, none⟩ 0 [(Iv jy), (.bool ka), (Iv kh), (.slice cf cr cl), (.slice cx df c6)] ∧
 (∃ jz kb ki kp : Int, ∃ cy : OA, ∃ dg c7 : Nat, cellsAt az ⟨f, 0, none⟩ 0 [(Iv jz), (Iv kb), (Iv ki), (Iv kp), (.slice cy dg c7)] ∧
 (CP N_ref21_contradicts #[(.agg #[Iv jy, .bool ka, Iv kh, .slice cf cr cl, .slice cx df c6]), (.agg #[Iv jz, Iv kb, Iv ki, Iv kp, .slice cy dg c7])] az fun ok bs =>
 ∃ ou : Bool, ok = .returned (.bool ou) ∧
 (bsplit ou
 ((∃ j0 fa kj kq ky k7 lg lp ly l7 e5 ff : Int, ∃ fp : Bool, ∃ a4 : OA, ∃ bm bd : Nat, cellsAt bs ⟨a, 0, none⟩ 0 [(Iv j0), (Iv fa), (Iv kj), (Iv kq), (Iv ky), (Iv k7), (Iv lg), (Iv lp), (Iv ly), (Iv l7), (Iv e5), (Iv ff), (.bool fp), (.slice a4 bm bd)] ∧
 (sxStore bs ⟨d, 0, none⟩ 0 [(Iv j0), (Iv fa), (Iv kj), (Iv kq), (Iv ky), (Iv k7), (Iv lg), (Iv lp), (Iv ly), (Iv l7), (Iv e5), (Iv ff), (.bool fp), (.slice a4 bm bd)] fun mx =>
 (∃ hd hm ht h2 ia ij it i1 i9 jh ds d1 : Int, ∃ ea : Bool, ∃ aa : OA, ∃ aq ai : Nat, cellsAt mx ⟨d, 0, none⟩ 0 [(Iv hd), (Iv hm), (Iv ht), (Iv h2), (Iv ia), (Iv ij), (Iv it), (Iv i1), (Iv i9), (Iv jh), (Iv ds), (Iv d1), (.bool ea), (.slice aa aq ai)] ∧
 R (.tuple #[(.agg #[Iv hd, Iv hm, Iv ht, Iv h2, Iv ia, Iv ij, Iv it, Iv i1, Iv i9, Iv jh, Iv ds, Iv d1, .bool ea, .slice aa aq ai]), (.slice none 0 0), (Iv (4 : Int))]) mx))))
 ((∃ j1 : Int, ∃ fg : Bool, ∃ kk : Int, ∃ cg : OA, ∃ cs cm : Nat, ∃ cz : OA, ∃ dh c8 : Nat, cellsAt bs ⟨e, 0, none⟩ 0 [(Iv j1), (.bool fg), (Iv kk), (.slice cg cs cm), (.slice cz dh c8)] ∧
 (∃ eo fh f1 kr : Int, ∃ c0 : OA, ∃ di c9 : Nat, cellsAt bs ⟨f, 0, none⟩ 0 [(Iv eo), (Iv fh), (Iv f1), (Iv kr), (.slice c0 di c9)] ∧
 (CP N_ref21_has #[(.agg #[Iv j1, .bool fg, Iv kk, .slice cg cs cm, .slice cz dh c8]), (.agg #[Iv eo, Iv fh, Iv f1, Iv kr, .slice c0 di c9])] bs fun ol jp =>
 ∃ ov : Bool, ol = .returned (.bool ov) ∧
 (bsplit ov
 ((∃ ep fi f2 ks kz k8 lh lq lz l8 e6 fj : Int, ∃ fq : Bool, ∃ a5 : OA, ∃ bn be : Nat, cellsAt jp ⟨a, 0, none⟩ 0 [(Iv ep), (Iv fi), (Iv f2), (Iv ks), (Iv kz), (Iv k8), (Iv lh), (Iv lq), (Iv lz), (Iv l8), (Iv e6), (Iv fj), (.bool fq), (.slice a5 bn be)] ∧
 (sxStore jp ⟨d, 0, none⟩ 0 [(Iv ep), (Iv fi), (Iv f2), (Iv ks), (Iv kz), (Iv k8), (Iv lh), (Iv lq), (Iv lz), (Iv l8), (Iv e6), (Iv fj), (.bool fq), (.slice a5 bn be)] fun my =>
 (∃ he hn hu h3 ib ik iu i2 ja ji dt d2 : Int, ∃ eb : Bool, ∃ ab : OA, ∃ ar aj : Nat, cellsAt my ⟨d, 0, none⟩ 0 [(Iv he), (Iv hn), (Iv hu), (Iv h3), (Iv ib), (Iv ik), (Iv iu), (Iv i2), (Iv ja), (Iv ji), (Iv dt), (Iv d2), (.bool eb), (.slice ab ar aj)] ∧
 R (.tuple #[(.agg #[Iv he, Iv hn, Iv hu, Iv h3, Iv ib, Iv ik, Iv iu, Iv i2, Iv ja, Iv ji, Iv dt, Iv d2, .bool eb, .slice ab ar aj]), (.slice none 0 0), (Iv (12 : Int))]) my))))
 (no jp))))))))))))))))))
 (no br)))) ∧
 (kDrew o2 fun ay =>
 (kLdS ay ⟨a, 13, none⟩ fun _ n8 _ =>
 (bsplit (decide (b < (n8 : Int)))
 ((kLdS ay ⟨a, 13, none⟩ fun ny n9 _ =>
 (kIx ny n9 b fun p3 =>
 (kLd ay (p3.add (b.toNat * 5)) .i64 fun pg =>
 (kLd ay ⟨f, 0, none⟩ .i64 fun ph =>
 (kLet (decide (pg = ph)) fun mi =>
 nn mi ay))))))
 (nn false ay))))))))) ∧
 (∃ oe : Int → Nat × (WP), (oe (0 : Int)).2 mj ∧
 (∀ (_ : Env) (mt : Int) (pe : World), (oe mt).2 pe →
 (kDrew pe fun x =>
 (∃ mf : Nat → Prop,
 (kLdS x ⟨a, 13, none⟩ fun _ p0 _ =>
 (bsplit (decide (mt < (p0 : Int)))
 ((∃ ju j6 kd km kv k4 ld lm lv l4 e2 fc : Int, ∃ fm : Bool, ∃ a1 : OA, ∃ bj ba : Nat, cellsAt x ⟨a, 0, none⟩ 0 [(Iv ju), (Iv j6), (Iv kd), (Iv km), (Iv kv), (Iv k4), (Iv ld), (Iv lm), (Iv lv), (Iv l4), (Iv e2), (Iv fc), (.bool fm), (.slice a1 bj ba)] ∧
 (kLdS x ⟨a, 13, none⟩ fun nx n7 _ =>
 (kIx nx n7 mt fun p2 =>
 (kLd x (p2.add (mt.toNat * 5)) .i64 fun qf =>
 (mf a ∧
 (∃ jv j7 ke kn kw k5 le ln lw l5 e3 fd : Int, ∃ fn : Bool, ∃ a2 : OA, ∃ bk bb : Nat, cellsAt x ⟨a, 0, none⟩ 0 [(Iv jv), (Iv j7), (Iv ke), (Iv kn), (Iv kw), (Iv k5), (Iv le), (Iv ln), (Iv lw), (Iv l5), (Iv e3), (Iv fd), (.bool fn), (.slice a2 bk bb)] ∧
 (mf f ∧
 (kLd x ⟨f, 0, none⟩ .i64 fun qg =>
 (CP N_ref21_place #[(.agg #[Iv ju, Iv j6, Iv kd, Iv km, Iv kv, Iv k4, Iv ld, Iv lm, Iv lv, Iv l4, Iv e2, Iv fc, .bool fm, .slice a1 bj ba]), (Iv qf)] x fun oi pf =>
 ∃ os : Int, oi = .returned (Iv os) ∧
 (KeepsB mf x pf ∧ (CP N_ref21_place #[(.agg #[Iv jv, Iv j7, Iv ke, Iv kn, Iv kw, Iv k5, Iv le, Iv ln, Iv lw, Iv l5, Iv e3, Iv fd, .bool fn, .slice a2 bk bb]), (Iv qg)] pf fun oj jn =>
 ∃ ot : Int, oj = .returned (Iv ot) ∧
 (KeepsB mf x jn ∧ (bsplit (decide (os < ot))
 ((kW .i64 (mt + (1 : Int)) fun pz =>
 ((oe pz).2 jn ∧ (oe pz).1 < (oe mt).1)))
 (p1 mt jn)))))))))))))))
 (p1 mt x)))))))))))))))))))))))))
theorem F_ref21_put_ok {R : EP} (r_0 r_1 r_2 r_3 r_4 r_5 r_6 r_7 r_8 r_9 r_10 r_11 : Int) (r_12 : Bool) (r_13_a : OA) (r_13_l r_13_c : Nat) (p_0 p_1 p_2 p_3 : Int) (p_4_a : OA) (p_4_l p_4_c : Nat) (w : World) (h : F_ref21_put r_0 r_1 r_2 r_3 r_4 r_5 r_6 r_7 r_8 r_9 r_10 r_11 r_12 r_13_a r_13_l r_13_c p_0 p_1 p_2 p_3 p_4_a p_4_l p_4_c w fun v w' => R (.returned v) w') : CP N_ref21_put #[(.agg #[Iv r_0, Iv r_1, Iv r_2, Iv r_3, Iv r_4, Iv r_5, Iv r_6, Iv r_7, Iv r_8, Iv r_9, Iv r_10, Iv r_11, .bool r_12, .slice r_13_a r_13_l r_13_c]), (.agg #[Iv p_0, Iv p_1, Iv p_2, Iv p_3, .slice p_4_a p_4_l p_4_c])] w R :=
 calls_of (k := TTk) (h := h_ref21_put) (f := 71) follows_ok Tryz.func71 (Eq.mpr (by kernel_rfl) h)

def h_ref21_start : H := (.seq .reg (.cut [] [3, 4, 5, 6, 7, 8, 9, 10, 11, 12, 13, 14, 15, 16, 17, 18, 19, 20, 21, 22, 23, 24, 25] (.seq (.draw .blk (.one 0 .pre (.one 1 .pre (.one 2 .pre (.one 3 .pre (.one 4 .pre (.one 5 .pre (.one 6 .pre (.one 7 .keep (.one 8 .stable (.one 9 .stable (.one 10 .stable (.one 11 .stable (.one 12 .stable (.one 14 .stable (.one 15 .stable (.one 16 .stable (.one 13 .keep (.one 17 .keep (.one 18 .stable (.one 19 .stable (.one 20 .stable .nil)))))))))))))))))))))) (.cond .reg .leaf)) (.seq (.seq .reg (.cond .reg .leaf)) (.seq .reg .leaf))))
def F_ref21_start (r_0 r_1 r_2 r_3 r_4 r_5 r_6 r_7 r_8 r_9 r_10 r_11 : Int) (r_12 : Bool) (r_13_a : OA) (r_13_l r_13_c : Nat) (w : World) (R : Value → WP) : Prop :=
 (kAlloc w #[(Iv r_0), (Iv r_1), (Iv r_2), (Iv r_3), (Iv r_4), (Iv r_5), (Iv r_6), (Iv r_7), (Iv r_8), (Iv r_9), (Iv r_10), (Iv r_11), (.bool r_12), (.slice r_13_a r_13_l r_13_c)] Ty_api_Receiver fun b d9 =>
 (kAlloc d9 #[Iv (0 : Int), Iv (0 : Int), Iv (0 : Int), Iv (0 : Int), Iv (0 : Int), Iv (0 : Int), Iv (0 : Int), Iv (0 : Int), Iv (0 : Int), Iv (0 : Int), Iv (0 : Int), Iv (0 : Int), .bool false, .slice none 0 0] Ty_api_Receiver fun a5 ea =>
 (∃ d0 : WP,
 (∀ (_ : Env)  (a : World), d0 a →
 (kLd a ⟨b, 9, none⟩ .i64 fun eh =>
 (bsplit (decide (eh = (-1 : Int)))
 ((kLd a ⟨b, 6, none⟩ .i64 fun ei =>
 (kLd a ⟨b, 7, none⟩ .i64 fun ej =>
 (bsplit (!decide (ei = ej))
 ((kLd a ⟨b, 7, none⟩ .i64 fun ek =>
 (kLd a ⟨b, 3, none⟩ .i64 fun el =>
 (kSet a ⟨b, 9, none⟩ (Iv ek) fun d6 =>
 (kSet d6 ⟨b, 10, none⟩ (Iv el) fun di =>
 (∃ b3 cb cg cl cq cv c0 c5 da df aq ax : Int, ∃ a2 : Bool, ∃ o : OA, ∃ z t : Nat, cellsAt di ⟨b, 0, none⟩ 0 [(Iv b3), (Iv cb), (Iv cg), (Iv cl), (Iv cq), (Iv cv), (Iv c0), (Iv c5), (Iv da), (Iv df), (Iv aq), (Iv ax), (.bool a2), (.slice o z t)] ∧
 (sxStore di ⟨a5, 0, none⟩ 0 [(Iv b3), (Iv cb), (Iv cg), (Iv cl), (Iv cq), (Iv cv), (Iv c0), (Iv c5), (Iv da), (Iv df), (Iv aq), (Iv ax), (.bool a2), (.slice o z t)] fun dj =>
 (∃ a6 a9 bc bf bi bl bo br bu bx af ai : Int, ∃ al : Bool, ∃ d : OA, ∃ j g : Nat, cellsAt dj ⟨a5, 0, none⟩ 0 [(Iv a6), (Iv a9), (Iv bc), (Iv bf), (Iv bi), (Iv bl), (Iv bo), (Iv br), (Iv bu), (Iv bx), (Iv af), (Iv ai), (.bool al), (.slice d j g)] ∧
 R (.agg #[Iv a6, Iv a9, Iv bc, Iv bf, Iv bi, Iv bl, Iv bo, Iv br, Iv bu, Iv bx, Iv af, Iv ai, .bool al, .slice d j g]) dj))))))))
 ((∃ b4 cc ch cm cr cw c1 c6 db dg ar ay : Int, ∃ a3 : Bool, ∃ p : OA, ∃ aa u : Nat, cellsAt a ⟨b, 0, none⟩ 0 [(Iv b4), (Iv cc), (Iv ch), (Iv cm), (Iv cr), (Iv cw), (Iv c1), (Iv c6), (Iv db), (Iv dg), (Iv ar), (Iv ay), (.bool a3), (.slice p aa u)] ∧
 (sxStore a ⟨a5, 0, none⟩ 0 [(Iv b4), (Iv cc), (Iv ch), (Iv cm), (Iv cr), (Iv cw), (Iv c1), (Iv c6), (Iv db), (Iv dg), (Iv ar), (Iv ay), (.bool a3), (.slice p aa u)] fun dk =>
 (∃ a7 ba bd bg bj bm bp bs bv bz ag aj : Int, ∃ am : Bool, ∃ e : OA, ∃ k h : Nat, cellsAt dk ⟨a5, 0, none⟩ 0 [(Iv a7), (Iv ba), (Iv bd), (Iv bg), (Iv bj), (Iv bm), (Iv bp), (Iv bs), (Iv bv), (Iv bz), (Iv ag), (Iv aj), (.bool am), (.slice e k h)] ∧
 R (.agg #[Iv a7, Iv ba, Iv bd, Iv bg, Iv bj, Iv bm, Iv bp, Iv bs, Iv bv, Iv bz, Iv ag, Iv aj, .bool am, .slice e k h]) dk))))))))
 ((∃ b5 cd ci cn cs cx c2 c7 dc dh au az : Int, ∃ a4 : Bool, ∃ q : OA, ∃ ab v : Nat, cellsAt a ⟨b, 0, none⟩ 0 [(Iv b5), (Iv cd), (Iv ci), (Iv cn), (Iv cs), (Iv cx), (Iv c2), (Iv c7), (Iv dc), (Iv dh), (Iv au), (Iv az), (.bool a4), (.slice q ab v)] ∧
 (sxStore a ⟨a5, 0, none⟩ 0 [(Iv b5), (Iv cd), (Iv ci), (Iv cn), (Iv cs), (Iv cx), (Iv c2), (Iv c7), (Iv dc), (Iv dh), (Iv au), (Iv az), (.bool a4), (.slice q ab v)] fun dl =>
 (∃ a8 bb be bh bk bn bq bt bw b0 ah ak : Int, ∃ an : Bool, ∃ f : OA, ∃ l i : Nat, cellsAt dl ⟨a5, 0, none⟩ 0 [(Iv a8), (Iv bb), (Iv be), (Iv bh), (Iv bk), (Iv bn), (Iv bq), (Iv bt), (Iv bw), (Iv b0), (Iv ah), (Iv ak), (.bool an), (.slice f l i)] ∧
 R (.agg #[Iv a8, Iv bb, Iv be, Iv bh, Iv bk, Iv bn, Iv bq, Iv bt, Iv bw, Iv b0, Iv ah, Iv ak, .bool an, .slice f l i]) dl))))))) ∧
 (kDrew ea fun c =>
 (∃ dx : Nat → Prop,
 (kLd c ⟨b, 9, none⟩ .i64 fun en =>
 (bsplit (!decide (en = (-1 : Int)))
 ((∃ dm dn dp dq dr ds dt du dv dw b6 b7 : Int, ∃ b8 : Bool, ∃ ac : OA, ∃ ae ad : Nat, cellsAt c ⟨b, 0, none⟩ 0 [(Iv dm), (Iv dn), (Iv dp), (Iv dq), (Iv dr), (Iv ds), (Iv dt), (Iv du), (Iv dv), (Iv dw), (Iv b6), (Iv b7), (.bool b8), (.slice ac ae ad)] ∧
 (kLd c ⟨b, 9, none⟩ .i64 fun ee =>
 (CP N_ref21_place #[(.agg #[Iv dm, Iv dn, Iv dp, Iv dq, Iv dr, Iv ds, Iv dt, Iv du, Iv dv, Iv dw, Iv b6, Iv b7, .bool b8, .slice ac ae ad]), (Iv ee)] c fun d8 dy =>
 ∃ em : Int, d8 = .returned (Iv em) ∧
 (KeepsB dx c dy ∧ (bsplit (decide (em = (0 : Int)))
 ((kSet dy ⟨b, 9, none⟩ (Iv (-1 : Int)) fun eb =>
 (kSet eb ⟨b, 10, none⟩ (Iv (0 : Int)) fun ec =>
 d0 ec)))
 ((dx b ∧
 (∃ b1 b9 ce cj co ct cy c3 c8 dd ao av : Int, ∃ a0 : Bool, ∃ m : OA, ∃ x r : Nat, cellsAt c ⟨b, 0, none⟩ 0 [(Iv b1), (Iv b9), (Iv ce), (Iv cj), (Iv co), (Iv ct), (Iv cy), (Iv c3), (Iv c8), (Iv dd), (Iv ao), (Iv av), (.bool a0), (.slice m x r)] ∧
 (dx b ∧
 (kLd c ⟨b, 9, none⟩ .i64 fun ef =>
 (dx b ∧
 (∃ b2 ca cf ck cp cu cz c4 c9 de ap aw : Int, ∃ a1 : Bool, ∃ n : OA, ∃ y s : Nat, cellsAt c ⟨b, 0, none⟩ 0 [(Iv b2), (Iv ca), (Iv cf), (Iv ck), (Iv cp), (Iv cu), (Iv cz), (Iv c4), (Iv c9), (Iv de), (Iv ap), (Iv aw), (.bool a1), (.slice n y s)] ∧
 (dx b ∧
 (kLd c ⟨b, 7, none⟩ .i64 fun eg =>
 (CP N_ref21_place #[(.agg #[Iv b1, Iv b9, Iv ce, Iv cj, Iv co, Iv ct, Iv cy, Iv c3, Iv c8, Iv dd, Iv ao, Iv av, .bool a0, .slice m x r]), (Iv ef)] dy fun d1 d7 =>
 ∃ d3 : Int, d1 = .returned (Iv d3) ∧
 (KeepsB dx c d7 ∧ (CP N_ref21_place #[(.agg #[Iv b2, Iv ca, Iv cf, Iv ck, Iv cp, Iv cu, Iv cz, Iv c4, Iv c9, Iv de, Iv ap, Iv aw, .bool a1, .slice n y s]), (Iv eg)] d7 fun d2 dz =>
 ∃ d4 : Int, d2 = .returned (Iv d4) ∧
 (KeepsB dx c dz ∧ (bsplit (decide (d3 > d4))
 ((kSet dz ⟨b, 9, none⟩ (Iv (-1 : Int)) fun ed =>
 (kSet ed ⟨b, 10, none⟩ (Iv (0 : Int)) fun d5 =>
 d0 d5)))
 (d0 dz)))))))))))))))))))))
 (d0 c))))))))
theorem F_ref21_start_ok {R : EP} (r_0 r_1 r_2 r_3 r_4 r_5 r_6 r_7 r_8 r_9 r_10 r_11 : Int) (r_12 : Bool) (r_13_a : OA) (r_13_l r_13_c : Nat) (w : World) (h : F_ref21_start r_0 r_1 r_2 r_3 r_4 r_5 r_6 r_7 r_8 r_9 r_10 r_11 r_12 r_13_a r_13_l r_13_c w fun v w' => R (.returned v) w') : CP N_ref21_start #[(.agg #[Iv r_0, Iv r_1, Iv r_2, Iv r_3, Iv r_4, Iv r_5, Iv r_6, Iv r_7, Iv r_8, Iv r_9, Iv r_10, Iv r_11, .bool r_12, .slice r_13_a r_13_l r_13_c])] w R :=
 calls_of (k := TTk) (h := h_ref21_start) (f := 72) follows_ok Tryz.func72 (Eq.mpr (by kernel_rfl) h)

def h_ref19_Fit : H := (.seq .reg (.seq (.seq .reg (.cond (.seq .reg .leaf) .leaf)) (.seq (.seq .reg (.cond (.seq .reg .leaf) .leaf)) (.seq .reg (.seq .reg (.seq (.seq .reg (.block (.loop [(9, .p (.int .i64)), (10, .p (.int .i64))] [9, 10, 11, 12, 24, 25, 26, 27, 28, 29, 30, 31, 32, 33, 34, 35, 36, 37, 38, 39, 40, 41, 42, 43, 44, 45, 46, 47, 48, 49, 50, 51, 52, 53, 54, 55, 56, 57, 58, 59, 60, 61, 62, 63, 64, 65, 66, 67, 68, 69, 70, 71, 72, 73, 74, 75, 76, 77, 78, 79, 80, 81, 82, 83, 84] (.seq (.seq .reg (.cond .leaf .leaf)) (.block (.seq .reg (.cut [(11, .p (.int .i64)), (12, .p (.int .i64))] [11, 12, 30, 31, 32, 33, 34, 35, 36, 37, 38, 39, 40, 41, 42, 43, 44, 45, 46, 47, 48, 49, 50, 51, 52, 53, 54, 55, 56, 57, 58, 59] (.block (.loop [(11, .p (.int .i64)), (12, .p (.int .i64))] [11, 12, 30, 31, 32, 33, 34, 35, 36, 37, 38, 39, 40, 41, 42, 43, 44, 45, 46, 47, 48, 49, 50, 51, 52, 53, 54, 55, 56, 57, 58, 59] (.seq (.seq (.draw .no (.one 0 .stable (.one 1 .stable (.one 2 .stable (.one 3 .stable (.one 4 .stable (.one 5 .stable (.one 6 .stable (.one 7 .stable (.one 8 .stable (.one 9 .stable (.one 10 .stable (.one 11 .stable (.one 12 .stable (.one 13 .stable (.one 14 .stable (.one 15 .stable (.one 16 .stable (.one 17 .stable (.one 18 .stable (.one 19 .stable .nil))))))))))))))))))))) (.cond .leaf .leaf)) (.block (.seq .reg .reg))))) (.seq (.seq .reg (.cond (.seq .reg .leaf) .leaf)) (.seq (.draw .blk (.one 0 .pre (.one 1 .pre (.one 2 .pre (.one 3 .pre (.one 4 .pre (.one 5 .pre (.one 6 .pre (.one 7 .keep (.one 8 .stable (.one 9 .last .nil))))))))))) (.seq .reg .reg)))))))))) (.seq .reg .leaf)))))))
def F_ref19_Fit (bits s_0 : Int) (s_1_a : OA) (s_1_l s_1_c : Nat) (space : Int) (w : World) (R : Value → WP) : Prop :=
 (kAlloc w #[(Iv s_0), (.slice s_1_a s_1_l s_1_c)] Ty_api_Status fun ap b2 =>
 (kAlloc b2 #[Iv (0 : Int), .slice none 0 0] Ty_api_Status fun d bm =>
 (∃ ay : Int, ∃ ab : OA, ∃ ad ac : Nat, cellsAt bm ⟨ap, 0, none⟩ 0 [(Iv ay), (.slice ab ad ac)] ∧
 (CP N_ref19_Valid #[(Iv bits), (.agg #[Iv ay, .slice ab ad ac])] bm fun b1 aq =>
 ∃ b9 : Bool, b1 = .returned (.bool b9) ∧
 (bsplit (!b9)
 ((sxStore aq ⟨d, 0, none⟩ 0 [(Iv (0 : Int)), (.slice none 0 0)] fun bn =>
 (∃ ar : Int, ∃ x : OA, ∃ z y : Nat, cellsAt bn ⟨d, 0, none⟩ 0 [(Iv ar), (.slice x z y)] ∧
 R (.tuple #[(.agg #[Iv ar, .slice x z y]), (Iv (1 : Int))]) bn)))
 ((bsplit (decide (space < (3 : Int)))
 ((sxStore aq ⟨d, 0, none⟩ 0 [(Iv (0 : Int)), (.slice none 0 0)] fun bo =>
 (∃ ah : Int, ∃ e : OA, ∃ k h : Nat, cellsAt bo ⟨d, 0, none⟩ 0 [(Iv ah), (.slice e k h)] ∧
 R (.tuple #[(.agg #[Iv ah, .slice e k h]), (Iv (15 : Int))]) bo)))
 ((kLd aq ⟨ap, 0, none⟩ .i64 fun cb =>
 (kAlloc aq #[Iv (0 : Int), .slice none 0 0] Ty_api_Status fun ae b3 =>
 (sxStore b3 ⟨ae, 0, none⟩ 0 [(Iv cb), (.slice none 0 0)] fun b4 =>
 (∃ bh : Int → Int → Nat × (WP), (bh (3 : Int) (0 : Int)).2 b4 ∧
 (∀ (_ : Env) (bu : Int) (af : Int) (ak : World), (bh bu af).2 ak →
 (kLdS ak ⟨ap, 1, none⟩ fun _ bt _ =>
 (bsplit (decide (af < (bt : Int)))
 ((∃ bv : Int → Int → WP,
 (∀ (_ : Env) (u : Int) (c : Int) (n : World), bv u c n →
 (kW .i64 (bu + c) fun b7 =>
 (bsplit (decide (b7 > space))
 ((kLdS n ⟨ap, 1, none⟩ fun a4 be _ =>
 (kIx a4 be af fun b0 =>
 (kLd n (b0.add (af.toNat * 3)) .i64 fun b8 =>
 (kSet n ⟨ae, 0, none⟩ (Iv b8) fun au =>
 (∃ am : Int, ∃ o : OA, ∃ s q : Nat, cellsAt au ⟨ae, 0, none⟩ 0 [(Iv am), (.slice o s q)] ∧
 (sxStore au ⟨d, 0, none⟩ 0 [(Iv am), (.slice o s q)] fun av =>
 (∃ ai : Int, ∃ f : OA, ∃ l i : Nat, cellsAt av ⟨d, 0, none⟩ 0 [(Iv ai), (.slice f l i)] ∧
 R (.tuple #[(.agg #[Iv ai, .slice f l i]), (Iv (0 : Int))]) av))))))))
 ((kDrew n fun aa =>
 (∃ ca : Nat → Prop,
 (kLdS aa ⟨ae, 1, none⟩ fun a5 bf a8 =>
 (kLdS aa ⟨ap, 1, none⟩ fun a6 _ v =>
 ((0 ≤ u ∧ u ≤ ((v : Nat) : Int)) ∧ ((0 ≤ af ∧ af ≤ ((u.toNat : Nat) : Int)) ∧ (AppP Tryz.prog #[Ty_S_api_Range, Ty_S_api_Range] Ty_S_api_Range #[(.slice a5 bf a8), (.slice (slAddr v (af.toNat) 3 a6) (u.toNat - af.toNat) (v - af.toNat))] aa fun a7 bg a9 aw =>
 (KeepsB ca aa aw ∧ (kSet aw ⟨ae, 1, none⟩ (.slice a7 bg a9) fun bl =>
 (kW .i64 (bu + c) fun bs =>
 ((bh bs u).2 bl ∧ (bh bs u).1 < (bh bu af).1))))))))))))))) ∧
 (∃ ag : Int → Int → Nat × (WP), (ag af (0 : Int)).2 ak ∧
 (∀ (_ : Env) (ao : Int) (b : Int) (bp : World), (ag ao b).2 bp →
 (kDrew bp fun a =>
 (kLdS a ⟨ap, 1, none⟩ fun _ ba _ =>
 (bsplit (decide (ao < (ba : Int)))
 ((kLdS a ⟨ap, 1, none⟩ fun a1 bb _ =>
 (kIx a1 bb ao fun bw =>
 (kLd a (bw.add (ao.toNat * 3)) .i64 fun b5 =>
 (kLdS a ⟨ap, 1, none⟩ fun a2 bc _ =>
 (kIx a2 bc af fun bx =>
 (kLd a (bx.add (af.toNat * 3)) .i64 fun b6 =>
 (bsplit (decide (b5 = b6))
 ((kLdS a ⟨ap, 1, none⟩ fun a3 bd _ =>
 (kIx a3 bd ao fun bz =>
 (∃ al az a0 : Int, cellsAt a (bz.add (ao.toNat * 3)) 0 [(Iv al), (Iv az), (Iv a0)] ∧
 (CP N_ref19_size #[(.agg #[Iv al, Iv az, Iv a0])] a fun bi bk =>
 ∃ bj : Int, bi = .returned (Iv bj) ∧
 (kW .i64 (b + bj) fun bq =>
 (kW .i64 (ao + (1 : Int)) fun br =>
 ((ag br bq).2 bk ∧ (ag br bq).1 < (ag ao b).1))))))))
 (bv ao b a)))))))))
 (bv ao b a))))))))
 ((∃ an : Int, ∃ p : OA, ∃ t r : Nat, cellsAt ak ⟨ae, 0, none⟩ 0 [(Iv an), (.slice p t r)] ∧
 (sxStore ak ⟨d, 0, none⟩ 0 [(Iv an), (.slice p t r)] fun ax =>
 (∃ aj : Int, ∃ g : OA, ∃ m j : Nat, cellsAt ax ⟨d, 0, none⟩ 0 [(Iv aj), (.slice g m j)] ∧
 R (.tuple #[(.agg #[Iv aj, .slice g m j]), (Iv (0 : Int))]) ax)))))))))))))))))))
theorem F_ref19_Fit_ok {R : EP} (bits s_0 : Int) (s_1_a : OA) (s_1_l s_1_c : Nat) (space : Int) (w : World) (h : F_ref19_Fit bits s_0 s_1_a s_1_l s_1_c space w fun v w' => R (.returned v) w') : CP N_ref19_Fit #[(Iv bits), (.agg #[Iv s_0, .slice s_1_a s_1_l s_1_c]), (Iv space)] w R :=
 calls_of (k := TTk) (h := h_ref19_Fit) (f := 73) follows_ok Tryz.func73 (Eq.mpr (by kernel_rfl) h)

def h_ref21_partial : H := (.seq .reg (.seq (.cut [(66, .p .bool)] [8, 9, 10, 11, 12, 13, 14, 15, 16, 17, 18, 19, 20, 21, 22, 23, 24, 25, 26, 27, 28, 29, 30, 31, 32, 33, 34, 35, 36, 37, 38, 39, 40, 41, 42, 43, 44, 45, 46, 47, 48, 49, 50, 51, 52, 53, 54, 55, 56, 57, 58, 59, 60, 61, 62, 63, 64, 65, 66] (.draw .blk (.one 0 .pre (.one 1 .pre (.one 2 .pre (.one 3 .pre (.one 4 .pre (.one 5 .pre (.one 6 .pre (.one 7 .pre (.one 8 .pre (.one 9 .pre (.one 10 .pre (.one 11 .pre (.one 12 .pre (.one 13 .pre (.one 14 .pre (.one 15 .pre (.one 16 .pre (.one 17 .pre (.one 18 .pre (.one 19 .pre (.one 20 .pre (.one 21 .pre (.one 22 .keep (.one 23 .stable (.one 24 .stable (.one 25 .stable (.one 26 .stable (.one 27 .stable (.one 28 .stable (.one 29 .stable (.one 30 .stable (.one 31 .stable (.one 32 .stable (.one 33 .stable (.one 34 .stable (.one 35 .stable (.one 36 .stable (.one 37 .stable (.one 38 .stable (.one 39 .stable (.one 40 .stable (.one 41 .stable (.one 42 .stable (.one 43 .stable (.one 44 .stable (.one 45 .stable (.one 46 .stable (.one 47 .stable (.one 48 .stable (.one 49 .stable (.one 50 .stable (.one 51 .stable (.one 52 .stable (.one 53 .stable (.one 54 .stable (.one 55 .stable (.one 56 .stable (.one 57 .stable (.one 58 .stable .nil)))))))))))))))))))))))))))))))))))))))))))))))))))))))))))) (.cond (.seq .reg .leaf) .leaf)) (.seq (.seq .reg (.block (.loop [(3, .p (.int .i64))] [2, 3, 67, 68, 69, 70, 71, 72, 73, 74, 75, 76, 77, 78, 79, 80, 81, 82] (.seq (.seq .reg (.cond .leaf .leaf)) (.seq (.block (.seq (.draw .no (.one 0 .stable (.one 1 .stable (.one 2 .stable (.one 3 .stable (.one 4 .stable (.one 5 .stable (.one 6 .stable (.one 7 .stable (.one 8 .stable .nil)))))))))) (.cond (.seq .reg .leaf) .leaf))) .reg))))) (.seq .reg (.seq (.seq .reg (.block (.loop [(6, .p (.int .i64))] [2, 6, 7, 94, 95, 96, 97, 98, 99, 100, 101, 102, 103, 104, 105, 106, 107, 108, 109, 110, 111, 112, 113, 114, 115, 116, 117, 118, 119] (.seq (.seq .reg (.cond .leaf .leaf)) (.seq (.block (.seq .reg (.block (.loop [(7, .p (.int .i64))] [2, 7, 105, 106, 107, 108, 109, 110, 111, 112, 113, 114, 115, 116, 117, 118, 119] (.seq (.seq .reg (.cond .leaf .leaf)) (.seq (.block (.seq .reg (.cond (.seq .reg .leaf) .leaf))) .reg)))))) .reg))))) (.seq .reg .leaf))))))
def F_ref21_partial (p_0 : Int) (p_1 : Bool) (p_2 : Int) (p_3_a : OA) (p_3_l p_3_c : Nat) (p_4_a : OA) (p_4_l p_4_c : Nat) (w : World) (R : Value → WP) : Prop :=
 (kAlloc w #[(Iv p_0), (.bool p_1), (Iv p_2), (.slice p_3_a p_3_l p_3_c), (.slice p_4_a p_4_l p_4_c)] Ty_api_Partial fun b cf =>
 (∃ f : Bool → WP,
 (∀ (_ : Env) (ax : Bool) (a4 : World), f ax a4 →
 (bsplit ax
 (R (.bool false) a4)
 ((∃ bm : Int → Nat × (WP), (bm (0 : Int)).2 a4 ∧
 (∀ (_ : Env) (bk : Int) (g : World), (bm bk).2 g →
 (kLdS g ⟨b, 4, none⟩ fun _ aq _ =>
 (bsplit (decide (bk < (aq : Int)))
 ((kDrew g fun t =>
 (kLdS t ⟨b, 4, none⟩ fun ab ar _ =>
 (kIx ab ar bk fun b9 =>
 (kLd t (b9.add (bk.toNat * 3)) .i64 fun b2 =>
 (kLd t ⟨b, 0, none⟩ .i64 fun b3 =>
 (bsplit (!decide (b2 = b3))
 (R (.bool false) t)
 ((kW .i64 (bk + (1 : Int)) fun ay =>
 ((bm ay).2 t ∧ (bm ay).1 < (bm bk).1))))))))))
 ((kLdS g ⟨b, 4, none⟩ fun ac au af =>
 (kLd g ⟨b, 0, none⟩ .i64 fun b4 =>
 (kLdS g ⟨b, 3, none⟩ fun _ av _ =>
 (CP N_ref18_Gaps #[(.slice ac au af), (Iv b4), (Iv (av : Int))] g fun bs cg =>
 ∃ s : OA, ∃ h bw : Nat, ∃ ce : Int, bs = .returned (.tuple #[(.slice s h bw), (Iv ce)]) ∧
 (∃ q : Int → Nat × (WP), (q (0 : Int)).2 cg ∧
 (∀ (_ : Env) (e : Int) (u : World), (q e).2 u →
 (bsplit (decide (e < (h : Int)))
 ((kIx s h e fun ca =>
 (kLd u ((ca.add (e.toNat * 3)).add 1) .i64 fun b5 =>
 (∃ r : Int → Nat × (WP), (r b5).2 u ∧
 (∀ (_ : Env) (bl : Int) (d : World), (r bl).2 d →
 (kIx s h e fun cb =>
 (kLd d ((cb.add (e.toNat * 3)).add 2) .i64 fun b6 =>
 (bsplit (decide (bl < b6))
 ((kLdS d ⟨b, 3, none⟩ fun ad aw _ =>
 (kIx ad aw bl fun cc =>
 (kLd d (cc.add (bl.toNat * 1)) .u8 fun b7 =>
 (bsplit (!decide (b7 = (0 : Int)))
 (R (.bool false) d)
 ((kW .i64 (bl + (1 : Int)) fun az =>
 ((r az).2 d ∧ (r az).1 < (r bl).1))))))))
 ((kW .i64 (e + (1 : Int)) fun a0 =>
 ((q a0).2 d ∧ (q a0).1 < (q e).1)))))))))))
 ((∃ a1 : Int, ∃ a2 : Bool, ∃ a3 : Int, ∃ i : OA, ∃ k j : Nat, ∃ l : OA, ∃ n m : Nat, cellsAt u ⟨b, 0, none⟩ 0 [(Iv a1), (.bool a2), (Iv a3), (.slice i k j), (.slice l n m)] ∧
 (CP N_ref21_whole #[(.agg #[Iv a1, .bool a2, Iv a3, .slice i k j, .slice l n m])] u fun bt bx =>
 ∃ bv : Bool, bt = .returned (.bool bv) ∧
 R (.bool (!bv)) bx)))))))))))))))))) ∧
 (kDrew cf fun a =>
 (∃ c : Nat → Prop,
 (kLd a ⟨b, 2, none⟩ .i64 fun cp =>
 (bsplit (!decide (cp = (-1 : Int)))
 ((kLd a ⟨b, 2, none⟩ .i64 fun ch =>
 (bsplit (decide (ch < (1 : Int)))
 (f true a)
 ((kLd a ⟨b, 2, none⟩ .i64 fun ci =>
 (bsplit (decide (ci > (2054 : Int)))
 (f true a)
 ((kLdS a ⟨b, 4, none⟩ fun _ b8 _ =>
 (bsplit (decide ((b8 : Int) = (0 : Int)))
 (f true a)
 ((kLdS a ⟨b, 4, none⟩ fun a7 bb ba =>
 (CP N_ref18_Normal #[(.slice a7 bb ba)] a fun cd o =>
 ∃ co : Bool, cd = .returned (.bool co) ∧
 (KeepsB c a o ∧ (bsplit (!co)
 (f true o)
 ((c b ∧
 (kLdS a ⟨b, 3, none⟩ fun _ bc _ =>
 (bsplit (decide ((bc : Int) > (2054 : Int)))
 (f true o)
 ((c b ∧
 (kLd a ⟨b, 2, none⟩ .i64 fun cj =>
 (bsplit (!decide (cj = (-1 : Int)))
 ((c b ∧
 (kLdS a ⟨b, 3, none⟩ fun _ bd _ =>
 (c b ∧
 (kLd a ⟨b, 2, none⟩ .i64 fun ck =>
 (bsplit (decide ((bd : Int) > ck))
 (f true o)
 ((c b ∧
 (kLdS a ⟨b, 4, none⟩ fun a8 be _ =>
 (c b ∧
 (kLdS a ⟨b, 4, none⟩ fun _ bf _ =>
 (kW .i64 ((bf : Int) - (1 : Int)) fun a5 =>
 (kIx a8 be a5 fun bn =>
 (c ((bn.add (a5.toNat * 3)).add 2).block ∧
 (kLd a ((bn.add (a5.toNat * 3)).add 2) .i64 fun cl =>
 (c b ∧
 (kLdS a ⟨b, 3, none⟩ fun _ bg _ =>
 f (!decide (cl = (bg : Int))) o)))))))))))))))))
 ((c b ∧
 (kLdS a ⟨b, 4, none⟩ fun a9 bh _ =>
 (c b ∧
 (kLdS a ⟨b, 4, none⟩ fun _ bi _ =>
 (kW .i64 ((bi : Int) - (1 : Int)) fun a6 =>
 (kIx a9 bh a6 fun bo =>
 (c ((bo.add (a6.toNat * 3)).add 2).block ∧
 (kLd a ((bo.add (a6.toNat * 3)).add 2) .i64 fun cm =>
 (c b ∧
 (kLdS a ⟨b, 3, none⟩ fun _ bj _ =>
 f (!decide (cm = (bj : Int))) o)))))))))))))))))))))))))))))))))
 ((kLdS a ⟨b, 4, none⟩ fun _ ag _ =>
 (bsplit (decide ((ag : Int) = (0 : Int)))
 (f true a)
 ((kLdS a ⟨b, 4, none⟩ fun y ah ae =>
 (CP N_ref18_Normal #[(.slice y ah ae)] a fun br p =>
 ∃ bu : Bool, br = .returned (.bool bu) ∧
 (KeepsB c a p ∧ (bsplit (!bu)
 (f true p)
 ((c b ∧
 (kLdS a ⟨b, 3, none⟩ fun _ ai _ =>
 (bsplit (decide ((ai : Int) > (2054 : Int)))
 (f true p)
 ((c b ∧
 (kLd a ⟨b, 2, none⟩ .i64 fun cn =>
 (bsplit (!decide (cn = (-1 : Int)))
 ((c b ∧
 (kLdS a ⟨b, 3, none⟩ fun _ aj _ =>
 (c b ∧
 (kLd a ⟨b, 2, none⟩ .i64 fun bz =>
 (bsplit (decide ((aj : Int) > bz))
 (f true p)
 ((c b ∧
 (kLdS a ⟨b, 4, none⟩ fun z ak _ =>
 (c b ∧
 (kLdS a ⟨b, 4, none⟩ fun _ al _ =>
 (kW .i64 ((al : Int) - (1 : Int)) fun v =>
 (kIx z ak v fun bp =>
 (c ((bp.add (v.toNat * 3)).add 2).block ∧
 (kLd a ((bp.add (v.toNat * 3)).add 2) .i64 fun b0 =>
 (c b ∧
 (kLdS a ⟨b, 3, none⟩ fun _ am _ =>
 f (!decide (b0 = (am : Int))) p)))))))))))))))))
 ((c b ∧
 (kLdS a ⟨b, 4, none⟩ fun aa an _ =>
 (c b ∧
 (kLdS a ⟨b, 4, none⟩ fun _ ao _ =>
 (kW .i64 ((ao : Int) - (1 : Int)) fun x =>
 (kIx aa an x fun bq =>
 (c ((bq.add (x.toNat * 3)).add 2).block ∧
 (kLd a ((bq.add (x.toNat * 3)).add 2) .i64 fun b1 =>
 (c b ∧
 (kLdS a ⟨b, 3, none⟩ fun _ ap _ =>
 f (!decide (b1 = (ap : Int))) p)))))))))))))))))))))))))))))))))
theorem F_ref21_partial_ok {R : EP} (p_0 : Int) (p_1 : Bool) (p_2 : Int) (p_3_a : OA) (p_3_l p_3_c : Nat) (p_4_a : OA) (p_4_l p_4_c : Nat) (w : World) (h : F_ref21_partial p_0 p_1 p_2 p_3_a p_3_l p_3_c p_4_a p_4_l p_4_c w fun v w' => R (.returned v) w') : CP N_ref21_partial #[(.agg #[Iv p_0, .bool p_1, Iv p_2, .slice p_3_a p_3_l p_3_c, .slice p_4_a p_4_l p_4_c])] w R :=
 calls_of (k := TTk) (h := h_ref21_partial) (f := 74) follows_ok Tryz.func74 (Eq.mpr (by kernel_rfl) h)

def h_made_Dice_Bits : H := (.seq .reg (.seq .reg .leaf))
def F_made_Dice_Bits (d_b d_o : Nat) (w : World) (R : Value → WP) : Prop :=
 (kAlloc w #[(Iv (5 : Int)), (Iv (5 : Int)), (Iv (6 : Int)), (Iv (9 : Int))] Ty_int fun f e =>
 (CP N_made_Dice_Next #[(.pointer (some ⟨d_b, d_o, none⟩)), (Iv (4 : Int))] e fun c a =>
 ∃ d : Int, c = .returned (Iv d) ∧
 (kIx (some ⟨f, 0, none⟩) 4 d fun b =>
 (kLd a (b.add (d.toNat * 1)) .i64 fun g =>
 R (Iv g) a))))
theorem F_made_Dice_Bits_ok {R : EP} (d_b d_o : Nat) (w : World) (h : F_made_Dice_Bits d_b d_o w fun v w' => R (.returned v) w') : CP N_made_Dice_Bits #[(.pointer (some ⟨d_b, d_o, none⟩))] w R :=
 calls_of (k := TTk) (h := h_made_Dice_Bits) (f := 75) follows_ok Tryz.func75 (Eq.mpr (by kernel_rfl) h)

def h_ref02_valid : H := (.seq .reg (.seq .reg .leaf))
def F_ref02_valid (n : Int) (w : World) (R : Value → WP) : Prop :=
 (bsplit (decide (n ≥ (1 : Int)))
 ((kLet (decide (n ≤ (32 : Int))) fun a =>
 R (.bool a) w))
 (R (.bool false) w))
theorem F_ref02_valid_ok {R : EP} (n : Int) (w : World) (h : F_ref02_valid n w fun v w' => R (.returned v) w') : CP N_ref02_valid #[(Iv n)] w R :=
 calls_of (k := TTk) (h := h_ref02_valid) (f := 76) follows_ok Tryz.func76 (Eq.mpr (by kernel_rfl) h)

def h_slices_Clone_Sapi_Partial_api_Partial : H := (.seq .reg (.seq (.seq .reg (.cond (.seq .reg .leaf) .leaf)) (.seq .reg .leaf)))
def F_slices_Clone_Sapi_Partial_api_Partial (s_a : OA) (s_l s_c : Nat) (w : World) (R : Value → WP) : Prop :=
 (bsplit s_a.isNone
 (R (.slice none 0 0) w)
 ((kAlloc w #[] Ty_api_Partial fun f d =>
 (AppP Tryz.prog #[Ty_S_api_Partial, Ty_S_api_Partial] Ty_S_api_Partial #[(.slice (some ⟨f, 0, none⟩) 0 0), (.slice s_a s_l s_c)] d fun a c b e =>
 R (.slice a c b) e))))
theorem F_slices_Clone_Sapi_Partial_api_Partial_ok {R : EP} (s_a : OA) (s_l s_c : Nat) (w : World) (h : F_slices_Clone_Sapi_Partial_api_Partial s_a s_l s_c w fun v w' => R (.returned v) w') : CP N_slices_Clone_Sapi_Partial_api_Partial #[(.slice s_a s_l s_c)] w R :=
 calls_of (k := TTk) (h := h_slices_Clone_Sapi_Partial_api_Partial) (f := 77) follows_ok Tryz.func77 (Eq.mpr (by kernel_rfl) h)

def h_slices_Clone_Sbyte_byte : H := (.seq .reg (.seq (.seq .reg (.cond (.seq .reg .leaf) .leaf)) (.seq .reg .leaf)))
def F_slices_Clone_Sbyte_byte (s_a : OA) (s_l s_c : Nat) (w : World) (R : Value → WP) : Prop :=
 (bsplit s_a.isNone
 (R (.slice none 0 0) w)
 ((kAlloc w #[] Ty_uint8 fun f d =>
 (AppP Tryz.prog #[Ty_S_uint8, Ty_S_uint8] Ty_S_uint8 #[(.slice (some ⟨f, 0, none⟩) 0 0), (.slice s_a s_l s_c)] d fun a c b e =>
 R (.slice a c b) e))))
theorem F_slices_Clone_Sbyte_byte_ok {R : EP} (s_a : OA) (s_l s_c : Nat) (w : World) (h : F_slices_Clone_Sbyte_byte s_a s_l s_c w fun v w' => R (.returned v) w') : CP N_slices_Clone_Sbyte_byte #[(.slice s_a s_l s_c)] w R :=
 calls_of (k := TTk) (h := h_slices_Clone_Sbyte_byte) (f := 78) follows_ok Tryz.func78 (Eq.mpr (by kernel_rfl) h)

def h_slices_Clone_Sapi_Range_api_Range : H := (.seq .reg (.seq (.seq .reg (.cond (.seq .reg .leaf) .leaf)) (.seq .reg .leaf)))
def F_slices_Clone_Sapi_Range_api_Range (s_a : OA) (s_l s_c : Nat) (w : World) (R : Value → WP) : Prop :=
 (bsplit s_a.isNone
 (R (.slice none 0 0) w)
 ((kAlloc w #[] Ty_api_Range fun f d =>
 (AppP Tryz.prog #[Ty_S_api_Range, Ty_S_api_Range] Ty_S_api_Range #[(.slice (some ⟨f, 0, none⟩) 0 0), (.slice s_a s_l s_c)] d fun a c b e =>
 R (.slice a c b) e))))
theorem F_slices_Clone_Sapi_Range_api_Range_ok {R : EP} (s_a : OA) (s_l s_c : Nat) (w : World) (h : F_slices_Clone_Sapi_Range_api_Range s_a s_l s_c w fun v w' => R (.returned v) w') : CP N_slices_Clone_Sapi_Range_api_Range #[(.slice s_a s_l s_c)] w R :=
 calls_of (k := TTk) (h := h_slices_Clone_Sapi_Range_api_Range) (f := 79) follows_ok Tryz.func79 (Eq.mpr (by kernel_rfl) h)

def h_segment_head : H := (.seq .reg (.seq (.seq .reg (.cond (.seq .reg .leaf) .leaf)) (.seq .reg .leaf)))
def F_segment_head (part : Int) (w : World) (R : Value → WP) : Prop :=
 (CP N_segment_begins #[(Iv part)] w fun b a =>
 ∃ c : Bool, b = .returned (.bool c) ∧
 (bsplit c
 (R (Iv (2 : Int)) a)
 (R (Iv (4 : Int)) a)))
theorem F_segment_head_ok {R : EP} (part : Int) (w : World) (h : F_segment_head part w fun v w' => R (.returned v) w') : CP N_segment_head #[(Iv part)] w R :=
 calls_of (k := TTk) (h := h_segment_head) (f := 80) follows_ok Tryz.func80 (Eq.mpr (by kernel_rfl) h)

def h_segment_Valid : H := (.seq .reg (.seq (.cut [(39, .p .bool)] [5, 6, 7, 8, 9, 10, 11, 12, 13, 14, 15, 16, 17, 18, 19, 20, 21, 22, 23, 24, 25, 26, 27, 28, 29, 30, 31, 32, 33, 34, 35, 36, 37, 38, 39] (.draw .blk (.one 0 .pre (.one 1 .keep (.one 2 .stable (.one 3 .stable (.one 4 .stable (.one 5 .stable (.one 6 .stable (.one 7 .stable (.one 8 .stable (.one 9 .stable (.one 10 .stable (.one 11 .stable (.one 12 .stable (.one 13 .stable (.one 14 .stable (.one 15 .stable (.one 16 .stable (.one 17 .stable (.one 18 .stable (.one 19 .stable (.one 20 .stable (.one 21 .stable (.one 22 .stable (.one 23 .stable (.one 24 .stable (.one 25 .stable (.one 26 .stable (.one 27 .stable (.one 28 .stable (.one 29 .stable (.one 30 .stable (.one 31 .stable (.one 32 .stable (.one 33 .stable (.one 34 .stable .nil)))))))))))))))))))))))))))))))))))) (.cond (.seq .reg .leaf) .leaf)) (.cut [] [4, 40, 41, 42, 43, 44, 45, 46, 47, 48, 49, 50, 51, 52, 53, 54, 55, 56] (.seq (.draw .blk (.one 0 .pre (.one 1 .pre (.one 3 .stable (.one 4 .stable (.one 5 .stable (.one 2 .keep (.one 6 .stable (.one 7 .stable (.one 8 .stable (.one 9 .stable (.one 10 .stable (.one 11 .stable (.one 12 .stable (.one 13 .stable (.one 14 .stable (.one 15 .stable (.one 16 .stable .nil)))))))))))))))))) (.cond (.seq .reg .leaf) .leaf)) (.seq .reg .leaf))))
def F_segment_Valid (bits p_0 p_1 p_2 p_3 : Int) (p_4_a : OA) (p_4_l p_4_c : Nat) (w : World) (R : Value → WP) : Prop :=
 (kAlloc w #[(Iv p_0), (Iv p_1), (Iv p_2), (Iv p_3), (.slice p_4_a p_4_l p_4_c)] Ty_api_Piece fun a x =>
 (∃ h : Bool → WP,
 (∀ (_ : Env) (t : Bool) (j : World), h t j →
 (bsplit t
 (R (.bool false) j)
 ((∃ l : WP,
 (∀ (_ : Env)  (e : World), l e →
 (kLdS e ⟨a, 4, none⟩ fun _ u _ =>
 (bsplit (decide ((u : Int) ≥ (1 : Int)))
 ((kLdS e ⟨a, 4, none⟩ fun _ k _ =>
 (kLd e ⟨a, 3, none⟩ .i64 fun q =>
 (kW .i64 ((2054 : Int) - q) fun r =>
 (kLet (decide ((k : Int) ≤ r)) fun s =>
 R (.bool s) e)))))
 (R (.bool false) e)))) ∧
 (kDrew j fun d =>
 (∃ g : Nat → Prop,
 (kLd d ⟨a, 1, none⟩ .i64 fun ae =>
 (g a ∧
 (kLd d ⟨a, 3, none⟩ .i64 fun af =>
 (CP N_segment_begins #[(Iv ae)] d fun m f =>
 ∃ n : Bool, m = .returned (.bool n) ∧
 (KeepsB g d f ∧ (bsplit (!(n == (decide (af = (0 : Int)))))
 (R (.bool false) f)
 ((g a ∧
 (kLd d ⟨a, 3, none⟩ .i64 fun o =>
 (bsplit (decide (o < (0 : Int)))
 (R (.bool false) f)
 ((g a ∧
 (kLd d ⟨a, 3, none⟩ .i64 fun p =>
 (bsplit (decide (p > (2054 : Int)))
 (R (.bool false) f)
 (l f))))))))))))))))))))) ∧
 (kDrew x fun b =>
 (∃ i : Nat → Prop,
 (CP N_counter_Bits #[(Iv bits)] b fun v c =>
 ∃ ag : Bool, v = .returned (.bool ag) ∧
 (KeepsB i b c ∧ (bsplit (!ag)
 (h true c)
 ((i a ∧
 (kLd b ⟨a, 0, none⟩ .i64 fun ah =>
 (bsplit (decide (ah < (0 : Int)))
 (h true c)
 ((i a ∧
 (kLd b ⟨a, 0, none⟩ .i64 fun y =>
 (0 ≤ bits ∧ (kW .i64 ((1 : Int) * 2 ^ (min bits.toNat (IntKind.bits .i64))) fun z =>
 (bsplit (decide (y ≥ z))
 (h true c)
 ((i a ∧
 (kLd b ⟨a, 1, none⟩ .i64 fun aa =>
 (bsplit (decide (aa < (0 : Int)))
 (h true c)
 ((i a ∧
 (kLd b ⟨a, 1, none⟩ .i64 fun ab =>
 (bsplit (decide (ab > (3 : Int)))
 (h true c)
 ((i a ∧
 (kLd b ⟨a, 2, none⟩ .i64 fun ac =>
 (bsplit (decide (ac < (0 : Int)))
 (h true c)
 ((i a ∧
 (kLd b ⟨a, 2, none⟩ .i64 fun ad =>
 h (decide (ad > (1 : Int))) c))))))))))))))))))))))))))))))))
theorem F_segment_Valid_ok {R : EP} (bits p_0 p_1 p_2 p_3 : Int) (p_4_a : OA) (p_4_l p_4_c : Nat) (w : World) (h : F_segment_Valid bits p_0 p_1 p_2 p_3 p_4_a p_4_l p_4_c w fun v w' => R (.returned v) w') : CP N_segment_Valid #[(Iv bits), (.agg #[Iv p_0, Iv p_1, Iv p_2, Iv p_3, .slice p_4_a p_4_l p_4_c])] w R :=
 calls_of (k := TTk) (h := h_segment_Valid) (f := 81) follows_ok Tryz.func81 (Eq.mpr (by kernel_rfl) h)

def h_serial_Distance : H := (.seq .reg (.seq .reg .leaf))
def F_serial_Distance (n a b : Int) (w : World) (R : Value → WP) : Prop :=
 (kW .i64 (b - a) fun f =>
 (CP N_serial_Low #[(Iv n), (Iv f)] w fun c d =>
 ∃ e : Int, c = .returned (Iv e) ∧
 R (Iv e) d))
theorem F_serial_Distance_ok {R : EP} (n a b : Int) (w : World) (h : F_serial_Distance n a b w fun v w' => R (.returned v) w') : CP N_serial_Distance #[(Iv n), (Iv a), (Iv b)] w R :=
 calls_of (k := TTk) (h := h_serial_Distance) (f := 82) follows_ok Tryz.func82 (Eq.mpr (by kernel_rfl) h)

def h_receiver_piece_contradicts : H := (.seq .reg (.seq .reg (.seq (.block (.seq .reg (.cond (.seq (.draw .blk (.one 0 .pre (.one 1 .pre (.one 2 .pre (.one 3 .pre (.one 4 .pre (.one 5 .pre (.one 6 .pre (.one 7 .pre (.one 8 .pre (.one 9 .pre (.one 10 .pre (.one 12 .stable (.one 13 .stable (.one 11 .keep (.one 14 .stable (.one 15 .stable (.one 16 .stable .nil)))))))))))))))))) .leaf) (.seq .reg (.cond (.seq .reg .leaf) .leaf))))) (.seq .reg .leaf))))
def F_receiver_piece_contradicts (p_0 p_1 p_2 p_3 : Int) (p_4_a : OA) (p_4_l p_4_c : Nat) (p_5 : Int) (p_6 : Bool) (x_0 : Int) (x_1 : Bool) (x_2 : Int) (x_3_a : OA) (x_3_l x_3_c : Nat) (x_4_a : OA) (x_4_l x_4_c : Nat) (w : World) (R : Value → WP) : Prop :=
 (kAlloc w #[(Iv p_0), (Iv p_1), (Iv p_2), (Iv p_3), (.slice p_4_a p_4_l p_4_c), (Iv p_5), (.bool p_6)] Ty_receiver_piece fun e s =>
 (kAlloc s #[(Iv x_0), (.bool x_1), (Iv x_2), (.slice x_3_a x_3_l x_3_c), (.slice x_4_a x_4_l x_4_c)] Ty_api_Partial fun d b =>
 (kLd b ⟨d, 2, none⟩ .i64 fun ae =>
 (kLet (!decide (ae = (-1 : Int))) fun c =>
 (kLdB b ⟨e, 6, none⟩ fun t =>
 (bsplit t
 ((kDrew b fun a =>
 (∃ q : Nat → Prop,
 (bsplit c
 ((kLd a ⟨d, 2, none⟩ .i64 fun u =>
 (kLd a ⟨e, 5, none⟩ .i64 fun v =>
 (bsplit (!decide (u = v))
 (R (.bool true) a)
 ((kLdS a ⟨d, 4, none⟩ fun n p o =>
 (q e ∧
 (kLd a ⟨e, 5, none⟩ .i64 fun x =>
 (CP N_receiver_end #[(.slice n p o)] a fun r k =>
 ∃ ad : Int, r = .returned (Iv ad) ∧
 (KeepsB q a k ∧ (kLet (decide (ad > x)) fun y =>
 R (.bool y) k)))))))))))
 ((kLdS a ⟨d, 4, none⟩ fun f h g =>
 (q e ∧
 (kLd a ⟨e, 5, none⟩ .i64 fun z =>
 (CP N_receiver_end #[(.slice f h g)] a fun i l =>
 ∃ j : Int, i = .returned (Iv j) ∧
 (KeepsB q a l ∧ (kLet (decide (j > z)) fun aa =>
 R (.bool aa) l)))))))))))
 ((bsplit c
 ((kLd b ⟨e, 5, none⟩ .i64 fun ab =>
 (kLd b ⟨d, 2, none⟩ .i64 fun ac =>
 (kLet (decide (ab ≥ ac)) fun m =>
 R (.bool m) b))))
 (R (.bool false) b)))))))))
theorem F_receiver_piece_contradicts_ok {R : EP} (p_0 p_1 p_2 p_3 : Int) (p_4_a : OA) (p_4_l p_4_c : Nat) (p_5 : Int) (p_6 : Bool) (x_0 : Int) (x_1 : Bool) (x_2 : Int) (x_3_a : OA) (x_3_l x_3_c : Nat) (x_4_a : OA) (x_4_l x_4_c : Nat) (w : World) (h : F_receiver_piece_contradicts p_0 p_1 p_2 p_3 p_4_a p_4_l p_4_c p_5 p_6 x_0 x_1 x_2 x_3_a x_3_l x_3_c x_4_a x_4_l x_4_c w fun v w' => R (.returned v) w') : CP N_receiver_piece_contradicts #[(.agg #[Iv p_0, Iv p_1, Iv p_2, Iv p_3, .slice p_4_a p_4_l p_4_c, Iv p_5, .bool p_6]), (.agg #[Iv x_0, .bool x_1, Iv x_2, .slice x_3_a x_3_l x_3_c, .slice x_4_a x_4_l x_4_c])] w R :=
 calls_of (k := TTk) (h := h_receiver_piece_contradicts) (f := 83) follows_ok Tryz.func83 (Eq.mpr (by kernel_rfl) h)

def h_receiver_piece_known : H := (.seq .reg (.seq .reg (.seq .reg .leaf)))
def F_receiver_piece_known (p_0 p_1 p_2 p_3 : Int) (p_4_a : OA) (p_4_l p_4_c : Nat) (p_5 : Int) (p_6 : Bool) (x_0 : Int) (x_1 : Bool) (x_2 : Int) (x_3_a : OA) (x_3_l x_3_c : Nat) (x_4_a : OA) (x_4_l x_4_c : Nat) (w : World) (R : Value → WP) : Prop :=
 (kAlloc w #[(Iv p_0), (Iv p_1), (Iv p_2), (Iv p_3), (.slice p_4_a p_4_l p_4_c), (Iv p_5), (.bool p_6)] Ty_receiver_piece fun k h =>
 (kAlloc h #[(Iv x_0), (.bool x_1), (Iv x_2), (.slice x_3_a x_3_l x_3_c), (.slice x_4_a x_4_l x_4_c)] Ty_api_Partial fun b c =>
 (kLdS c ⟨b, 4, none⟩ fun d f e =>
 (CP N_slices_ContainsFunc_Sapi_Range_api_Range #[(.slice d f e), (.func (.func N_receiver_piece_known_1) #[] #[(.pointer (some ⟨k, 0, none⟩))])] c fun g a =>
 ∃ l : Bool, g = .returned (.bool l) ∧
 (bsplit l
 ((kLdB a ⟨k, 6, none⟩ fun m =>
 (bsplit (!m)
 (R (.bool true) a)
 ((kLd a ⟨b, 2, none⟩ .i64 fun i =>
 (kLet (!decide (i = (-1 : Int))) fun j =>
 R (.bool j) a))))))
 (R (.bool false) a))))))
theorem F_receiver_piece_known_ok {R : EP} (p_0 p_1 p_2 p_3 : Int) (p_4_a : OA) (p_4_l p_4_c : Nat) (p_5 : Int) (p_6 : Bool) (x_0 : Int) (x_1 : Bool) (x_2 : Int) (x_3_a : OA) (x_3_l x_3_c : Nat) (x_4_a : OA) (x_4_l x_4_c : Nat) (w : World) (h : F_receiver_piece_known p_0 p_1 p_2 p_3 p_4_a p_4_l p_4_c p_5 p_6 x_0 x_1 x_2 x_3_a x_3_l x_3_c x_4_a x_4_l x_4_c w fun v w' => R (.returned v) w') : CP N_receiver_piece_known #[(.agg #[Iv p_0, Iv p_1, Iv p_2, Iv p_3, .slice p_4_a p_4_l p_4_c, Iv p_5, .bool p_6]), (.agg #[Iv x_0, .bool x_1, Iv x_2, .slice x_3_a x_3_l x_3_c, .slice x_4_a x_4_l x_4_c])] w R :=
 calls_of (k := TTk) (h := h_receiver_piece_known) (f := 84) follows_ok Tryz.func84 (Eq.mpr (by kernel_rfl) h)

def h_serial_Low : H := (.seq .reg (.seq (.seq .reg (.cond (.seq .reg .leaf) .leaf)) (.seq .reg .leaf)))
def F_serial_Low (n x : Int) (w : World) (R : Value → WP) : Prop :=
 (CP N_serial_valid #[(Iv n)] w fun b a =>
 ∃ f : Bool, b = .returned (.bool f) ∧
 (bsplit (!f)
 (R (Iv (-1 : Int)) a)
 ((0 ≤ n ∧ (kW .i64 ((1 : Int) * 2 ^ (min n.toNat (IntKind.bits .i64))) fun c =>
 (kW .i64 (c - (1 : Int)) fun d =>
 (kLet (bAnd .i64 x d) fun e =>
 R (Iv e) a)))))))
theorem F_serial_Low_ok {R : EP} (n x : Int) (w : World) (h : F_serial_Low n x w fun v w' => R (.returned v) w') : CP N_serial_Low #[(Iv n), (Iv x)] w R :=
 calls_of (k := TTk) (h := h_serial_Low) (f := 87) follows_ok Tryz.func87 (Eq.mpr (by kernel_rfl) h)

def h_segment_Union : H := (.seq .reg (.cut [] [4, 5, 10, 11, 12, 13, 14, 15, 16, 17, 18] (.seq .reg (.cond (.seq .reg .leaf) .leaf)) (.seq .reg (.seq (.seq .reg (.block (.loop [(6, .p .slice), (7, .p .slice), (21, .p (.int .i64))] [6, 7, 9, 21, 22, 23, 24, 25, 26, 27, 28, 29, 30, 31, 32, 33, 34, 35, 36, 37, 38, 39, 40, 41, 42, 43, 44, 45, 46, 47, 48, 49, 50, 51, 52, 53, 54, 55, 56, 57, 58, 59, 60] (.seq .reg (.seq (.cond .leaf .leaf) (.seq (.block (.seq .reg (.seq .reg (.block (.seq .reg (.cond .reg (.seq .reg (.cond .reg (.draw .blk (.one 0 .pre (.one 1 .pre (.one 2 .pre (.one 3 .pre (.one 4 .pre (.one 5 .pre (.one 6 .pre (.one 7 .stable (.one 8 .stable (.one 9 .stable (.one 10 .pre (.one 11 .keep (.one 12 .stable (.one 13 .last .nil))))))))))))))))))))))) .reg)))))) (.seq .reg .leaf)))))
def F_segment_Union (l_a : OA) (l_l l_c : Nat) (r_0 r_1 r_2 : Int) (w : World) (R : Value → WP) : Prop :=
 (kAlloc w #[(Iv r_0), (Iv r_1), (Iv r_2)] Ty_api_Range fun ac bi =>
 (∃ bs : WP,
 (∀ (_ : Env)  (a7 : World), bs a7 →
 (∃ j : OA → Nat → Nat → OA → Nat → Nat → Int → Nat × (WP), (j none 0 0 none 0 0 (0 : Int)).2 a7 ∧
 (∀ (_ : Env) (a : OA) (c : Nat) (b : Nat) (d : OA) (f : Nat) (e : Nat) (ab : Int) (k : World), (j a c b d f e ab).2 k →
 (bsplit (decide (ab < (l_l : Int)))
 ((kIx l_a l_l ab fun bc =>
 (∃ l p t : Int, cellsAt k (bc.add (ab.toNat * 3)) 0 [(Iv l), (Iv p), (Iv t)] ∧
 (kAlloc k #[Iv (0 : Int), Iv (0 : Int), Iv (0 : Int)] Ty_api_Range fun h bk =>
 (sxStore bk ⟨h, 0, none⟩ 0 [(Iv l), (Iv p), (Iv t)] fun a8 =>
 (kLd a8 ⟨ac, 0, none⟩ .i64 fun bl =>
 (kSet a8 ⟨h, 0, none⟩ (Iv bl) fun i =>
 (kLd i ⟨h, 2, none⟩ .i64 fun bm =>
 (kLd i ⟨ac, 1, none⟩ .i64 fun bn =>
 (kLet (decide (bm < bn)) fun bo =>
 (bsplit bo
 ((∃ m q u : Int, cellsAt i ⟨h, 0, none⟩ 0 [(Iv m), (Iv q), (Iv u)] ∧
 (kAlloc i #[(Iv m), (Iv q), (Iv u)] Ty_api_Range fun bd ay =>
 (AppP Tryz.prog #[Ty_S_api_Range, Ty_S_api_Range] Ty_S_api_Range #[(.slice a c b), (.slice (some ⟨bd, 0, none⟩) 1 1)] ay fun ap ar aq az =>
 (kW .i64 (ab + (1 : Int)) fun a9 =>
 ((j ap ar aq d f e a9).2 az ∧ (j ap ar aq d f e a9).1 < (j a c b d f e ab).1))))))
 ((kLd i ⟨h, 1, none⟩ .i64 fun bp =>
 (kLd i ⟨ac, 2, none⟩ .i64 fun bq =>
 (kLet (decide (bp > bq)) fun br =>
 (bsplit br
 ((∃ n r v : Int, cellsAt i ⟨h, 0, none⟩ 0 [(Iv n), (Iv r), (Iv v)] ∧
 (kAlloc i #[(Iv n), (Iv r), (Iv v)] Ty_api_Range fun be a0 =>
 (AppP Tryz.prog #[Ty_S_api_Range, Ty_S_api_Range] Ty_S_api_Range #[(.slice d f e), (.slice (some ⟨be, 0, none⟩) 1 1)] a0 fun y aa z a1 =>
 (kW .i64 (ab + (1 : Int)) fun ba =>
 ((j a c b y aa z ba).2 a1 ∧ (j a c b y aa z ba).1 < (j a c b d f e ab).1))))))
 ((kDrew i fun g =>
 (∃ bt : Nat → Prop,
 (kLd g ⟨ac, 1, none⟩ .i64 fun ah =>
 (kLd g ⟨h, 1, none⟩ .i64 fun ai =>
 (kLd g ⟨ac, 2, none⟩ .i64 fun aj =>
 (bt h ∧
 (kLd g ⟨h, 2, none⟩ .i64 fun ak =>
 (kSet g ⟨ac, 1, none⟩ (Iv (if ai < ah then ai else ah)) fun ag =>
 (KeepsB bt g ag ∧ (kSet ag ⟨ac, 2, none⟩ (Iv (if ak > aj then ak else aj)) fun a2 =>
 (kW .i64 (ab + (1 : Int)) fun al =>
 ((j a c b d f e al).2 a2 ∧ (j a c b d f e al).1 < (j a c b d f e ab).1)))))))))))))))))))))))))))))
 ((∃ o s x : Int, cellsAt k ⟨ac, 0, none⟩ 0 [(Iv o), (Iv s), (Iv x)] ∧
 (kAlloc k #[(Iv o), (Iv s), (Iv x)] Ty_api_Range fun bf a3 =>
 (kAlloc a3 #[(.slice a c b), (.slice (some ⟨bf, 0, none⟩) 1 1), (.slice d f e)] Ty_S_api_Range fun bg a4 =>
 (CP N_slices_Concat_Sapi_Range_api_Range #[(.slice (some ⟨bg, 0, none⟩) 3 3)] a4 fun aw a5 =>
 ∃ ad : OA, ∃ af ae : Nat, aw = .returned (.slice ad af ae) ∧
 R (.tuple #[(.slice ad af ae), (Iv (0 : Int))]) a5))))))))) ∧
 (CP N_segment_Normal #[(.slice l_a l_l l_c)] bi fun bh au =>
 ∃ bu : Bool, bh = .returned (.bool bu) ∧
 (bsplit (!bu)
 (R (.tuple #[(.slice none 0 0), (Iv (4 : Int))]) au)
 ((∃ am an ao : Int, cellsAt au ⟨ac, 0, none⟩ 0 [(Iv am), (Iv an), (Iv ao)] ∧
 (kAlloc au #[(Iv am), (Iv an), (Iv ao)] Ty_api_Range fun bb bj =>
 (CP N_segment_Normal #[(.slice (some ⟨bb, 0, none⟩) 1 1)] bj fun av a6 =>
 ∃ ax : Bool, av = .returned (.bool ax) ∧
 (bsplit (!ax)
 (R (.tuple #[(.slice none 0 0), (Iv (4 : Int))]) a6)
 (bs a6))))))))))
theorem F_segment_Union_ok {R : EP} (l_a : OA) (l_l l_c : Nat) (r_0 r_1 r_2 : Int) (w : World) (h : F_segment_Union l_a l_l l_c r_0 r_1 r_2 w fun v w' => R (.returned v) w') : CP N_segment_Union #[(.slice l_a l_l l_c), (.agg #[Iv r_0, Iv r_1, Iv r_2])] w R :=
 calls_of (k := TTk) (h := h_segment_Union) (f := 88) follows_ok Tryz.func88 (Eq.mpr (by kernel_rfl) h)

def h_status_Valid : H := (.seq .reg (.cut [] [4, 10, 11, 12, 13, 14, 15, 16, 17, 18, 19, 20, 21, 22, 23, 24, 25, 26, 27, 28, 29, 30] (.seq (.draw .blk (.one 0 .pre (.one 1 .keep (.one 2 .stable (.one 3 .stable (.one 4 .stable (.one 5 .stable (.one 6 .stable (.one 7 .stable (.one 8 .stable (.one 9 .stable (.one 10 .stable (.one 11 .stable (.one 12 .stable (.one 13 .stable (.one 14 .stable (.one 15 .stable (.one 16 .stable (.one 17 .stable (.one 18 .stable (.one 19 .stable (.one 20 .stable .nil)))))))))))))))))))))) (.cond (.seq .reg .leaf) .leaf)) (.seq .reg (.seq (.seq .reg (.block (.loop [(5, .p (.int .i64)), (38, .p (.int .i64))] [4, 5, 6, 7, 8, 9, 38, 39, 40, 41, 42, 43, 44, 45, 46, 47, 48, 49, 50, 51, 52, 53, 54, 55, 56, 57, 58, 59, 60, 61, 62, 63, 64, 65, 66, 67, 68, 69, 70, 71, 72, 73, 74, 75, 76, 77, 78, 79, 80, 81, 82, 83, 84, 85, 86, 87, 88, 89, 90, 91, 92, 93, 94, 95, 96, 97, 98, 99, 100, 101, 102, 103, 104, 105, 106, 107, 108, 109, 110, 111, 112] (.seq .reg (.seq (.cond .leaf .leaf) (.seq (.block (.seq .reg (.seq .reg (.seq (.cut [(84, .p .bool)] [49, 50, 51, 52, 53, 54, 55, 56, 57, 58, 59, 60, 61, 62, 63, 64, 65, 66, 67, 68, 69, 70, 71, 72, 73, 74, 75, 76, 77, 78, 79, 80, 81, 82, 83, 84] (.draw .blk (.one 0 .pre (.one 1 .pre (.one 2 .pre (.one 3 .pre (.one 4 .pre (.one 5 .pre (.one 6 .pre (.one 7 .pre (.one 8 .pre (.one 9 .pre (.one 10 .pre (.one 11 .pre (.one 12 .pre (.one 13 .pre (.one 14 .pre (.one 15 .pre (.one 16 .pre (.one 17 .pre (.one 18 .pre (.one 19 .pre (.one 20 .pre (.one 21 .pre (.one 22 .pre (.one 23 .pre (.one 24 .pre (.one 25 .pre (.one 26 .pre (.one 27 .pre (.one 28 .keep (.one 29 .stable (.one 30 .stable (.one 31 .stable (.one 32 .keep (.one 33 .stable (.one 34 .stable (.one 35 .stable .nil))))))))))))))))))))))))))))))))))))) (.cond (.seq .reg .leaf) .leaf)) (.seq (.cut [(91, .p .bool)] [85, 86, 87, 88, 89, 90, 91] .reg (.cond (.seq .reg (.seq .reg (.cond (.seq .reg .leaf) .leaf))) .leaf)) .reg))))) .reg)))))) (.seq .reg .leaf)))))
def F_status_Valid (bits s_0 : Int) (s_1_a : OA) (s_1_l s_1_c : Nat) (w : World) (R : Value → WP) : Prop :=
 (kAlloc w #[(Iv s_0), (.slice s_1_a s_1_l s_1_c)] Ty_api_Status fun ae bn =>
 (∃ bx : WP,
 (∀ (_ : Env)  (ax : World), bx ax →
 (kW .i64 (bits - (1 : Int)) fun bh =>
 (0 ≤ bh ∧ (kW .i64 ((1 : Int) * 2 ^ (min bh.toNat (IntKind.bits .i64))) fun bs =>
 (kW .i64 (bs + (1 : Int)) fun bt =>
 (kLdS ax ⟨ae, 1, none⟩ fun az ad _ =>
 (∃ ag : Int → Int → Nat × (WP), (ag bt (0 : Int)).2 ax ∧
 (∀ (_ : Env) (a : Int) (c : Int) (af : World), (ag a c).2 af →
 (bsplit (decide (c < (ad : Int)))
 ((kIx az ad c fun bk =>
 (∃ ap aq ar : Int, cellsAt af (bk.add (c.toNat * 3)) 0 [(Iv ap), (Iv aq), (Iv ar)] ∧
 (kAlloc af #[Iv (0 : Int), Iv (0 : Int), Iv (0 : Int)] Ty_api_Range fun d bo =>
 (sxStore bo ⟨d, 0, none⟩ 0 [(Iv ap), (Iv aq), (Iv ar)] fun ay =>
 (kLd ay ⟨d, 0, none⟩ .i64 fun bu =>
 (kLd ay ⟨ae, 0, none⟩ .i64 fun bv =>
 (CP N_serial_Distance #[(Iv bits), (Iv bu), (Iv bv)] ay fun a2 bp =>
 ∃ e : Int, a2 = .returned (Iv e) ∧
 (∃ f : Bool → WP,
 (∀ (_ : Env) (ak : Bool) (i : World), f ak i →
 (bsplit ak
 (R (.bool false) i)
 ((∃ au : Bool → WP,
 (∀ (_ : Env) (al : Bool) (g : World), au al g →
 (bsplit al
 ((kLdS g ⟨ae, 1, none⟩ fun a0 a1 _ =>
 (kW .i64 (c - (1 : Int)) fun am =>
 (kIx a0 a1 am fun bl =>
 (∃ p u aa : Int, cellsAt g (bl.add (am.toNat * 3)) 0 [(Iv p), (Iv u), (Iv aa)] ∧
 (kAlloc g #[Iv (0 : Int), Iv (0 : Int), Iv (0 : Int)] Ty_api_Range fun aw bb =>
 (sxStore bb ⟨aw, 0, none⟩ 0 [(Iv p), (Iv u), (Iv aa)] fun ai =>
 (∃ q v ab : Int, cellsAt ai ⟨aw, 0, none⟩ 0 [(Iv q), (Iv v), (Iv ab)] ∧
 (CP N_status_Whole #[(.agg #[Iv q, Iv v, Iv ab])] ai fun a5 l =>
 ∃ a9 : Bool, a5 = .returned (.bool a9) ∧
 (bsplit a9
 (R (.bool false) l)
 ((∃ r x ac : Int, cellsAt l ⟨d, 0, none⟩ 0 [(Iv r), (Iv x), (Iv ac)] ∧
 (CP N_status_Whole #[(.agg #[Iv r, Iv x, Iv ac])] l fun a6 h =>
 ∃ ba : Bool, a6 = .returned (.bool ba) ∧
 (bsplit ba
 (R (.bool false) h)
 ((kLd h ⟨d, 1, none⟩ .i64 fun bf =>
 (kLd h ⟨aw, 2, none⟩ .i64 fun bg =>
 (bsplit (decide (bf ≤ bg))
 (R (.bool false) h)
 ((kW .i64 (c + (1 : Int)) fun an =>
 ((ag e an).2 h ∧ (ag e an).1 < (ag a c).1)))))))))))))))))))))
 ((kW .i64 (c + (1 : Int)) fun ao =>
 ((ag e ao).2 g ∧ (ag e ao).1 < (ag a c).1))))) ∧
 (bsplit (decide (e = a))
 (au (decide (c > (0 : Int))) i)
 (au false i)))))) ∧
 (kDrew bp fun b =>
 (∃ av : Nat → Prop,
 (kLd b ⟨d, 0, none⟩ .i64 fun bw =>
 (bsplit (decide (bw < (0 : Int)))
 (f true b)
 ((kLd b ⟨d, 0, none⟩ .i64 fun bc =>
 (0 ≤ bits ∧ (kW .i64 ((1 : Int) * 2 ^ (min bits.toNat (IntKind.bits .i64))) fun bd =>
 (bsplit (decide (bc ≥ bd))
 (f true b)
 ((bsplit (decide (e < (1 : Int)))
 (f true b)
 ((bsplit (decide (e > a))
 (f true b)
 ((kW .i64 (bits - (1 : Int)) fun aj =>
 (0 ≤ aj ∧ (kW .i64 ((1 : Int) * 2 ^ (min aj.toNat (IntKind.bits .i64))) fun be =>
 (bsplit (decide (e > be))
 (f true b)
 ((∃ n s y : Int, cellsAt b ⟨d, 0, none⟩ 0 [(Iv n), (Iv s), (Iv y)] ∧
 (CP N_status_Whole #[(.agg #[Iv n, Iv s, Iv y])] b fun a3 k =>
 ∃ a7 : Bool, a3 = .returned (.bool a7) ∧
 (KeepsB av b k ∧ (bsplit (!a7)
 ((av d ∧
 (∃ o t z : Int, cellsAt b ⟨d, 0, none⟩ 0 [(Iv o), (Iv t), (Iv z)] ∧
 (CP N_status_part #[(.agg #[Iv o, Iv t, Iv z])] k fun a4 ah =>
 ∃ a8 : Bool, a4 = .returned (.bool a8) ∧
 (KeepsB av b ah ∧ f (!a8) ah)))))
 (f false k)))))))))))))))))))))))))))))))))
 (R (.bool true) af)))))))))) ∧
 (kDrew bn fun m =>
 (∃ bj : Nat → Prop,
 (CP N_counter_Bits #[(Iv bits)] m fun bm j =>
 ∃ bz : Bool, bm = .returned (.bool bz) ∧
 (KeepsB bj m j ∧ (bsplit (!bz)
 (R (.bool false) j)
 ((bj ae ∧
 (kLd m ⟨ae, 0, none⟩ .i64 fun b0 =>
 (bsplit (decide (b0 < (0 : Int)))
 (R (.bool false) j)
 ((bj ae ∧
 (kLd m ⟨ae, 0, none⟩ .i64 fun bq =>
 (0 ≤ bits ∧ (kW .i64 ((1 : Int) * 2 ^ (min bits.toNat (IntKind.bits .i64))) fun br =>
 (bsplit (decide (bq ≥ br))
 (R (.bool false) j)
 ((bj ae ∧
 (kLdS m ⟨ae, 1, none⟩ fun _ bi _ =>
 (bsplit (decide ((bi : Int) > (64 : Int)))
 (R (.bool false) j)
 (bx j))))))))))))))))))))))
theorem F_status_Valid_ok {R : EP} (bits s_0 : Int) (s_1_a : OA) (s_1_l s_1_c : Nat) (w : World) (h : F_status_Valid bits s_0 s_1_a s_1_l s_1_c w fun v w' => R (.returned v) w') : CP N_status_Valid #[(Iv bits), (.agg #[Iv s_0, .slice s_1_a s_1_l s_1_c])] w R :=
 calls_of (k := TTk) (h := h_status_Valid) (f := 89) follows_ok Tryz.func89 (Eq.mpr (by kernel_rfl) h)

def h_status_size : H := (.seq .reg (.seq (.seq .reg (.cond (.seq .reg .leaf) .leaf)) (.seq .reg .leaf)))
def F_status_size (r_0 r_1 r_2 : Int) (w : World) (R : Value → WP) : Prop :=
 (kAlloc w #[(Iv r_0), (Iv r_1), (Iv r_2)] Ty_api_Range fun h d =>
 (∃ a b c : Int, cellsAt d ⟨h, 0, none⟩ 0 [(Iv a), (Iv b), (Iv c)] ∧
 (CP N_status_Whole #[(.agg #[Iv a, Iv b, Iv c])] d fun f e =>
 ∃ g : Bool, f = .returned (.bool g) ∧
 (bsplit g
 (R (Iv (2 : Int)) e)
 (R (Iv (6 : Int)) e)))))
theorem F_status_size_ok {R : EP} (r_0 r_1 r_2 : Int) (w : World) (h : F_status_size r_0 r_1 r_2 w fun v w' => R (.returned v) w') : CP N_status_size #[(.agg #[Iv r_0, Iv r_1, Iv r_2])] w R :=
 calls_of (k := TTk) (h := h_status_size) (f := 90) follows_ok Tryz.func90 (Eq.mpr (by kernel_rfl) h)

def h_status_Whole : H := (.seq .reg (.seq .reg .leaf))
def F_status_Whole (r_0 r_1 r_2 : Int) (w : World) (R : Value → WP) : Prop :=
 (kAlloc w #[(Iv r_0), (Iv r_1), (Iv r_2)] Ty_api_Range fun d a =>
 (kLd a ⟨d, 1, none⟩ .i64 fun e =>
 (bsplit (decide (e = (0 : Int)))
 ((kLd a ⟨d, 2, none⟩ .i64 fun b =>
 (kLet (decide (b = (0 : Int))) fun c =>
 R (.bool c) a)))
 (R (.bool false) a))))
theorem F_status_Whole_ok {R : EP} (r_0 r_1 r_2 : Int) (w : World) (h : F_status_Whole r_0 r_1 r_2 w fun v w' => R (.returned v) w') : CP N_status_Whole #[(.agg #[Iv r_0, Iv r_1, Iv r_2])] w R :=
 calls_of (k := TTk) (h := h_status_Whole) (f := 91) follows_ok Tryz.func91 (Eq.mpr (by kernel_rfl) h)

def h_ref19_Valid : H := (.seq .reg (.cut [] [4, 11, 12, 13, 14, 15, 16, 17, 18, 19, 20, 21, 22, 23, 24, 25, 26, 27, 28, 29, 30, 31, 32] (.seq .reg (.cond (.seq .reg .leaf) .leaf)) (.seq (.seq .reg (.block (.loop [(5, .p (.int .i64))] [4, 5, 6, 7, 8, 9, 10, 33, 34, 35, 36, 37, 38, 39, 40, 41, 42, 43, 44, 45, 46, 47, 48, 49, 50, 51, 52, 53, 54, 55, 56, 57, 58, 59, 60, 61, 62, 63, 64, 65, 66, 67, 68, 69, 70, 71, 72, 73, 74, 75, 76, 77, 78, 79, 80, 81, 82, 83, 84, 85, 86, 87, 88, 89, 90, 91, 92, 93, 94, 95, 96, 97, 98, 99, 100, 101, 102, 103, 104, 105, 106, 107, 108, 109, 110, 111, 112, 113, 114, 115, 116, 117, 118, 119, 120, 121, 122, 123, 124, 125, 126, 127, 128, 129, 130, 131, 132, 133, 134, 135, 136, 137] (.seq (.seq .reg (.cond .leaf .leaf)) (.seq (.block (.seq .reg (.seq .reg (.cut [] [4, 51, 52, 53, 54, 55, 56, 57, 58, 59, 60, 61, 62, 63, 64, 65, 66, 67, 68, 69, 70, 71, 72, 73] (.seq .reg (.cond (.seq .reg .leaf) .leaf)) (.cut [(8, .p .bool)] [8, 74, 75, 76, 77, 78, 79, 80, 81] .reg (.cut [] [4, 82, 83, 84, 85, 86, 87, 88, 89, 90, 91, 92, 93, 94, 95, 96, 97, 98, 99, 100] (.seq .reg (.cond (.seq .reg .leaf) .leaf)) (.seq (.seq .reg (.cond .leaf .leaf)) (.seq .reg (.seq .reg (.cut [(137, .p .bool)] [115, 116, 117, 118, 119, 120, 121, 122, 123, 124, 125, 126, 127, 128, 129, 130, 131, 132, 133, 134, 135, 136, 137] .reg (.cond (.seq .reg .leaf) .leaf))))))))))) .reg))))) (.seq .reg .leaf))))
def F_ref19_Valid (bits s_0 : Int) (s_1_a : OA) (s_1_l s_1_c : Nat) (w : World) (R : Value → WP) : Prop :=
 (kAlloc w #[(Iv s_0), (.slice s_1_a s_1_l s_1_c)] Ty_api_Status fun u bd =>
 (∃ bm : WP,
 (∀ (_ : Env)  (ar : World), bm ar →
 (∃ t : Int → Nat × (WP), (t (0 : Int)).2 ar ∧
 (∀ (_ : Env) (q : Int) (i : World), (t q).2 i →
 (kLdS i ⟨u, 1, none⟩ fun _ ak _ =>
 (bsplit (decide (q < (ak : Int)))
 ((kLdS i ⟨u, 1, none⟩ fun ai al _ =>
 (kIx ai al q fun ba =>
 (∃ ab ac ad : Int, cellsAt i (ba.add (q.toNat * 3)) 0 [(Iv ab), (Iv ac), (Iv ad)] ∧
 (kAlloc i #[Iv (0 : Int), Iv (0 : Int), Iv (0 : Int)] Ty_api_Range fun b be =>
 (sxStore be ⟨b, 0, none⟩ 0 [(Iv ab), (Iv ac), (Iv ad)] fun ah =>
 (kLd ah ⟨b, 0, none⟩ .i64 fun bh =>
 (kLd ah ⟨u, 0, none⟩ .i64 fun bi =>
 (CP N_ref02_Distance #[(Iv bits), (Iv bh), (Iv bi)] ah fun ao g =>
 ∃ j : Int, ao = .returned (Iv j) ∧
 (∃ an : WP,
 (∀ (_ : Env)  (m : World), an m →
 (∃ ae : Bool → WP,
 (∀ (_ : Env) (c : Bool) (d : World), ae c d →
 (∃ af : WP,
 (∀ (_ : Env)  (e : World), af e →
 (bsplit (decide (q = (0 : Int)))
 ((kW .i64 (q + (1 : Int)) fun x =>
 ((t x).2 e ∧ (t x).1 < (t q).1)))
 ((kLdS e ⟨u, 1, none⟩ fun aj am _ =>
 (kW .i64 (q - (1 : Int)) fun y =>
 (kIx aj am y fun bb =>
 (∃ n o p : Int, cellsAt e (bb.add (y.toNat * 3)) 0 [(Iv n), (Iv o), (Iv p)] ∧
 (kAlloc e #[Iv (0 : Int), Iv (0 : Int), Iv (0 : Int)] Ty_api_Range fun r aq =>
 (sxStore aq ⟨r, 0, none⟩ 0 [(Iv n), (Iv o), (Iv p)] fun k =>
 (kLd k ⟨r, 0, none⟩ .i64 fun a3 =>
 (kLd k ⟨u, 0, none⟩ .i64 fun a4 =>
 (CP N_ref02_Distance #[(Iv bits), (Iv a3), (Iv a4)] k fun ap a =>
 ∃ ag : Int, ap = .returned (Iv ag) ∧
 (∃ h : Bool → WP,
 (∀ (_ : Env) (z : Bool) (l : World), h z l →
 (bsplit z
 (R (.bool false) l)
 ((kW .i64 (q + (1 : Int)) fun aa =>
 ((t aa).2 l ∧ (t aa).1 < (t q).1))))) ∧
 (bsplit (decide (ag < j))
 (h true a)
 ((bsplit (decide (ag = j))
 ((bsplit c
 (h true a)
 ((kLd a ⟨r, 2, none⟩ .i64 fun a5 =>
 (bsplit (decide (a5 = (0 : Int)))
 (h true a)
 ((kLd a ⟨b, 1, none⟩ .i64 fun a6 =>
 (kLd a ⟨r, 2, none⟩ .i64 fun a7 =>
 h (decide (a6 ≤ a7)) a))))))))
 (h false a))))))))))))))))) ∧
 (bsplit (!c)
 ((kLd d ⟨b, 1, none⟩ .i64 fun ay =>
 (bsplit (decide (ay < (0 : Int)))
 (R (.bool false) d)
 ((kLd d ⟨b, 1, none⟩ .i64 fun az =>
 (kLd d ⟨b, 2, none⟩ .i64 fun a0 =>
 (bsplit (decide (az ≥ a0))
 (R (.bool false) d)
 ((kLd d ⟨b, 2, none⟩ .i64 fun a1 =>
 (bsplit (decide (a1 > (65535 : Int)))
 (R (.bool false) d)
 (af d)))))))))))
 (af d)))) ∧
 (kLd m ⟨b, 1, none⟩ .i64 fun aw =>
 (bsplit (decide (aw = (0 : Int)))
 ((kLd m ⟨b, 2, none⟩ .i64 fun ax =>
 (kLet (decide (ax = (0 : Int))) fun s =>
 ae s m)))
 (ae false m))))) ∧
 (kLd g ⟨b, 0, none⟩ .i64 fun bj =>
 (bsplit (decide (bj < (0 : Int)))
 (R (.bool false) g)
 ((kLd g ⟨b, 0, none⟩ .i64 fun bk =>
 (kW .u64 (bits) fun a8 =>
 (0 ≤ a8 ∧ (kW .i64 ((1 : Int) * 2 ^ (min a8.toNat (IntKind.bits .i64))) fun bl =>
 (bsplit (decide (bk ≥ bl))
 (R (.bool false) g)
 ((bsplit (decide (j < (1 : Int)))
 (R (.bool false) g)
 ((kW .i64 (bits - (1 : Int)) fun au =>
 (kW .u64 (au) fun v =>
 (0 ≤ v ∧ (kW .i64 ((1 : Int) * 2 ^ (min v.toNat (IntKind.bits .i64))) fun av =>
 (bsplit (decide (j > av))
 (R (.bool false) g)
 (an g)))))))))))))))))))))))))))
 (R (.bool true) i)))))) ∧
 (CP N_ref15_Bits #[(Iv bits)] bd fun bc f =>
 ∃ bn : Bool, bc = .returned (.bool bn) ∧
 (bsplit (!bn)
 (R (.bool false) f)
 ((kLd f ⟨u, 0, none⟩ .i64 fun bo =>
 (bsplit (decide (bo < (0 : Int)))
 (R (.bool false) f)
 ((kLd f ⟨u, 0, none⟩ .i64 fun bf =>
 (kW .u64 (bits) fun a2 =>
 (0 ≤ a2 ∧ (kW .i64 ((1 : Int) * 2 ^ (min a2.toNat (IntKind.bits .i64))) fun bg =>
 (bsplit (decide (bf ≥ bg))
 (R (.bool false) f)
 ((kLdS f ⟨u, 1, none⟩ fun _ a9 _ =>
 (bsplit (decide ((a9 : Int) > (64 : Int)))
 (R (.bool false) f)
 (bm f)))))))))))))))))
theorem F_ref19_Valid_ok {R : EP} (bits s_0 : Int) (s_1_a : OA) (s_1_l s_1_c : Nat) (w : World) (h : F_ref19_Valid bits s_0 s_1_a s_1_l s_1_c w fun v w' => R (.returned v) w') : CP N_ref19_Valid #[(Iv bits), (.agg #[Iv s_0, .slice s_1_a s_1_l s_1_c])] w R :=
 calls_of (k := TTk) (h := h_ref19_Valid) (f := 92) follows_ok Tryz.func92 (Eq.mpr (by kernel_rfl) h)

def h_ref19_size : H := (.seq .reg (.seq (.seq .reg (.cond (.seq .reg .leaf) .leaf)) (.seq .reg .leaf)))
def F_ref19_size (x_0 x_1 x_2 : Int) (w : World) (R : Value → WP) : Prop :=
 (kAlloc w #[(Iv x_0), (Iv x_1), (Iv x_2)] Ty_api_Range fun c a =>
 (kLd a ⟨c, 1, none⟩ .i64 fun d =>
 (bsplit (decide (d = (0 : Int)))
 ((kLd a ⟨c, 2, none⟩ .i64 fun b =>
 (bsplit (decide (b = (0 : Int)))
 (R (Iv (2 : Int)) a)
 (R (Iv (6 : Int)) a))))
 (R (Iv (6 : Int)) a))))
theorem F_ref19_size_ok {R : EP} (x_0 x_1 x_2 : Int) (w : World) (h : F_ref19_size x_0 x_1 x_2 w fun v w' => R (.returned v) w') : CP N_ref19_size #[(.agg #[Iv x_0, Iv x_1, Iv x_2])] w R :=
 calls_of (k := TTk) (h := h_ref19_size) (f := 93) follows_ok Tryz.func93 (Eq.mpr (by kernel_rfl) h)

def h_ref20_Place : H := (.seq .reg (.seq .reg .leaf))
def F_ref20_Place (bits first sn : Int) (w : World) (R : Value → WP) : Prop :=
 (CP N_ref02_Distance #[(Iv bits), (Iv first), (Iv sn)] w fun a b =>
 ∃ c : Int, a = .returned (Iv c) ∧
 R (Iv c) b)
theorem F_ref20_Place_ok {R : EP} (bits first sn : Int) (w : World) (h : F_ref20_Place bits first sn w fun v w' => R (.returned v) w') : CP N_ref20_Place #[(Iv bits), (Iv first), (Iv sn)] w R :=
 calls_of (k := TTk) (h := h_ref20_Place) (f := 94) follows_ok Tryz.func94 (Eq.mpr (by kernel_rfl) h)

def h_ref18_Normal : H := (.seq .reg (.seq (.seq .reg (.block (.loop [(3, .p (.int .i64))] [2, 3, 4, 5, 6, 7, 8, 9, 10, 11, 12, 13, 14, 15, 16, 17, 18, 19, 20, 21, 22, 23, 24, 25, 26, 27, 28, 29, 30, 31, 32, 33, 34, 35, 36, 37, 38, 39, 40, 41, 42, 43, 44, 45, 46] (.seq (.seq .reg (.cond .leaf .leaf)) (.seq (.block (.seq (.draw .no (.one 0 .stable (.one 1 .stable (.one 2 .stable (.one 3 .stable (.one 4 .stable (.one 5 .stable (.one 6 .stable (.one 7 .stable (.one 8 .stable (.one 9 .stable (.one 10 .stable (.one 11 .stable (.one 12 .stable (.one 13 .stable (.one 14 .stable (.one 15 .stable (.one 16 .stable (.one 17 .stable (.one 18 .stable (.one 19 .stable (.one 20 .stable (.one 21 .stable (.one 22 .stable (.one 23 .stable (.one 24 .stable (.one 25 .stable (.one 26 .stable (.one 27 .stable (.one 28 .stable (.one 29 .stable (.one 30 .stable (.one 31 .stable (.one 32 .stable (.one 33 .stable (.one 34 .stable (.one 35 .stable (.one 36 .stable .nil)))))))))))))))))))))))))))))))))))))) (.cond (.seq .reg .leaf) .leaf))) .reg))))) (.seq .reg .leaf)))
def F_ref18_Normal (l_a : OA) (l_l _ : Nat) (w : World) (R : Value → WP) : Prop :=
 (∃ c : Int → Nat × (WP), (c (0 : Int)).2 w ∧
 (∀ (_ : Env) (b : Int) (d : World), (c b).2 d →
 (bsplit (decide (b < (l_l : Int)))
 ((kDrew d fun a =>
 (kIx l_a l_l b fun p =>
 (kLd a ((p.add (b.toNat * 3)).add 1) .i64 fun q =>
 (bsplit (decide (q < (0 : Int)))
 (R (.bool false) a)
 ((kIx l_a l_l b fun h =>
 (kLd a ((h.add (b.toNat * 3)).add 1) .i64 fun l =>
 (kIx l_a l_l b fun i =>
 (kLd a ((i.add (b.toNat * 3)).add 2) .i64 fun m =>
 (bsplit (decide (l ≥ m))
 (R (.bool false) a)
 ((bsplit (decide (b > (0 : Int)))
 ((kIx l_a l_l b fun j =>
 (kLd a ((j.add (b.toNat * 3)).add 1) .i64 fun n =>
 (kW .i64 (b - (1 : Int)) fun e =>
 (kIx l_a l_l e fun k =>
 (kLd a ((k.add (e.toNat * 3)).add 2) .i64 fun o =>
 (bsplit (decide (n ≤ o))
 (R (.bool false) a)
 ((kW .i64 (b + (1 : Int)) fun f =>
 ((c f).2 a ∧ (c f).1 < (c b).1))))))))))
 ((kW .i64 (b + (1 : Int)) fun g =>
 ((c g).2 a ∧ (c g).1 < (c b).1))))))))))))))))
 (R (.bool true) d))))
theorem F_ref18_Normal_ok {R : EP} (l_a : OA) (l_l l_c : Nat) (w : World) (h : F_ref18_Normal l_a l_l l_c w fun v w' => R (.returned v) w') : CP N_ref18_Normal #[(.slice l_a l_l l_c)] w R :=
 calls_of (k := TTk) (h := h_ref18_Normal) (f := 95) follows_ok Tryz.func95 (Eq.mpr (by kernel_rfl) h)

def h_slices_IndexFunc_Sapi_Partial_api_Partial : H := (.seq .reg (.seq (.seq .reg (.block (.loop [(8, .p (.int .i64))] [4, 5, 8, 9, 10, 11, 12, 13, 14, 15, 16, 17, 18] (.seq .reg (.seq (.cond .leaf .leaf) (.seq (.block (.seq .reg (.seq .reg (.cond (.seq .reg .leaf) .leaf)))) .reg)))))) (.seq .reg .leaf)))
def F_slices_IndexFunc_Sapi_Partial_api_Partial (s_a : OA) (s_l _ f_g : Nat) (f_f : Array Value) (f_c : Array Value) (w : World) (R : Value → WP) : Prop :=
 (∃ l : Int → Nat × (WP), (l (0 : Int)).2 w ∧
 (∀ (_ : Env) (k : Int) (g : World), (l k).2 g →
 (bsplit (decide (k < (s_l : Int)))
 ((kIx s_a s_l k fun q =>
 (∃ h : Int, ∃ i : Bool, ∃ j : Int, ∃ a : OA, ∃ c b : Nat, ∃ d : OA, ∃ f e : Nat, cellsAt g (q.add (k.toNat * 5)) 0 [(Iv h), (.bool i), (Iv j), (.slice a c b), (.slice d f e)] ∧
 (okFn Tryz.prog f_g = true ∧ CP f_g (f_f ++ #[(.agg #[Iv h, .bool i, Iv j, .slice a c b, .slice d f e])] ++ f_c) g fun o m =>
 ∃ p : Bool, o = .returned (.bool p) ∧
 (bsplit p
 (R (Iv k) m)
 ((kW .i64 (k + (1 : Int)) fun n =>
 ((l n).2 m ∧ (l n).1 < (l k).1))))))))
 (R (Iv (-1 : Int)) g))))
theorem F_slices_IndexFunc_Sapi_Partial_api_Partial_ok {R : EP} (s_a : OA) (s_l s_c f_g : Nat) (f_f : Array Value) (f_c : Array Value) (w : World) (h : F_slices_IndexFunc_Sapi_Partial_api_Partial s_a s_l s_c f_g f_f f_c w fun v w' => R (.returned v) w') : CP N_slices_IndexFunc_Sapi_Partial_api_Partial #[(.slice s_a s_l s_c), (.func (.func f_g) f_f f_c)] w R :=
 calls_of (k := TTk) (h := h_slices_IndexFunc_Sapi_Partial_api_Partial) (f := 96) follows_ok Tryz.func96 (Eq.mpr (by kernel_rfl) h)

def h_receiver_side_missing_1 : H := (.seq .reg (.seq .reg .leaf))
def F_receiver_side_missing_1 (p_0 : Int) (p_1 : Bool) (p_2 : Int) (p_3_a : OA) (p_3_l p_3_c : Nat) (p_4_a : OA) (p_4_l p_4_c cap0_b cap0_o : Nat) (w : World) (R : Value → WP) : Prop :=
 (kAlloc w #[(Iv p_0), (.bool p_1), (Iv p_2), (.slice p_3_a p_3_l p_3_c), (.slice p_4_a p_4_l p_4_c)] Ty_api_Partial fun d a =>
 (kLd a ⟨d, 0, none⟩ .i64 fun e =>
 (kLd a ⟨cap0_b, cap0_o, none⟩ .i64 fun b =>
 (kLet (decide (e = b)) fun c =>
 R (.bool c) a))))
theorem F_receiver_side_missing_1_ok {R : EP} (p_0 : Int) (p_1 : Bool) (p_2 : Int) (p_3_a : OA) (p_3_l p_3_c : Nat) (p_4_a : OA) (p_4_l p_4_c cap0_b cap0_o : Nat) (w : World) (h : F_receiver_side_missing_1 p_0 p_1 p_2 p_3_a p_3_l p_3_c p_4_a p_4_l p_4_c cap0_b cap0_o w fun v w' => R (.returned v) w') : CP N_receiver_side_missing_1 #[(.agg #[Iv p_0, .bool p_1, Iv p_2, .slice p_3_a p_3_l p_3_c, .slice p_4_a p_4_l p_4_c]), (.pointer (some ⟨cap0_b, cap0_o, none⟩))] w R :=
 calls_of (k := TTk) (h := h_receiver_side_missing_1) (f := 97) follows_ok Tryz.func97 (Eq.mpr (by kernel_rfl) h)

def h_segment_Gaps : H := (.seq .reg (.seq (.seq .reg (.cond (.seq .reg .leaf) .leaf)) (.cut [] [6, 7, 8, 16, 17, 18, 19, 20, 21, 22, 23, 24, 25, 26, 27, 28, 29, 30, 31, 32, 33] (.seq .reg (.seq .reg (.cond (.seq .reg .leaf) .leaf))) (.seq .reg (.seq .reg (.seq (.seq .reg (.block (.loop [(9, .p .slice), (10, .p (.int .i64)), (42, .p (.int .i64))] [9, 10, 12, 42, 43, 44, 45, 46, 47, 48, 49, 50, 51, 52, 53, 54, 55, 56, 57, 58, 59, 60] (.seq .reg (.seq (.cond .leaf .leaf) (.seq (.block (.seq .reg (.seq (.seq .reg (.cond .reg .leaf)) .reg))) .reg)))))) (.seq .reg .leaf)))))))
def F_segment_Gaps (l_a : OA) (l_l l_c : Nat) (sn length : Int) (w : World) (R : Value → WP) : Prop :=
 (CP N_segment_Normal #[(.slice l_a l_l l_c)] w fun ah f =>
 ∃ aq : Bool, ah = .returned (.bool aq) ∧
 (bsplit (!aq)
 (R (.tuple #[(.slice none 0 0), (Iv (4 : Int))]) f)
 ((∃ ad : WP,
 (∀ (_ : Env)  (x : World), ad x →
 (CP N_slices_Clone_Sapi_Range_api_Range #[(.slice l_a l_l l_c)] x fun v ai =>
 ∃ n : OA, ∃ p o : Nat, v = .returned (.slice n p o) ∧
 (kAlloc ai #[(Iv (0 : Int)), (Iv length), (Iv length)] Ty_api_Range fun ae aj =>
 (AppP Tryz.prog #[Ty_S_api_Range, Ty_S_api_Range] Ty_S_api_Range #[(.slice n p o), (.slice (some ⟨ae, 0, none⟩) 1 1)] aj fun ac u _ ak =>
 (∃ m : OA → Nat → Nat → Int → Int → Nat × (WP), (m none 0 0 (0 : Int) (0 : Int)).2 ak ∧
 (∀ (_ : Env) (a : OA) (c : Nat) (b : Nat) (d : Int) (e : Int) (l : World), (m a c b d e).2 l →
 (bsplit (decide (e < (u : Int)))
 ((kIx ac u e fun af =>
 (∃ r s t : Int, cellsAt l (af.add (e.toNat * 3)) 0 [(Iv r), (Iv s), (Iv t)] ∧
 (kAlloc l #[Iv (0 : Int), Iv (0 : Int), Iv (0 : Int)] Ty_api_Range fun g al =>
 (sxStore al ⟨g, 0, none⟩ 0 [(Iv r), (Iv s), (Iv t)] fun h =>
 (kLd h ⟨g, 1, none⟩ .i64 fun ao =>
 (bsplit (decide (ao > d))
 ((kLd h ⟨g, 1, none⟩ .i64 fun ap =>
 (kAlloc h #[(Iv sn), (Iv d), (Iv ap)] Ty_api_Range fun ag am =>
 (AppP Tryz.prog #[Ty_S_api_Range, Ty_S_api_Range] Ty_S_api_Range #[(.slice a c b), (.slice (some ⟨ag, 0, none⟩) 1 1)] am fun i k j q =>
 (kLd q ⟨g, 2, none⟩ .i64 fun y =>
 (kW .i64 (e + (1 : Int)) fun z =>
 ((m i k j y z).2 q ∧ (m i k j y z).1 < (m a c b d e).1)))))))
 ((kLd h ⟨g, 2, none⟩ .i64 fun aa =>
 (kW .i64 (e + (1 : Int)) fun ab =>
 ((m a c b aa ab).2 h ∧ (m a c b aa ab).1 < (m a c b d e).1)))))))))))
 (R (.tuple #[(.slice a c b), (Iv (0 : Int))]) l)))))))) ∧
 (bsplit (decide (length < (0 : Int)))
 (R (.tuple #[(.slice none 0 0), (Iv (3 : Int))]) f)
 ((bsplit (decide ((l_l : Int) > (0 : Int)))
 ((kW .i64 ((l_l : Int) - (1 : Int)) fun ar =>
 (kIx l_a l_l ar fun au =>
 (kLd f ((au.add (ar.toNat * 3)).add 2) .i64 fun an =>
 (bsplit (decide (length < an))
 (R (.tuple #[(.slice none 0 0), (Iv (3 : Int))]) f)
 (ad f))))))
 (ad f))))))))
theorem F_segment_Gaps_ok {R : EP} (l_a : OA) (l_l l_c : Nat) (sn length : Int) (w : World) (h : F_segment_Gaps l_a l_l l_c sn length w fun v w' => R (.returned v) w') : CP N_segment_Gaps #[(.slice l_a l_l l_c), (Iv sn), (Iv length)] w R :=
 calls_of (k := TTk) (h := h_segment_Gaps) (f := 98) follows_ok Tryz.func98 (Eq.mpr (by kernel_rfl) h)

def h_receiver_partial : H := (.seq .reg (.seq (.seq .reg (.cond (.seq .reg .leaf) .leaf)) (.cut [] [2, 25, 26, 27, 28, 29, 30, 31, 32, 33, 34, 35, 36, 37, 38, 39, 40, 41, 42, 43, 44, 45] (.seq .reg (.cond (.seq .reg .leaf) .leaf)) (.seq .reg (.seq (.cut [(81, .p .bool)] [47, 48, 49, 50, 51, 52, 53, 54, 55, 56, 57, 58, 59, 60, 61, 62, 63, 64, 65, 66, 67, 68, 69, 70, 71, 72, 73, 74, 75, 76, 77, 78, 79, 80, 81] (.draw .blk (.one 0 .pre (.one 1 .pre (.one 2 .pre (.one 3 .pre (.one 4 .pre (.one 5 .pre (.one 6 .pre (.one 7 .keep (.one 8 .stable (.one 9 .stable (.one 10 .stable (.one 11 .stable (.one 12 .stable (.one 13 .stable (.one 14 .keep (.one 15 .stable (.one 16 .stable (.one 17 .stable (.one 18 .stable (.one 19 .stable (.one 20 .stable (.one 21 .stable (.one 22 .keep (.one 23 .stable (.one 24 .stable (.one 25 .stable (.one 26 .stable (.one 27 .stable (.one 28 .stable (.one 29 .stable (.one 30 .stable (.one 31 .stable (.one 32 .stable (.one 33 .keep (.one 34 .stable .nil)))))))))))))))))))))))))))))))))))) (.cond (.seq .reg .leaf) .leaf)) (.seq .reg (.seq (.seq .reg (.block (.loop [(95, .p (.int .i64))] [2, 7, 95, 96, 97, 98, 99, 100, 101, 102, 103, 104, 105, 106, 107] (.seq .reg (.seq (.cond .leaf .leaf) (.seq (.block (.seq .reg (.seq .reg (.cond (.seq .reg .leaf) .leaf)))) .reg)))))) (.seq .reg .leaf))))))))
def F_receiver_partial (p_0 : Int) (p_1 : Bool) (p_2 : Int) (p_3_a : OA) (p_3_l p_3_c : Nat) (p_4_a : OA) (p_4_l p_4_c : Nat) (w : World) (R : Value → WP) : Prop :=
 (kAlloc w #[(Iv p_0), (.bool p_1), (Iv p_2), (.slice p_3_a p_3_l p_3_c), (.slice p_4_a p_4_l p_4_c)] Ty_api_Partial fun c a =>
 (kLdB a ⟨c, 1, none⟩ fun bv =>
 (bsplit bv
 ((kLd a ⟨c, 2, none⟩ .i64 fun bn =>
 (bsplit (decide (bn = (0 : Int)))
 ((kLdS a ⟨c, 3, none⟩ fun _ bh _ =>
 (bsplit (decide ((bh : Int) = (0 : Int)))
 ((kLdS a ⟨c, 4, none⟩ fun _ ar _ =>
 (kLet (decide ((ar : Int) = (0 : Int))) fun bo =>
 R (.bool bo) a)))
 (R (.bool false) a))))
 (R (.bool false) a))))
 ((∃ bi : WP,
 (∀ (_ : Env)  (be : World), bi be →
 (∃ f : Bool → WP,
 (∀ (_ : Env) (bg : Bool) (p : World), f bg p →
 (bsplit bg
 (R (.bool false) p)
 ((kLdS p ⟨c, 4, none⟩ fun am a1 aq =>
 (kLd p ⟨c, 0, none⟩ .i64 fun bt =>
 (kLdS p ⟨c, 3, none⟩ fun _ z _ =>
 (CP N_segment_Gaps #[(.slice am a1 aq), (Iv bt), (Iv (z : Int))] p fun a6 bm =>
 ∃ aa : OA, ∃ r bc : Nat, ∃ bl : Int, a6 = .returned (.tuple #[(.slice aa r bc), (Iv bl)]) ∧
 (∃ a2 : Int → Nat × (WP), (a2 (0 : Int)).2 bm ∧
 (∀ (_ : Env) (q : Int) (g : World), (a2 q).2 g →
 (bsplit (decide (q < (r : Int)))
 ((kIx aa r q fun bj =>
 (∃ s t u : Int, cellsAt g (bj.add (q.toNat * 3)) 0 [(Iv s), (Iv t), (Iv u)] ∧
 (kAlloc g #[Iv (0 : Int), Iv (0 : Int), Iv (0 : Int)] Ty_api_Range fun ag bd =>
 (sxStore bd ⟨ag, 0, none⟩ 0 [(Iv s), (Iv t), (Iv u)] fun h =>
 (kLdS h ⟨c, 3, none⟩ fun y _ d =>
 (kLd h ⟨ag, 1, none⟩ .i64 fun e =>
 (kLd h ⟨ag, 2, none⟩ .i64 fun i =>
 ((0 ≤ i ∧ i ≤ ((d : Nat) : Int)) ∧ ((0 ≤ e ∧ e ≤ ((i.toNat : Nat) : Int)) ∧ (CP N_slices_ContainsFunc_Sbyte_byte #[(.slice (slAddr d (e.toNat) 1 y) (i.toNat - e.toNat) (d - e.toNat)), (.func (.func N_receiver_partial_2) #[] #[])] h fun a7 ab =>
 ∃ bb : Bool, a7 = .returned (.bool bb) ∧
 (bsplit bb
 (R (.bool false) ab)
 ((kW .i64 (q + (1 : Int)) fun ac =>
 ((a2 ac).2 ab ∧ (a2 ac).1 < (a2 q).1)))))))))))))))
 (R (.bool true) g))))))))))) ∧
 (kDrew be fun b =>
 (∃ v : Nat → Prop,
 (kLdS b ⟨c, 4, none⟩ fun _ av _ =>
 (bsplit (decide ((av : Int) = (0 : Int)))
 (f true b)
 ((kLdS b ⟨c, 4, none⟩ fun aj aw an =>
 (CP N_segment_Normal #[(.slice aj aw an)] b fun bk ah =>
 ∃ bu : Bool, bk = .returned (.bool bu) ∧
 (KeepsB v b ah ∧ (bsplit (!bu)
 (f true ah)
 ((v c ∧
 (kLdS b ⟨c, 4, none⟩ fun ak ax ao =>
 (CP N_slices_ContainsFunc_Sapi_Range_api_Range #[(.slice ak ax ao), (.func (.func N_receiver_partial_1) #[] #[(.pointer (some ⟨c, 0, none⟩))])] ah fun a3 ai =>
 ∃ a8 : Bool, a3 = .returned (.bool a8) ∧
 (KeepsB v b ai ∧ (bsplit a8
 (f true ai)
 ((v c ∧
 (kLdS b ⟨c, 3, none⟩ fun _ ay _ =>
 (v c ∧
 (kLdS b ⟨c, 4, none⟩ fun al az ap =>
 (CP N_receiver_end #[(.slice al az ap)] ai fun a4 x =>
 ∃ a9 : Int, a4 = .returned (Iv a9) ∧
 (KeepsB v b x ∧ (bsplit (!decide ((ay : Int) = a9))
 (f true x)
 ((v c ∧
 (kLdS b ⟨c, 3, none⟩ fun _ a0 _ =>
 (bsplit (decide ((a0 : Int) > (2054 : Int)))
 (f true x)
 ((v c ∧
 (∃ ad : Int, ∃ ae : Bool, ∃ af : Int, ∃ j : OA, ∃ l k : Nat, ∃ m : OA, ∃ o n : Nat, cellsAt b ⟨c, 0, none⟩ 0 [(Iv ad), (.bool ae), (Iv af), (.slice j l k), (.slice m o n)] ∧
 (CP N_receiver_complete #[(.agg #[Iv ad, .bool ae, Iv af, .slice j l k, .slice m o n])] x fun a5 bf =>
 ∃ ba : Bool, a5 = .returned (.bool ba) ∧
 (KeepsB v b bf ∧ f ba bf)))))))))))))))))))))))))))))))))) ∧
 (kLd a ⟨c, 2, none⟩ .i64 fun bp =>
 (bsplit (!decide (bp = (-1 : Int)))
 ((kLd a ⟨c, 2, none⟩ .i64 fun bq =>
 (bsplit (decide (bq < (1 : Int)))
 (R (.bool false) a)
 ((kLd a ⟨c, 2, none⟩ .i64 fun br =>
 (bsplit (decide (br > (2054 : Int)))
 (R (.bool false) a)
 ((kLdS a ⟨c, 3, none⟩ fun _ au _ =>
 (kLd a ⟨c, 2, none⟩ .i64 fun bs =>
 (bsplit (decide ((au : Int) > bs))
 (R (.bool false) a)
 (bi a)))))))))))
 (bi a))))))))
theorem F_receiver_partial_ok {R : EP} (p_0 : Int) (p_1 : Bool) (p_2 : Int) (p_3_a : OA) (p_3_l p_3_c : Nat) (p_4_a : OA) (p_4_l p_4_c : Nat) (w : World) (h : F_receiver_partial p_0 p_1 p_2 p_3_a p_3_l p_3_c p_4_a p_4_l p_4_c w fun v w' => R (.returned v) w') : CP N_receiver_partial #[(.agg #[Iv p_0, .bool p_1, Iv p_2, .slice p_3_a p_3_l p_3_c, .slice p_4_a p_4_l p_4_c])] w R :=
 calls_of (k := TTk) (h := h_receiver_partial) (f := 99) follows_ok Tryz.func99 (Eq.mpr (by kernel_rfl) h)

def h_ref21_contradicts : H := (.seq .reg (.seq .reg (.seq (.seq .reg (.cond (.seq .reg .leaf) .leaf)) (.seq .reg .leaf))))
def F_ref21_contradicts (x_0 : Int) (x_1 : Bool) (x_2 : Int) (x_3_a : OA) (x_3_l x_3_c : Nat) (x_4_a : OA) (x_4_l x_4_c : Nat) (p_0 p_1 p_2 p_3 : Int) (p_4_a : OA) (p_4_l p_4_c : Nat) (w : World) (R : Value → WP) : Prop :=
 (kAlloc w #[(Iv x_0), (.bool x_1), (Iv x_2), (.slice x_3_a x_3_l x_3_c), (.slice x_4_a x_4_l x_4_c)] Ty_api_Partial fun n q =>
 (kAlloc q #[(Iv p_0), (Iv p_1), (Iv p_2), (Iv p_3), (.slice p_4_a p_4_l p_4_c)] Ty_api_Piece fun k h =>
 (kLd h ⟨k, 3, none⟩ .i64 fun aa =>
 (kLdS h ⟨k, 4, none⟩ fun _ o _ =>
 (kW .i64 (aa + (o : Int)) fun i =>
 (∃ e f g j : Int, ∃ b : OA, ∃ d c : Nat, cellsAt h ⟨k, 0, none⟩ 0 [(Iv e), (Iv f), (Iv g), (Iv j), (.slice b d c)] ∧
 (CP N_ref21_ends #[(.agg #[Iv e, Iv f, Iv g, Iv j, .slice b d c])] h fun p a =>
 ∃ z : Bool, p = .returned (.bool z) ∧
 (bsplit z
 ((kLd a ⟨n, 2, none⟩ .i64 fun r =>
 (bsplit (!decide (r = (-1 : Int)))
 ((kLd a ⟨n, 2, none⟩ .i64 fun s =>
 (bsplit (!decide (s = i))
 (R (.bool true) a)
 ((kLdS a ⟨n, 3, none⟩ fun _ l _ =>
 (kLet (decide ((l : Int) > i)) fun t =>
 R (.bool t) a))))))
 ((kLdS a ⟨n, 3, none⟩ fun _ m _ =>
 (kLet (decide ((m : Int) > i)) fun u =>
 R (.bool u) a))))))
 ((kLd a ⟨n, 2, none⟩ .i64 fun v =>
 (bsplit (!decide (v = (-1 : Int)))
 ((kLd a ⟨n, 2, none⟩ .i64 fun x =>
 (kLet (decide (i ≥ x)) fun y =>
 R (.bool y) a)))
 (R (.bool false) a))))))))))))
theorem F_ref21_contradicts_ok {R : EP} (x_0 : Int) (x_1 : Bool) (x_2 : Int) (x_3_a : OA) (x_3_l x_3_c : Nat) (x_4_a : OA) (x_4_l x_4_c : Nat) (p_0 p_1 p_2 p_3 : Int) (p_4_a : OA) (p_4_l p_4_c : Nat) (w : World) (h : F_ref21_contradicts x_0 x_1 x_2 x_3_a x_3_l x_3_c x_4_a x_4_l x_4_c p_0 p_1 p_2 p_3 p_4_a p_4_l p_4_c w fun v w' => R (.returned v) w') : CP N_ref21_contradicts #[(.agg #[Iv x_0, .bool x_1, Iv x_2, .slice x_3_a x_3_l x_3_c, .slice x_4_a x_4_l x_4_c]), (.agg #[Iv p_0, Iv p_1, Iv p_2, Iv p_3, .slice p_4_a p_4_l p_4_c])] w R :=
 calls_of (k := TTk) (h := h_ref21_contradicts) (f := 100) follows_ok Tryz.func100 (Eq.mpr (by kernel_rfl) h)

def h_ref21_has : H := (.seq .reg (.seq (.seq .reg (.block (.loop [(5, .p (.int .i64))] [4, 5, 6, 7, 8, 9, 10, 11, 12, 13, 14, 15, 16, 17, 18, 19, 20, 21, 22, 23, 24, 25, 26, 27, 28, 29, 30, 31, 32, 33, 34, 35, 36, 37, 38, 39, 40, 41, 42, 43, 44] (.seq (.seq .reg (.cond .leaf .leaf)) (.seq (.block (.seq (.draw .no (.one 0 .stable (.one 1 .stable (.one 2 .stable (.one 3 .stable (.one 4 .stable (.one 5 .stable (.one 6 .stable (.one 7 .stable (.one 8 .stable (.one 9 .stable (.one 10 .stable (.one 11 .stable (.one 12 .stable (.one 13 .stable (.one 14 .stable (.one 15 .stable (.one 16 .stable (.one 17 .stable (.one 18 .stable (.one 19 .stable (.one 20 .stable (.one 21 .stable (.one 22 .stable (.one 23 .stable .nil))))))))))))))))))))))))) (.cond (.seq .reg .leaf) .leaf))) .reg))))) (.seq .reg .leaf)))
def F_ref21_has (x_0 : Int) (x_1 : Bool) (x_2 : Int) (x_3_a : OA) (x_3_l x_3_c : Nat) (x_4_a : OA) (x_4_l x_4_c : Nat) (p_0 p_1 p_2 p_3 : Int) (p_4_a : OA) (p_4_l p_4_c : Nat) (w : World) (R : Value → WP) : Prop :=
 (kAlloc w #[(Iv x_0), (.bool x_1), (Iv x_2), (.slice x_3_a x_3_l x_3_c), (.slice x_4_a x_4_l x_4_c)] Ty_api_Partial fun u z =>
 (kAlloc z #[(Iv p_0), (Iv p_1), (Iv p_2), (Iv p_3), (.slice p_4_a p_4_l p_4_c)] Ty_api_Piece fun i aa =>
 (∃ k : Int → Nat × (WP), (k (0 : Int)).2 aa ∧
 (∀ (_ : Env) (h : Int) (j : World), (k h).2 j →
 (kLdS j ⟨u, 4, none⟩ fun _ t _ =>
 (bsplit (decide (h < (t : Int)))
 ((kDrew j fun a =>
 (kLdS a ⟨u, 4, none⟩ fun m o _ =>
 (kIx m o h fun v =>
 (kLd a ((v.add (h.toNat * 3)).add 1) .i64 fun ai =>
 (kLd a ⟨i, 3, none⟩ .i64 fun ac =>
 (bsplit (decide (ai ≤ ac))
 ((kLdS a ⟨u, 4, none⟩ fun n p _ =>
 (kIx n p h fun x =>
 (kLd a ((x.add (h.toNat * 3)).add 2) .i64 fun ad =>
 (kLd a ⟨i, 3, none⟩ .i64 fun ae =>
 (kLdS a ⟨i, 4, none⟩ fun _ q _ =>
 (kW .i64 (ae + (q : Int)) fun af =>
 (bsplit (decide (ad ≥ af))
 ((kLd a ⟨u, 2, none⟩ .i64 fun ag =>
 (bsplit (!decide (ag = (-1 : Int)))
 (R (.bool true) a)
 ((∃ e f g l : Int, ∃ b : OA, ∃ d c : Nat, cellsAt a ⟨i, 0, none⟩ 0 [(Iv e), (Iv f), (Iv g), (Iv l), (.slice b d c)] ∧
 (CP N_ref21_ends #[(.agg #[Iv e, Iv f, Iv g, Iv l, .slice b d c])] a fun y ab =>
 ∃ ah : Bool, y = .returned (.bool ah) ∧
 R (.bool (!ah)) ab))))))
 ((kW .i64 (h + (1 : Int)) fun r =>
 ((k r).2 a ∧ (k r).1 < (k h).1)))))))))))
 ((kW .i64 (h + (1 : Int)) fun s =>
 ((k s).2 a ∧ (k s).1 < (k h).1))))))))))
 (R (.bool false) j)))))))
theorem F_ref21_has_ok {R : EP} (x_0 : Int) (x_1 : Bool) (x_2 : Int) (x_3_a : OA) (x_3_l x_3_c : Nat) (x_4_a : OA) (x_4_l x_4_c : Nat) (p_0 p_1 p_2 p_3 : Int) (p_4_a : OA) (p_4_l p_4_c : Nat) (w : World) (h : F_ref21_has x_0 x_1 x_2 x_3_a x_3_l x_3_c x_4_a x_4_l x_4_c p_0 p_1 p_2 p_3 p_4_a p_4_l p_4_c w fun v w' => R (.returned v) w') : CP N_ref21_has #[(.agg #[Iv x_0, .bool x_1, Iv x_2, .slice x_3_a x_3_l x_3_c, .slice x_4_a x_4_l x_4_c]), (.agg #[Iv p_0, Iv p_1, Iv p_2, Iv p_3, .slice p_4_a p_4_l p_4_c])] w R :=
 calls_of (k := TTk) (h := h_ref21_has) (f := 101) follows_ok Tryz.func101 (Eq.mpr (by kernel_rfl) h)

def h_ref21_merge : H := (.seq .reg (.seq .reg (.seq (.block (.loopG [] [12, 13, 14, 15, 16, 17, 18, 19, 20, 21] (.seq (.seq .reg (.cond .leaf .leaf)) (.block .reg)))) (.seq (.draw .no (.one 0 .pre (.one 1 .pre (.one 2 .pre (.one 3 .pre (.one 4 .pre (.one 5 .pre (.one 6 .pre (.one 7 .last .nil))))))))) (.seq .reg (.seq (.seq .reg (.cond .reg .leaf)) (.seq .reg .leaf)))))))
def F_ref21_merge (x_0 : Int) (x_1 : Bool) (x_2 : Int) (x_3_a : OA) (x_3_l x_3_c : Nat) (x_4_a : OA) (x_4_l x_4_c : Nat) (p_0 p_1 p_2 p_3 : Int) (p_4_a : OA) (p_4_l p_4_c : Nat) (w : World) (R : Value → WP) : Prop :=
 (kAlloc w #[(Iv x_0), (.bool x_1), (Iv x_2), (.slice x_3_a x_3_l x_3_c), (.slice x_4_a x_4_l x_4_c)] Ty_api_Partial fun aw bz =>
 (kAlloc bz #[(Iv p_0), (Iv p_1), (Iv p_2), (Iv p_3), (.slice p_4_a p_4_l p_4_c)] Ty_api_Piece fun v b0 =>
 (kAlloc b0 #[Iv (0 : Int), .bool false, Iv (0 : Int), .slice none 0 0, .slice none 0 0] Ty_api_Partial fun ax bb =>
 (kLd bb ⟨v, 3, none⟩ .i64 fun b8 =>
 (kLdS bb ⟨v, 4, none⟩ fun _ bu _ =>
 (kW .i64 (b8 + (bu : Int)) fun bc =>
 (∃ bv : Nat → WP, (∃ m' : Nat, bv m' bb) ∧
 (∀ (_ : Env)  (b6 : Nat) (ah : World), bv b6 ah →
 (kLdS ah ⟨aw, 3, none⟩ fun _ bm _ =>
 (bsplit (decide ((bm : Int) < bc))
 ((kLdS ah ⟨aw, 3, none⟩ fun bd bn bi =>
 (kAlloc ah #[(.int .u8 (0 : Int))] Ty_uint8 fun bw b1 =>
 (AppP Tryz.prog #[Ty_S_uint8, Ty_S_uint8] Ty_S_uint8 #[(.slice bd bn bi), (.slice (some ⟨bw, 0, none⟩) 1 1)] b1 fun be bo bj b2 =>
 (kSet b2 ⟨aw, 3, none⟩ (.slice be bo bj) fun b3 =>
 (∃ m' : Nat, m' < b6 ∧ bv m' b3))))))
 ((kDrew ah fun ay =>
 (kLdS ay ⟨aw, 3, none⟩ fun bf av au =>
 (kLd ay ⟨v, 3, none⟩ .i64 fun ai =>
 ((0 ≤ ai ∧ ai ≤ ((av : Nat) : Int)) ∧ (kLdS ay ⟨v, 4, none⟩ fun bg bp bk =>
 (CopyP Tryz.prog #[Ty_S_uint8, Ty_S_uint8] Ty_int #[(.slice (slAddr au (ai.toNat) 1 bf) (av - ai.toNat) (au - ai.toNat)), (.slice bg bp bk)] ay fun _ az =>
 (kLdS az ⟨aw, 4, none⟩ fun bh bq bl =>
 (kLd az ⟨v, 0, none⟩ .i64 fun b4 =>
 (kLd az ⟨v, 3, none⟩ .i64 fun b5 =>
 (CP N_ref18_Union #[(.slice bh bq bl), (.agg #[Iv b4, Iv b5, Iv bc])] az fun bx bt =>
 ∃ a3 : OA, ∃ a5 a4 : Nat, ∃ b7 : Int, bx = .returned (.tuple #[(.slice a3 a5 a4), (Iv b7)]) ∧
 (kSet bt ⟨aw, 4, none⟩ (.slice a3 a5 a4) fun a6 =>
 (∃ aj am ap ba : Int, ∃ m : OA, ∃ s p : Nat, cellsAt a6 ⟨v, 0, none⟩ 0 [(Iv aj), (Iv am), (Iv ap), (Iv ba), (.slice m s p)] ∧
 (CP N_ref21_ends #[(.agg #[Iv aj, Iv am, Iv ap, Iv ba, .slice m s p])] a6 fun br ag =>
 ∃ bs : Bool, br = .returned (.bool bs) ∧
 (bsplit bs
 ((kSet ag ⟨aw, 2, none⟩ (Iv bc) fun a7 =>
 (∃ ak : Int, ∃ an : Bool, ∃ aq : Int, ∃ g : OA, ∃ k i : Nat, ∃ n : OA, ∃ t q : Nat, cellsAt a7 ⟨aw, 0, none⟩ 0 [(Iv ak), (.bool an), (Iv aq), (.slice g k i), (.slice n t q)] ∧
 (sxStore a7 ⟨ax, 0, none⟩ 0 [(Iv ak), (.bool an), (Iv aq), (.slice g k i), (.slice n t q)] fun a8 =>
 (∃ a0 : Int, ∃ a1 : Bool, ∃ a2 : Int, ∃ x : OA, ∃ z y : Nat, ∃ aa : OA, ∃ ac ab : Nat, cellsAt a8 ⟨ax, 0, none⟩ 0 [(Iv a0), (.bool a1), (Iv a2), (.slice x z y), (.slice aa ac ab)] ∧
 R (.agg #[Iv a0, .bool a1, Iv a2, .slice x z y, .slice aa ac ab]) a8)))))
 ((∃ al : Int, ∃ ao : Bool, ∃ ar : Int, ∃ h : OA, ∃ l j : Nat, ∃ o : OA, ∃ u r : Nat, cellsAt ag ⟨aw, 0, none⟩ 0 [(Iv al), (.bool ao), (Iv ar), (.slice h l j), (.slice o u r)] ∧
 (sxStore ag ⟨ax, 0, none⟩ 0 [(Iv al), (.bool ao), (Iv ar), (.slice h l j), (.slice o u r)] fun a9 =>
 (∃ ad : Int, ∃ ae : Bool, ∃ af : Int, ∃ a : OA, ∃ c b : Nat, ∃ d : OA, ∃ f e : Nat, cellsAt a9 ⟨ax, 0, none⟩ 0 [(Iv ad), (.bool ae), (Iv af), (.slice a c b), (.slice d f e)] ∧
 R (.agg #[Iv ad, .bool ae, Iv af, .slice a c b, .slice d f e]) a9)))))))))))))))))))))))))))))
theorem F_ref21_merge_ok {R : EP} (x_0 : Int) (x_1 : Bool) (x_2 : Int) (x_3_a : OA) (x_3_l x_3_c : Nat) (x_4_a : OA) (x_4_l x_4_c : Nat) (p_0 p_1 p_2 p_3 : Int) (p_4_a : OA) (p_4_l p_4_c : Nat) (w : World) (h : F_ref21_merge x_0 x_1 x_2 x_3_a x_3_l x_3_c x_4_a x_4_l x_4_c p_0 p_1 p_2 p_3 p_4_a p_4_l p_4_c w fun v w' => R (.returned v) w') : CP N_ref21_merge #[(.agg #[Iv x_0, .bool x_1, Iv x_2, .slice x_3_a x_3_l x_3_c, .slice x_4_a x_4_l x_4_c]), (.agg #[Iv p_0, Iv p_1, Iv p_2, Iv p_3, .slice p_4_a p_4_l p_4_c])] w R :=
 calls_of (k := TTk) (h := h_ref21_merge) (f := 102) follows_ok Tryz.func102 (Eq.mpr (by kernel_rfl) h)

def h_ref21_whole : H := (.seq .reg (.seq (.draw .no (.one 0 .stable (.one 1 .stable (.one 2 .stable (.one 3 .stable (.one 4 .stable (.one 5 .stable (.one 6 .stable (.one 7 .stable (.one 8 .stable (.one 9 .stable (.one 10 .stable (.one 11 .stable (.one 12 .stable (.one 13 .stable (.one 14 .stable (.one 15 .stable (.one 16 .stable (.one 17 .stable (.one 18 .stable (.one 19 .stable (.one 20 .stable (.one 21 .stable (.one 22 .stable (.one 23 .stable (.one 24 .stable (.one 25 .stable (.one 26 .stable (.one 27 .stable .nil))))))))))))))))))))))))))))) .leaf))
def F_ref21_whole (p_0 : Int) (p_1 : Bool) (p_2 : Int) (p_3_a : OA) (p_3_l p_3_c : Nat) (p_4_a : OA) (p_4_l p_4_c : Nat) (w : World) (R : Value → WP) : Prop :=
 (kAlloc w #[(Iv p_0), (.bool p_1), (Iv p_2), (.slice p_3_a p_3_l p_3_c), (.slice p_4_a p_4_l p_4_c)] Ty_api_Partial fun f j =>
 (kDrew j fun a =>
 (kLd a ⟨f, 2, none⟩ .i64 fun o =>
 (bsplit (decide (o > (0 : Int)))
 ((kLdS a ⟨f, 4, none⟩ fun _ g _ =>
 (bsplit (decide ((g : Int) = (1 : Int)))
 ((kLdS a ⟨f, 4, none⟩ fun b d _ =>
 (kIx b d (0 : Int) fun h =>
 (kLd a ((h.add ((0 : Int).toNat * 3)).add 1) .i64 fun k =>
 (bsplit (decide (k = (0 : Int)))
 ((kLdS a ⟨f, 4, none⟩ fun c e _ =>
 (kIx c e (0 : Int) fun i =>
 (kLd a ((i.add ((0 : Int).toNat * 3)).add 2) .i64 fun l =>
 (kLd a ⟨f, 2, none⟩ .i64 fun m =>
 (kLet (decide (l = m)) fun n =>
 R (.bool n) a))))))
 (R (.bool false) a))))))
 (R (.bool false) a))))
 (R (.bool false) a)))))
theorem F_ref21_whole_ok {R : EP} (p_0 : Int) (p_1 : Bool) (p_2 : Int) (p_3_a : OA) (p_3_l p_3_c : Nat) (p_4_a : OA) (p_4_l p_4_c : Nat) (w : World) (h : F_ref21_whole p_0 p_1 p_2 p_3_a p_3_l p_3_c p_4_a p_4_l p_4_c w fun v w' => R (.returned v) w') : CP N_ref21_whole #[(.agg #[Iv p_0, .bool p_1, Iv p_2, .slice p_3_a p_3_l p_3_c, .slice p_4_a p_4_l p_4_c])] w R :=
 calls_of (k := TTk) (h := h_ref21_whole) (f := 103) follows_ok Tryz.func103 (Eq.mpr (by kernel_rfl) h)

end Go.Proofs.YthceaojjeokclaaGreat
