import Derived.Test.YtmbppohkadmjgaaGreatBase
import Derived.KernelRfl
namespace Go.Proofs.YtmbppohkadmjgaaGreat
open Go.Sx Go.RowKit
set_option maxRecDepth 100000

def h_receiver_complete : H := (sr (.seq (.draw .no (so 0 28 .nil)) .leaf))
def F_receiver_complete (p_0 : Int) (p_1 : Bool) (p_2 : Int) (p_3_a : OA) (p_3_l p_3_c : Nat) (p_4_a : OA) (p_4_l p_4_c : Nat) (w : World) (R : Value -> WP) : Prop :=
 (kAlloc w #[(Iv p_0), (.bool p_1), (Iv p_2), (.slice p_3_a p_3_l p_3_c), (.slice p_4_a p_4_l p_4_c)] Ty_api_Partial fun f j =>
 (kDrew j fun a =>
 (kLd a ⟨f, 2, none⟩ .i64 fun o =>
 (bsplit (decide (o > (0 : Int)))
 ((kLdS a ⟨f, 4, none⟩ fun _ g _ =>
 (bsplit (decide ((g : Int) = (1 : Int)))
 ((kLdS a ⟨f, 4, none⟩ fun b d _ =>
 (kIx b d (0 : Int) fun h =>
 (kLd a ((h.add ((0 : Int).toNat * 3)).add 1) .i64 fun k =>
 (bsplit (decide (k = (0 : Int)))
 ((kLdS a ⟨f, 4, none⟩ fun c e _ =>
 (kIx c e (0 : Int) fun i =>
 (kLd a ((i.add ((0 : Int).toNat * 3)).add 2) .i64 fun l =>
 (kLd a ⟨f, 2, none⟩ .i64 fun m =>
 (kLet (decide (l = m)) fun n =>
 R (.bool n) a))))))
 (R (.bool false) a))))))
 (R (.bool false) a))))
 (R (.bool false) a)))))
theorem F_receiver_complete_ok {R : EP} (p_0 : Int) (p_1 : Bool) (p_2 : Int) (p_3_a : OA) (p_3_l p_3_c : Nat) (p_4_a : OA) (p_4_l p_4_c : Nat) (w : World) (h : F_receiver_complete p_0 p_1 p_2 p_3_a p_3_l p_3_c p_4_a p_4_l p_4_c w fun v w' => R (.returned v) w') : CP N_receiver_complete #[(.agg #[Iv p_0, .bool p_1, Iv p_2, .slice p_3_a p_3_l p_3_c, .slice p_4_a p_4_l p_4_c])] w R :=
 calls_of (k := TTk) (h := h_receiver_complete) (f := 84) follows_ok Tryz.func84 (Eq.mpr (by kernel_rfl) h)

def h_receiver_side_advance : H := (.cut [] (rg 2 54) (.block (.loopG [] (rg 2 54) (.cut [] (rg 2 33) (.seq (.draw .no (so 0 33 .nil)) (.cond .leaf .leaf)) (.block (sr .reg))))) (.seq (.draw .blk (po 0 6 (so 7 6 (ko 6 1 (ko 13 1 (so 14 1 .nil)))))) (.cond .reg .leaf)))
def F_receiver_side_advance (s_b s_o : Nat) (w : World) (R : Value -> WP) : Prop :=
 (∃ x : WP,
 (∀ (_ : Env)  (t : World), x t ->
 (kDrew t fun c =>
 (∃ z : Nat -> Prop,
 (kLd c ⟨s_b, s_o + 8, none⟩ .i64 fun ah =>
 (z s_b /\
 (kLd c ⟨s_b, s_o + 7, none⟩ .i64 fun ai =>
 (CP N_receiver_side_place #[(.pointer (some ⟨s_b, s_o, none⟩)), (Iv ah)] c fun m u =>
 ∃ o : Int, m = .returned (Iv o) /\
 (KeepsB z c u /\ (CP N_receiver_side_place #[(.pointer (some ⟨s_b, s_o, none⟩)), (Iv ai)] u fun n b =>
 ∃ p : Int, n = .returned (Iv p) /\
 (KeepsB z c b /\ (bsplit (decide (o > p))
 ((kLd b ⟨s_b, s_o + 6, none⟩ .i64 fun aj =>
 (kSet b ⟨s_b, s_o + 8, none⟩ (Iv aj) fun r =>
 R (.tuple #[]) r)))
 (R (.tuple #[]) b)))))))))))) /\
 (∃ y : Nat -> WP, (∃ m' : Nat, y m' w) /\
 (∀ (_ : Env)  (ak : Nat) (q : World), y ak q ->
 (∃ l : WP,
 (∀ (_ : Env)  (f : World), l f ->
 (kLdS f ⟨s_b, s_o + 13, none⟩ fun i e d =>
 ((0 <= (1 : Int) /\ (1 : Int) <= ((e : Nat) : Int)) /\ (kSet f ⟨s_b, s_o + 13, none⟩ (.slice (slAddr d ((1 : Int).toNat) 5 i) (e - (1 : Int).toNat) (d - (1 : Int).toNat)) fun s =>
 (kLd s ⟨s_b, s_o + 6, none⟩ .i64 fun ag =>
 (CP N_receiver_side_behind #[(.pointer (some ⟨s_b, s_o, none⟩)), (Iv ag)] s fun ab ac =>
 ∃ al : Int, ab = .returned (Iv al) /\
 (kSet ac ⟨s_b, s_o + 6, none⟩ (Iv al) fun ad =>
 (∃ m' : Nat, m' < ak /\ y m' ad)))))))) /\
 (kDrew q fun a =>
 (kLdS a ⟨s_b, s_o + 13, none⟩ fun _ v _ =>
 (bsplit (decide ((v : Int) > (0 : Int)))
 ((kLdS a ⟨s_b, s_o + 13, none⟩ fun g j _ =>
 (kIx g j (0 : Int) fun am =>
 (kLd a (am.add ((0 : Int).toNat * 5)) .i64 fun an =>
 (kLd a ⟨s_b, s_o + 6, none⟩ .i64 fun ae =>
 (bsplit (decide (an = ae))
 ((kLdS a ⟨s_b, s_o + 13, none⟩ fun h k _ =>
 (kIx h k (0 : Int) fun aa =>
 (kLdB a ((aa.add ((0 : Int).toNat * 5)).add 1) fun af =>
 (bsplit af
 (l a)
 (x a))))))
 (x a)))))))
 (x a))))))))
theorem F_receiver_side_advance_ok {R : EP} (s_b s_o : Nat) (w : World) (h : F_receiver_side_advance s_b s_o w fun v w' => R (.returned v) w') : CP N_receiver_side_advance #[(.pointer (some ⟨s_b, s_o, none⟩))] w R :=
 calls_of (k := TTk) (h := h_receiver_side_advance) (f := 85) follows_ok Tryz.func85 (Eq.mpr (by kernel_rfl) h)

def h_receiver_side_start : H := (.cut [] (rg 2 41) (.cut [(34, .p .bool)] (rg 2 33) (.draw .blk (po 0 13 (ko 13 1 (so 14 8 (so 23 6 (ko 22 1 (ko 29 1 (so 30 3 .nil)))))))) (.cond .reg .leaf)) (.cut [(61, .p .bool)] (rg 43 19) (.draw .no (so 0 19 .nil)) (.cond (.draw .blk (po 0 1 (so 1 1 (po 2 14 (ko 16 1 (so 17 3 (lo 20 1 .nil))))))) .leaf)))
def F_receiver_side_start (s_b s_o : Nat) (w : World) (R : Value -> WP) : Prop :=
 (∃ v : WP,
 (∀ (_ : Env)  (r : World), v r ->
 (∃ g : Bool -> WP,
 (∀ (_ : Env) (u : Bool) (c : World), g u c ->
 (bsplit u
 ((kDrew c fun b =>
 (∃ x : Nat -> Prop,
 (kLd b ⟨s_b, s_o + 7, none⟩ .i64 fun ah =>
 (kLd b ⟨s_b, s_o + 3, none⟩ .i64 fun s =>
 (kSet b ⟨s_b, s_o + 9, none⟩ (Iv ah) fun f =>
 (KeepsB x b f /\ (kSet f ⟨s_b, s_o + 10, none⟩ (Iv s) fun o =>
 R (.tuple #[]) o))))))))
 (R (.tuple #[]) c))) /\
 (kDrew r fun d =>
 (kLd d ⟨s_b, s_o + 9, none⟩ .i64 fun ae =>
 (bsplit (decide (ae = (-1 : Int)))
 ((kLd d ⟨s_b, s_o + 6, none⟩ .i64 fun af =>
 (kLd d ⟨s_b, s_o + 7, none⟩ .i64 fun ag =>
 g (!decide (af = ag)) d)))
 (g false d)))))) /\
 (∃ e : Bool -> WP,
 (∀ (_ : Env) (t : Bool) (i : World), e t i ->
 (bsplit t
 ((kSet i ⟨s_b, s_o + 9, none⟩ (Iv (-1 : Int)) fun z =>
 (kSet z ⟨s_b, s_o + 10, none⟩ (Iv (0 : Int)) fun aa =>
 v aa)))
 (v i))) /\
 (kDrew w fun a =>
 (∃ j : Nat -> Prop,
 (kLd a ⟨s_b, s_o + 9, none⟩ .i64 fun aj =>
 (bsplit (!decide (aj = (-1 : Int)))
 ((kLd a ⟨s_b, s_o + 9, none⟩ .i64 fun ab =>
 (CP N_receiver_side_place #[(.pointer (some ⟨s_b, s_o, none⟩)), (Iv ab)] a fun y h =>
 ∃ ai : Int, y = .returned (Iv ai) /\
 (KeepsB j a h /\ (bsplit (decide (ai = (0 : Int)))
 (e true h)
 ((j s_b /\
 (kLd a ⟨s_b, s_o + 9, none⟩ .i64 fun ac =>
 (j s_b /\
 (kLd a ⟨s_b, s_o + 7, none⟩ .i64 fun ad =>
 (CP N_receiver_side_place #[(.pointer (some ⟨s_b, s_o, none⟩)), (Iv ac)] h fun k p =>
 ∃ m : Int, k = .returned (Iv m) /\
 (KeepsB j a p /\ (CP N_receiver_side_place #[(.pointer (some ⟨s_b, s_o, none⟩)), (Iv ad)] p fun l q =>
 ∃ n : Int, l = .returned (Iv n) /\
 (KeepsB j a q /\ e (decide (m > n)) q))))))))))))))
 (e false a)))))))
theorem F_receiver_side_start_ok {R : EP} (s_b s_o : Nat) (w : World) (h : F_receiver_side_start s_b s_o w fun v w' => R (.returned v) w') : CP N_receiver_side_start #[(.pointer (some ⟨s_b, s_o, none⟩))] w R :=
 calls_of (k := TTk) (h := h_receiver_side_start) (f := 86) follows_ok Tryz.func86 (Eq.mpr (by kernel_rfl) h)

def h_counter_Bits : H := (sr sl)
def F_counter_Bits (bits : Int) (w : World) (R : Value -> WP) : Prop :=
 (bsplit (decide (bits >= (5 : Int)))
 ((kLet (decide (bits <= (9 : Int))) fun a =>
 R (.bool a) w))
 (R (.bool false) w))
theorem F_counter_Bits_ok {R : EP} (bits : Int) (w : World) (h : F_counter_Bits bits w fun v w' => R (.returned v) w') : CP N_counter_Bits #[(Iv bits)] w R :=
 calls_of (k := TTk) (h := h_counter_Bits) (f := 87) follows_ok Tryz.func87 (Eq.mpr (by kernel_rfl) h)

def h_status_reader_take : H := (sr (.cut [] (rg 7 9) (sr (.cond .reg .leaf)) (.seq (sr (.block (.loop [(4, .p (.int .i64)), (23, .p (.int .i64))] ([4, 6] ++ rg 23 10) (sr (.seq (.cond .leaf .leaf) (.seq (.block (sr .reg)) .reg)))))) (sr sl))))
def F_status_reader_take (r_b r_o : Nat) (n : Int) (w : World) (R : Value -> WP) (Pn : List PanicEntry -> WP) : Prop :=
 (∃ s : WP,
 (∀ (_ : Env)  (f : World), s f ->
 (kLdS f ⟨r_b, r_o, none⟩ fun g _ c =>
 ((0 <= n /\ n <= ((c : Nat) : Int)) /\ (∃ i : Int -> Int -> Nat × (WP), (i (0 : Int) (0 : Int)).2 f /\
 (∀ (_ : Env) (m : Int) (a : Int) (b : World), (i m a).2 b ->
 (bsplit (decide (a < ((n.toNat - 0) : Int)))
 ((kIx (slAddr c 0 1 g) (n.toNat - 0) a fun t =>
 (kLd b (t.add (a.toNat * 1)) .u8 fun p =>
 (kW .i64 (m * 2 ^ 8) fun q =>
 (kW .i64 (p) fun r =>
 (kLet (bOr .i64 q r) fun j =>
 (kW .i64 (a + (1 : Int)) fun k =>
 ((i j k).2 b /\ (i j k).1 < (i m a).1))))))))
 ((kLdS b ⟨r_b, r_o, none⟩ fun h e d =>
 ((0 <= n /\ n <= ((e : Nat) : Int)) /\ (kSet b ⟨r_b, r_o, none⟩ (.slice (slAddr d (n.toNat) 1 h) (e - n.toNat) (d - n.toNat)) fun o =>
 R (Iv m) o)))))))))) /\
 (kLdS w ⟨r_b, r_o, none⟩ fun _ l _ =>
 (bsplit (decide ((l : Int) < n))
 (Pn [{ v := (.iface Ty_status_ended (.agg #[])), recovered := false }] w)
 (s w))))
theorem F_status_reader_take_ok {R : EP} (r_b r_o : Nat) (n : Int) (w : World) (h : F_status_reader_take r_b r_o n w (fun v w' => R (.returned v) w') fun ch w' => R (.panicked ch) w') : CP N_status_reader_take #[(.pointer (some ⟨r_b, r_o, none⟩)), (Iv n)] w R :=
 calls_ofP (k := TTk) (h := h_status_reader_take) (f := 89) follows_ok Tryz.func89 (Eq.mpr (by kernel_rfl) h)

def h_status_Encode : H := (sr (.seq sc (sr (.seq (sr (.block (.loop [(6, .p .slice), (28, .p (.int .i64))] ([6, 8] ++ rg 28 44) (sr (.seq (.cond .leaf .leaf) (.seq (.block (sr (sr (sr (.cond (sr .reg) .leaf))))) .reg)))))) sl))))
def F_status_Encode (bits s_0 : Int) (s_1_a : OA) (s_1_l s_1_c : Nat) (w : World) (R : Value -> WP) : Prop :=
 (kAlloc w #[(Iv s_0), (.slice s_1_a s_1_l s_1_c)] Ty_api_Status fun ah ak =>
 (∃ ab : Int, ∃ k : OA, ∃ m l : Nat, cellsAt ak ⟨ah, 0, none⟩ 0 [(Iv ab), (.slice k m l)] /\
 (CP N_status_Valid #[(Iv bits), (.agg #[Iv ab, .slice k m l])] ak fun bd n =>
 ∃ bo : Bool, bd = .returned (.bool bo) /\
 (bsplit (!bo)
 (R (.tuple #[(.slice none 0 0), (Iv (1 : Int))]) n)
 ((kLd n ⟨ah, 0, none⟩ .i64 fun bp =>
 (kLet (Int.fdiv bp (2 ^ 8)) fun bg =>
 (kW .u8 (bg) fun bh =>
 (kLd n ⟨ah, 0, none⟩ .i64 fun bi =>
 (kW .u8 (bi) fun bj =>
 (kLdS n ⟨ah, 1, none⟩ fun _ a6 _ =>
 (kW .u8 ((a6 : Int)) fun bk =>
 (kAlloc n #[(.int .u8 bh), (.int .u8 bj), (.int .u8 bk)] Ty_uint8 fun a7 an =>
 (kLdS an ⟨ah, 1, none⟩ fun ag u _ =>
 (∃ y : OA -> Nat -> Nat -> Int -> Nat × (WP), (y (some ⟨a7, 0, none⟩) 3 3 (0 : Int)).2 an /\
 (∀ (_ : Env) (d : OA) (f : Nat) (e : Nat) (h : Int) (x : World), (y d f e h).2 x ->
 (bsplit (decide (h < (u : Int)))
 ((kIx ag u h fun a8 =>
 (∃ o ac ad : Int, cellsAt x (a8.add (h.toNat * 3)) 0 [(Iv o), (Iv ac), (Iv ad)] /\
 (kAlloc x #[Iv (0 : Int), Iv (0 : Int), Iv (0 : Int)] Ty_api_Range fun c be =>
 (sxStore be ⟨c, 0, none⟩ 0 [(Iv o), (Iv ac), (Iv ad)] fun ae =>
 (kLd ae ⟨c, 0, none⟩ .i64 fun bl =>
 (kLet (Int.fdiv bl (2 ^ 4)) fun bm =>
 (kW .u8 (bm) fun bn =>
 (kLd ae ⟨c, 0, none⟩ .i64 fun ap =>
 (kW .i64 (ap * 2 ^ 4) fun aq =>
 (kW .u8 (aq) fun ar =>
 (kAlloc ae #[(.int .u8 bn), (.int .u8 ar)] Ty_uint8 fun a9 bf =>
 (AppP Tryz.prog #[Ty_S_uint8, Ty_S_uint8] Ty_S_uint8 #[(.slice d f e), (.slice (some ⟨a9, 0, none⟩) 2 2)] bf fun b a i ao =>
 (∃ p q r : Int, cellsAt ao ⟨c, 0, none⟩ 0 [(Iv p), (Iv q), (Iv r)] /\
 (CP N_status_Whole #[(.agg #[Iv p, Iv q, Iv r])] ao fun ai af =>
 ∃ aj : Bool, ai = .returned (.bool aj) /\
 (bsplit (!aj)
 ((kW .i64 ((a : Int) - (1 : Int)) fun j =>
 (kIx b a j fun ba =>
 (kLd af (ba.add (j.toNat * 1)) .u8 fun au =>
 (kLet (bOr .u8 au (1 : Int)) fun av =>
 (kIx b a j fun bb =>
 (kSet af (bb.add (j.toNat * 1)) (.int .u8 av) fun g =>
 (kLd g ⟨c, 1, none⟩ .i64 fun aw =>
 (kLet (Int.fdiv aw (2 ^ 8)) fun ax =>
 (kW .u8 (ax) fun ay =>
 (kLd g ⟨c, 1, none⟩ .i64 fun az =>
 (kW .u8 (az) fun a0 =>
 (kLd g ⟨c, 2, none⟩ .i64 fun a1 =>
 (kLet (Int.fdiv a1 (2 ^ 8)) fun a2 =>
 (kW .u8 (a2) fun a3 =>
 (kLd g ⟨c, 2, none⟩ .i64 fun a4 =>
 (kW .u8 (a4) fun a5 =>
 (kAlloc g #[(.int .u8 ay), (.int .u8 a0), (.int .u8 a3), (.int .u8 a5)] Ty_uint8 fun bc al =>
 (AppP Tryz.prog #[Ty_S_uint8, Ty_S_uint8] Ty_S_uint8 #[(.slice b a i), (.slice (some ⟨bc, 0, none⟩) 4 4)] al fun s v t am =>
 (kW .i64 (h + (1 : Int)) fun z =>
 ((y s v t z).2 am /\ (y s v t z).1 < (y d f e h).1)))))))))))))))))))))
 ((kW .i64 (h + (1 : Int)) fun aa =>
 ((y b a i aa).2 af /\ (y b a i aa).1 < (y d f e h).1)))))))))))))))))))
 (R (.tuple #[(.slice d f e), (Iv (0 : Int))]) x))))))))))))))))))
theorem F_status_Encode_ok {R : EP} (bits s_0 : Int) (s_1_a : OA) (s_1_l s_1_c : Nat) (w : World) (h : F_status_Encode bits s_0 s_1_a s_1_l s_1_c w fun v w' => R (.returned v) w') : CP N_status_Encode #[(Iv bits), (.agg #[Iv s_0, .slice s_1_a s_1_l s_1_c])] w R :=
 calls_of (k := TTk) (h := h_status_Encode) (f := 90) follows_ok Tryz.func90 (Eq.mpr (by kernel_rfl) h)

def h_bytes_Equal : H := (sr sl)
def F_bytes_Equal (a_a : OA) (a_l a_c : Nat) (b_a : OA) (b_l b_c : Nat) (w : World) (R : Value -> WP) : Prop :=
 (ConvS Tryz.prog Ty_S_uint8 Ty_string (.slice a_a a_l a_c) w fun b =>
 (ConvS Tryz.prog Ty_S_uint8 Ty_string (.slice b_a b_l b_c) w fun a =>
 R (.bool (b == a)) w))
theorem F_bytes_Equal_ok {R : EP} (a_a : OA) (a_l a_c : Nat) (b_a : OA) (b_l b_c : Nat) (w : World) (h : F_bytes_Equal a_a a_l a_c b_a b_l b_c w fun v w' => R (.returned v) w') : CP N_bytes_Equal #[(.slice a_a a_l a_c), (.slice b_a b_l b_c)] w R :=
 calls_of (k := TTk) (h := h_bytes_Equal) (f := 91) follows_ok Tryz.func91 (Eq.mpr (by kernel_rfl) h)

def h_sender_Valid : H := (sr (sr (.seq (.cut [(51, .p .bool)] (rg 7 45) (.draw .blk (po 0 2 (ko 2 1 (so 3 5 (ko 8 1 (so 9 6 (ko 15 1 (so 16 6 (so 23 5 (ko 22 1 (so 28 4 (ko 32 1 (so 33 9 (ko 42 1 (so 43 2 .nil))))))))))))))) (.cond sl .leaf)) (.seq sc sl))))
def F_sender_Valid (x_0 x_1 x_2 x_3 x_4 x_5 x_6 x_7 : Int) (x_8_a : OA) (x_8_l x_8_c : Nat) (x_9 x_10 x_11 : Int) (x_12 : Bool) (w : World) (R : Value -> WP) : Prop :=
 (kAlloc w #[(Iv x_0), (Iv x_1), (Iv x_2), (Iv x_3), (Iv x_4), (Iv x_5), (Iv x_6), (Iv x_7), (.slice x_8_a x_8_l x_8_c), (Iv x_9), (Iv x_10), (Iv x_11), (.bool x_12)] Ty_api_Sender fun c ay =>
 (∃ m o q s u x z aa : Int, ∃ d : OA, ∃ f e : Nat, ∃ ab h i : Int, ∃ j : Bool, cellsAt ay ⟨c, 0, none⟩ 0 [(Iv m), (Iv o), (Iv q), (Iv s), (Iv u), (Iv x), (Iv z), (Iv aa), (.slice d f e), (Iv ab), (Iv h), (Iv i), (.bool j)] /\
 (kAlloc ay #[(Iv m), (Iv o), (Iv q), (Iv s), (Iv u), (Iv x), (Iv z), (Iv aa), (.slice d f e), (Iv ab), (Iv h), (Iv i), (.bool j)] Ty_sender_side fun l a9 =>
 (∃ ac : Bool -> WP,
 (∀ (_ : Env) (a7 : Bool) (b : World), ac a7 b ->
 (bsplit a7
 (R (.bool false) b)
 ((kLd b ⟨c, 10, none⟩ .i64 fun a1 =>
 (bsplit (decide (a1 = (-1 : Int)))
 ((kLd b ⟨c, 11, none⟩ .i64 fun a2 =>
 (kLet (decide (a2 = (0 : Int))) fun a3 =>
 R (.bool a3) b)))
 ((CP N_sender_side_asked #[(.pointer (some ⟨l, 0, none⟩))] b fun an g =>
 ∃ aw : Bool, an = .returned (.bool aw) /\
 (bsplit aw
 ((kLd g ⟨c, 11, none⟩ .i64 fun a4 =>
 (kLd g ⟨c, 2, none⟩ .i64 fun a5 =>
 (CP N_sender_between #[(Iv a4), (Iv (1 : Int)), (Iv a5)] g fun ao az =>
 ∃ ax : Bool, ao = .returned (.bool ax) /\
 R (.bool ax) az))))
 (R (.bool false) g))))))))) /\
 (kDrew a9 fun a =>
 (∃ k : Nat -> Prop,
 (∃ n p r t v y : Int, cellsAt a ⟨c, 0, none⟩ 0 [(Iv n), (Iv p), (Iv r), (Iv t), (Iv v), (Iv y)] /\
 (CP N_sender_ValidLink #[(.agg #[Iv n, Iv p, Iv r, Iv t, Iv v, Iv y])] a fun a8 ad =>
 ∃ bh : Bool, a8 = .returned (.bool bh) /\
 (KeepsB k a ad /\ (bsplit (!bh)
 (ac true ad)
 ((k c /\
 (kLd a ⟨c, 6, none⟩ .i64 fun bi =>
 (CP N_sender_side_number #[(.pointer (some ⟨l, 0, none⟩)), (Iv bi)] ad fun ai ae =>
 ∃ ap : Bool, ai = .returned (.bool ap) /\
 (KeepsB k a ae /\ (bsplit (!ap)
 (ac true ae)
 ((k c /\
 (kLd a ⟨c, 7, none⟩ .i64 fun ba =>
 (CP N_sender_side_number #[(.pointer (some ⟨l, 0, none⟩)), (Iv ba)] ae fun aj af =>
 ∃ aq : Bool, aj = .returned (.bool aq) /\
 (KeepsB k a af /\ (bsplit (!aq)
 (ac true af)
 ((k c /\
 (kLd a ⟨c, 7, none⟩ .i64 fun bb =>
 (k c /\
 (kLd a ⟨c, 0, none⟩ .i64 fun bc =>
 (kW .i64 (bc - (1 : Int)) fun a6 =>
 (0 <= a6 /\ (kW .i64 ((1 : Int) * 2 ^ (min a6.toNat (IntKind.bits .i64))) fun bd =>
 (CP N_sender_side_place #[(.pointer (some ⟨l, 0, none⟩)), (Iv bb)] af fun ak ag =>
 ∃ ar : Int, ak = .returned (Iv ar) /\
 (KeepsB k a ag /\ (bsplit (decide (ar > bd))
 (ac true ag)
 ((CP N_sender_side_units #[(.pointer (some ⟨l, 0, none⟩))] ag fun al ah =>
 ∃ au : Bool, al = .returned (.bool au) /\
 (KeepsB k a ah /\ (bsplit (!au)
 (ac true ah)
 ((k c /\
 (kLd a ⟨c, 9, none⟩ .i64 fun be =>
 (k c /\
 (kLd a ⟨c, 1, none⟩ .i64 fun bf =>
 (kW .i64 (bf - (1 : Int)) fun bg =>
 (CP N_sender_between #[(Iv be), (Iv (0 : Int)), (Iv bg)] ah fun am a0 =>
 ∃ av : Bool, am = .returned (.bool av) /\
 (KeepsB k a a0 /\ ac (!av) a0)))))))))))))))))))))))))))))))))))))))))))))
theorem F_sender_Valid_ok {R : EP} (x_0 x_1 x_2 x_3 x_4 x_5 x_6 x_7 : Int) (x_8_a : OA) (x_8_l x_8_c : Nat) (x_9 x_10 x_11 : Int) (x_12 : Bool) (w : World) (h : F_sender_Valid x_0 x_1 x_2 x_3 x_4 x_5 x_6 x_7 x_8_a x_8_l x_8_c x_9 x_10 x_11 x_12 w fun v w' => R (.returned v) w') : CP N_sender_Valid #[(.agg #[Iv x_0, Iv x_1, Iv x_2, Iv x_3, Iv x_4, Iv x_5, Iv x_6, Iv x_7, .slice x_8_a x_8_l x_8_c, Iv x_9, Iv x_10, Iv x_11, .bool x_12])] w R :=
 calls_of (k := TTk) (h := h_sender_Valid) (f := 92) follows_ok Tryz.func92 (Eq.mpr (by kernel_rfl) h)

def h_status_Valid : H := (sr (.cut [] ([4] ++ rg 10 21) (.seq (.draw .blk (po 0 1 (ko 1 1 (so 2 19 .nil)))) (.cond sl .leaf)) (sr (.seq (sr (.block (.loop [(5, .p (.int .i64)), (38, .p (.int .i64))] (rg 4 6 ++ rg 38 75) (sr (.seq (.cond .leaf .leaf) (.seq (.block (sr (sr (.seq (.cut [(84, .p .bool)] (rg 49 36) (.draw .blk (po 0 28 (ko 28 1 (so 29 3 (ko 32 1 (so 33 3 .nil)))))) (.cond sl .leaf)) (.seq (.cut [(91, .p .bool)] (rg 85 7) .reg (.cond (sr sc) .leaf)) .reg))))) .reg)))))) sl))))
def F_status_Valid (bits s_0 : Int) (s_1_a : OA) (s_1_l s_1_c : Nat) (w : World) (R : Value -> WP) : Prop :=
 (kAlloc w #[(Iv s_0), (.slice s_1_a s_1_l s_1_c)] Ty_api_Status fun ae bn =>
 (∃ bx : WP,
 (∀ (_ : Env)  (ax : World), bx ax ->
 (kW .i64 (bits - (1 : Int)) fun bh =>
 (0 <= bh /\ (kW .i64 ((1 : Int) * 2 ^ (min bh.toNat (IntKind.bits .i64))) fun bs =>
 (kW .i64 (bs + (1 : Int)) fun bt =>
 (kLdS ax ⟨ae, 1, none⟩ fun az ad _ =>
 (∃ ag : Int -> Int -> Nat × (WP), (ag bt (0 : Int)).2 ax /\
 (∀ (_ : Env) (a : Int) (c : Int) (af : World), (ag a c).2 af ->
 (bsplit (decide (c < (ad : Int)))
 ((kIx az ad c fun bk =>
 (∃ ap aq ar : Int, cellsAt af (bk.add (c.toNat * 3)) 0 [(Iv ap), (Iv aq), (Iv ar)] /\
 (kAlloc af #[Iv (0 : Int), Iv (0 : Int), Iv (0 : Int)] Ty_api_Range fun d bo =>
 (sxStore bo ⟨d, 0, none⟩ 0 [(Iv ap), (Iv aq), (Iv ar)] fun ay =>
 (kLd ay ⟨d, 0, none⟩ .i64 fun bu =>
 (kLd ay ⟨ae, 0, none⟩ .i64 fun bv =>
 (CP N_serial_Distance #[(Iv bits), (Iv bu), (Iv bv)] ay fun a2 bp =>
 ∃ e : Int, a2 = .returned (Iv e) /\
 (∃ f : Bool -> WP,
 (∀ (_ : Env) (ak : Bool) (i : World), f ak i ->
 (bsplit ak
 (R (.bool false) i)
 ((∃ au : Bool -> WP,
 (∀ (_ : Env) (al : Bool) (g : World), au al g ->
 (bsplit al
 ((kLdS g ⟨ae, 1, none⟩ fun a0 a1 _ =>
 (kW .i64 (c - (1 : Int)) fun am =>
 (kIx a0 a1 am fun bl =>
 (∃ p u aa : Int, cellsAt g (bl.add (am.toNat * 3)) 0 [(Iv p), (Iv u), (Iv aa)] /\
 (kAlloc g #[Iv (0 : Int), Iv (0 : Int), Iv (0 : Int)] Ty_api_Range fun aw bb =>
 (sxStore bb ⟨aw, 0, none⟩ 0 [(Iv p), (Iv u), (Iv aa)] fun ai =>
 (∃ q v ab : Int, cellsAt ai ⟨aw, 0, none⟩ 0 [(Iv q), (Iv v), (Iv ab)] /\
 (CP N_status_Whole #[(.agg #[Iv q, Iv v, Iv ab])] ai fun a5 l =>
 ∃ a9 : Bool, a5 = .returned (.bool a9) /\
 (bsplit a9
 (R (.bool false) l)
 ((∃ r x ac : Int, cellsAt l ⟨d, 0, none⟩ 0 [(Iv r), (Iv x), (Iv ac)] /\
 (CP N_status_Whole #[(.agg #[Iv r, Iv x, Iv ac])] l fun a6 h =>
 ∃ ba : Bool, a6 = .returned (.bool ba) /\
 (bsplit ba
 (R (.bool false) h)
 ((kLd h ⟨d, 1, none⟩ .i64 fun bf =>
 (kLd h ⟨aw, 2, none⟩ .i64 fun bg =>
 (bsplit (decide (bf <= bg))
 (R (.bool false) h)
 ((kW .i64 (c + (1 : Int)) fun an =>
 ((ag e an).2 h /\ (ag e an).1 < (ag a c).1)))))))))))))))))))))
 ((kW .i64 (c + (1 : Int)) fun ao =>
 ((ag e ao).2 g /\ (ag e ao).1 < (ag a c).1))))) /\
 (bsplit (decide (e = a))
 (au (decide (c > (0 : Int))) i)
 (au false i)))))) /\
 (kDrew bp fun b =>
 (∃ av : Nat -> Prop,
 (kLd b ⟨d, 0, none⟩ .i64 fun bw =>
 (bsplit (decide (bw < (0 : Int)))
 (f true b)
 ((kLd b ⟨d, 0, none⟩ .i64 fun bc =>
 (0 <= bits /\ (kW .i64 ((1 : Int) * 2 ^ (min bits.toNat (IntKind.bits .i64))) fun bd =>
 (bsplit (decide (bc >= bd))
 (f true b)
 ((bsplit (decide (e < (1 : Int)))
 (f true b)
 ((bsplit (decide (e > a))
 (f true b)
 ((kW .i64 (bits - (1 : Int)) fun aj =>
 (0 <= aj /\ (kW .i64 ((1 : Int) * 2 ^ (min aj.toNat (IntKind.bits .i64))) fun be =>
 (bsplit (decide (e > be))
 (f true b)
 ((∃ n s y : Int, cellsAt b ⟨d, 0, none⟩ 0 [(Iv n), (Iv s), (Iv y)] /\
 (CP N_status_Whole #[(.agg #[Iv n, Iv s, Iv y])] b fun a3 k =>
 ∃ a7 : Bool, a3 = .returned (.bool a7) /\
 (KeepsB av b k /\ (bsplit (!a7)
 ((av d /\
 (∃ o t z : Int, cellsAt b ⟨d, 0, none⟩ 0 [(Iv o), (Iv t), (Iv z)] /\
 (CP N_status_part #[(.agg #[Iv o, Iv t, Iv z])] k fun a4 ah =>
 ∃ a8 : Bool, a4 = .returned (.bool a8) /\
 (KeepsB av b ah /\ f (!a8) ah)))))
 (f false k)))))))))))))))))))))))))))))))))
 (R (.bool true) af)))))))))) /\
 (kDrew bn fun m =>
 (∃ bj : Nat -> Prop,
 (CP N_counter_Bits #[(Iv bits)] m fun bm j =>
 ∃ bz : Bool, bm = .returned (.bool bz) /\
 (KeepsB bj m j /\ (bsplit (!bz)
 (R (.bool false) j)
 ((bj ae /\
 (kLd m ⟨ae, 0, none⟩ .i64 fun b0 =>
 (bsplit (decide (b0 < (0 : Int)))
 (R (.bool false) j)
 ((bj ae /\
 (kLd m ⟨ae, 0, none⟩ .i64 fun bq =>
 (0 <= bits /\ (kW .i64 ((1 : Int) * 2 ^ (min bits.toNat (IntKind.bits .i64))) fun br =>
 (bsplit (decide (bq >= br))
 (R (.bool false) j)
 ((bj ae /\
 (kLdS m ⟨ae, 1, none⟩ fun _ bi _ =>
 (bsplit (decide ((bi : Int) > (64 : Int)))
 (R (.bool false) j)
 (bx j))))))))))))))))))))))
theorem F_status_Valid_ok {R : EP} (bits s_0 : Int) (s_1_a : OA) (s_1_l s_1_c : Nat) (w : World) (h : F_status_Valid bits s_0 s_1_a s_1_l s_1_c w fun v w' => R (.returned v) w') : CP N_status_Valid #[(Iv bits), (.agg #[Iv s_0, .slice s_1_a s_1_l s_1_c])] w R :=
 calls_of (k := TTk) (h := h_status_Valid) (f := 93) follows_ok Tryz.func93 (Eq.mpr (by kernel_rfl) h)

def h_sender_begin : H := (sr (.seq (.block (sr (.cond sl sc))) (sr (.seq (sr (.block (.loop [(20, .p (.int .i64))] ([4, 5] ++ rg 20 24) (sr (.seq (.cond .leaf .leaf) (.seq (.block (sr (sr (.draw .cel (so 0 2 (po 2 4 (so 7 4 (ko 6 1 (ko 11 1 (so 12 2 (ko 14 1 (so 15 2 (lo 17 1 .nil))))))))))))) .reg)))))) sl))))
def F_sender_begin (x_0 x_1 x_2 x_3 x_4 x_5 x_6 x_7 : Int) (x_8_a : OA) (x_8_l x_8_c : Nat) (x_9 x_10 x_11 : Int) (x_12 : Bool) (w : World) (R : Value -> WP) : Prop :=
 (kAlloc w #[(Iv x_0), (Iv x_1), (Iv x_2), (Iv x_3), (Iv x_4), (Iv x_5), (Iv x_6), (Iv x_7), (.slice x_8_a x_8_l x_8_c), (Iv x_9), (Iv x_10), (Iv x_11), (.bool x_12)] Ty_api_Sender fun av a9 =>
 (∃ y aa ac ae ag ai ak am : Int, ∃ b : OA, ∃ f d : Nat, ∃ ao h j : Int, ∃ l : Bool, cellsAt a9 ⟨av, 0, none⟩ 0 [(Iv y), (Iv aa), (Iv ac), (Iv ae), (Iv ag), (Iv ai), (Iv ak), (Iv am), (.slice b f d), (Iv ao), (Iv h), (Iv j), (.bool l)] /\
 (CP N_sender_Valid #[(.agg #[Iv y, Iv aa, Iv ac, Iv ae, Iv ag, Iv ai, Iv ak, Iv am, .slice b f d, Iv ao, Iv h, Iv j, .bool l])] a9 fun bm v =>
 ∃ bo : Bool, bm = .returned (.bool bo) /\
 (bsplit (!bo)
 (R (.tuple #[(.pointer none), (Iv (1 : Int))]) v)
 ((kLdB v ⟨av, 12, none⟩ fun bp =>
 (bsplit bp
 (R (.tuple #[(.pointer none), (Iv (16 : Int))]) v)
 ((kLdS v ⟨av, 8, none⟩ fun bh bj bi =>
 (CP N_slices_Clone_Sapi_Unit_api_Unit #[(.slice bh bj bi)] v fun a6 bn =>
 ∃ aq : OA, ∃ au ar : Nat, a6 = .returned (.slice aq au ar) /\
 (kSet bn ⟨av, 8, none⟩ (.slice aq au ar) fun bc =>
 (kLdS bc ⟨av, 8, none⟩ fun _ a1 _ =>
 (∃ a5 : Int -> Nat × (WP), (a5 (0 : Int)).2 bc /\
 (∀ (_ : Env) (a : Int) (x : World), (a5 a).2 x ->
 (bsplit (decide (a < (a1 : Int)))
 ((kLdS x ⟨av, 8, none⟩ fun aw a2 _ =>
 (kIx aw a2 a fun o =>
 (kDrew x fun n =>
 (∃ bk : Addr -> Prop,
 (kLdS n ((o.add (a.toNat * 5)).add 1) fun ax a3 az =>
 (bk ((o.add (a.toNat * 5)).add 4) /\
 (kLdS n ((o.add (a.toNat * 5)).add 4) fun ay a4 a0 =>
 (CP N_slices_Clone_Sbyte_byte #[(.slice ax a3 az)] n fun a7 bd =>
 ∃ p : OA, ∃ t r : Nat, a7 = .returned (.slice p t r) /\
 (KeepsA bk n bd /\ (CP N_slices_Clone_Sapi_Range_api_Range #[(.slice ay a4 a0)] bd fun a8 be =>
 ∃ q : OA, ∃ u s : Nat, a8 = .returned (.slice q u s) /\
 (KeepsA bk n be /\ (kSet be ((o.add (a.toNat * 5)).add 1) (.slice p t r) fun bf =>
 (KeepsA bk n bf /\ (kSet bf ((o.add (a.toNat * 5)).add 4) (.slice q u s) fun ba =>
 (kW .i64 (a + (1 : Int)) fun bg =>
 ((a5 bg).2 ba /\ (a5 bg).1 < (a5 a).1)))))))))))))))))
 ((∃ z ab ad af ah aj al an : Int, ∃ c : OA, ∃ g e : Nat, ∃ ap i k : Int, ∃ m : Bool, cellsAt x ⟨av, 0, none⟩ 0 [(Iv z), (Iv ab), (Iv ad), (Iv af), (Iv ah), (Iv aj), (Iv al), (Iv an), (.slice c g e), (Iv ap), (Iv i), (Iv k), (.bool m)] /\
 (kAlloc x #[(Iv z), (Iv ab), (Iv ad), (Iv af), (Iv ah), (Iv aj), (Iv al), (Iv an), (.slice c g e), (Iv ap), (Iv i), (Iv k), (.bool m)] Ty_sender_side fun bl bb =>
 R (.tuple #[(.pointer (some ⟨bl, 0, none⟩)), (Iv (0 : Int))]) bb))))))))))))))))))
theorem F_sender_begin_ok {R : EP} (x_0 x_1 x_2 x_3 x_4 x_5 x_6 x_7 : Int) (x_8_a : OA) (x_8_l x_8_c : Nat) (x_9 x_10 x_11 : Int) (x_12 : Bool) (w : World) (h : F_sender_begin x_0 x_1 x_2 x_3 x_4 x_5 x_6 x_7 x_8_a x_8_l x_8_c x_9 x_10 x_11 x_12 w fun v w' => R (.returned v) w') : CP N_sender_begin #[(.agg #[Iv x_0, Iv x_1, Iv x_2, Iv x_3, Iv x_4, Iv x_5, Iv x_6, Iv x_7, .slice x_8_a x_8_l x_8_c, Iv x_9, Iv x_10, Iv x_11, .bool x_12])] w R :=
 calls_of (k := TTk) (h := h_sender_begin) (f := 94) follows_ok Tryz.func94 (Eq.mpr (by kernel_rfl) h)

def h_sender_side_place : H := (sr (.seq (.draw .blk (po 0 12 (ko 12 1 (so 13 1 .nil)))) .leaf))
def F_sender_side_place (s_b s_o : Nat) (n : Int) (w : World) (R : Value -> WP) : Prop :=
 (kDrew w fun a =>
 (∃ f : Nat -> Prop,
 (kLd a ⟨s_b, s_o, none⟩ .i64 fun g =>
 (kLd a ⟨s_b, s_o + 6, none⟩ .i64 fun d =>
 (CP N_serial_Distance #[(Iv g), (Iv d), (Iv n)] a fun c b =>
 ∃ e : Int, c = .returned (Iv e) /\
 (KeepsB f a b /\ R (Iv e) b))))))
theorem F_sender_side_place_ok {R : EP} (s_b s_o : Nat) (n : Int) (w : World) (h : F_sender_side_place s_b s_o n w fun v w' => R (.returned v) w') : CP N_sender_side_place #[(.pointer (some ⟨s_b, s_o, none⟩)), (Iv n)] w R :=
 calls_of (k := TTk) (h := h_sender_side_place) (f := 95) follows_ok Tryz.func95 (Eq.mpr (by kernel_rfl) h)

def h_sender_missing : H := (sr (.seq (sr (.block (.loop [(4, .p .slice), (5, .p .bool), (11, .p (.int .i64))] ([4, 5, 7] ++ rg 11 30) (sr (.seq (.cond .leaf .leaf) (.seq (.block (sr (.seq (sr (.cond .leaf .leaf)) (sr (.cut [] (rg 20 5) (sr (.cond .reg .leaf)) (sr (sr (.cond .reg .leaf)))))))) .reg)))))) sl))
def F_sender_missing (u_0 : Int) (u_1_a : OA) (u_1_l u_1_c : Nat) (u_2 u_3 : Int) (u_4_a : OA) (u_4_l u_4_c : Nat) (r_0 : Int) (r_1_a : OA) (r_1_l r_1_c : Nat) (w : World) (R : Value -> WP) : Prop :=
 (kAlloc w #[(Iv u_0), (.slice u_1_a u_1_l u_1_c), (Iv u_2), (Iv u_3), (.slice u_4_a u_4_l u_4_c)] Ty_api_Unit fun ak ap =>
 (kAlloc ap #[(Iv r_0), (.slice r_1_a r_1_l r_1_c)] Ty_api_Status fun al ad =>
 (kLdS ad ⟨al, 1, none⟩ fun ai z _ =>
 (∃ f : OA -> Nat -> Nat -> Bool -> Int -> Nat × (WP), (f none 0 0 false (0 : Int)).2 ad /\
 (∀ (_ : Env) (a : OA) (c : Nat) (b : Nat) (d : Bool) (r : Int) (s : World), (f a c b d r).2 s ->
 (bsplit (decide (r < (z : Int)))
 ((kIx ai z r fun am =>
 (∃ v x y : Int, cellsAt s (am.add (r.toNat * 3)) 0 [(Iv v), (Iv x), (Iv y)] /\
 (kAlloc s #[Iv (0 : Int), Iv (0 : Int), Iv (0 : Int)] Ty_api_Range fun e aq =>
 (sxStore aq ⟨e, 0, none⟩ 0 [(Iv v), (Iv x), (Iv y)] fun g =>
 (kLd g ⟨e, 0, none⟩ .i64 fun au =>
 (kLd g ⟨ak, 0, none⟩ .i64 fun av =>
 (bsplit (!decide (au = av))
 ((kW .i64 (r + (1 : Int)) fun ae =>
 ((f a c b d ae).2 g /\ (f a c b d ae).1 < (f a c b d r).1)))
 ((∃ aj : WP,
 (∀ (_ : Env)  (t : World), aj t ->
 (kLd t ⟨e, 2, none⟩ .i64 fun af =>
 (kLd t ⟨ak, 2, none⟩ .i64 fun ag =>
 (kSet t ⟨e, 2, none⟩ (Iv (if ag < af then ag else af)) fun h =>
 (kLd h ⟨e, 1, none⟩ .i64 fun ax =>
 (kLd h ⟨e, 2, none⟩ .i64 fun ay =>
 (bsplit (decide (ax < ay))
 ((∃ j l n : Int, cellsAt h ⟨e, 0, none⟩ 0 [(Iv j), (Iv l), (Iv n)] /\
 (kAlloc h #[(Iv j), (Iv l), (Iv n)] Ty_api_Range fun an ab =>
 (AppP Tryz.prog #[Ty_S_api_Range, Ty_S_api_Range] Ty_S_api_Range #[(.slice a c b), (.slice (some ⟨an, 0, none⟩) 1 1)] ab fun o q p ac =>
 (kW .i64 (r + (1 : Int)) fun ah =>
 ((f o q p true ah).2 ac /\ (f o q p true ah).1 < (f a c b d r).1))))))
 ((kW .i64 (r + (1 : Int)) fun u =>
 ((f a c b true u).2 h /\ (f a c b true u).1 < (f a c b d r).1)))))))))) /\
 (∃ i k m : Int, cellsAt g ⟨e, 0, none⟩ 0 [(Iv i), (Iv k), (Iv m)] /\
 (CP N_status_Whole #[(.agg #[Iv i, Iv k, Iv m])] g fun ao aa =>
 ∃ az : Bool, ao = .returned (.bool az) /\
 (bsplit az
 ((kLd aa ⟨ak, 2, none⟩ .i64 fun aw =>
 (kSet aa ⟨e, 2, none⟩ (Iv aw) fun ar =>
 aj ar)))
 (aj aa))))))))))))))
 (R (.tuple #[(.slice a c b), (.bool d)]) s)))))))
theorem F_sender_missing_ok {R : EP} (u_0 : Int) (u_1_a : OA) (u_1_l u_1_c : Nat) (u_2 u_3 : Int) (u_4_a : OA) (u_4_l u_4_c : Nat) (r_0 : Int) (r_1_a : OA) (r_1_l r_1_c : Nat) (w : World) (h : F_sender_missing u_0 u_1_a u_1_l u_1_c u_2 u_3 u_4_a u_4_l u_4_c r_0 r_1_a r_1_l r_1_c w fun v w' => R (.returned v) w') : CP N_sender_missing #[(.agg #[Iv u_0, .slice u_1_a u_1_l u_1_c, Iv u_2, Iv u_3, .slice u_4_a u_4_l u_4_c]), (.agg #[Iv r_0, .slice r_1_a r_1_l r_1_c])] w R :=
 calls_of (k := TTk) (h := h_sender_missing) (f := 96) follows_ok Tryz.func96 (Eq.mpr (by kernel_rfl) h)

def h_sender_side_again : H := (.seq (.seq (.draw .no (so 0 11 .nil)) (.cond sl .leaf)) .reg)
def F_sender_side_again (s_b s_o u_b u_o : Nat) (w : World) (R : Value -> WP) : Prop :=
 (kDrew w fun a =>
 (kLd a ⟨u_b, u_o + 3, none⟩ .i64 fun g =>
 (kLd a ⟨s_b, s_o + 5, none⟩ .i64 fun d =>
 (bsplit (decide (g = d))
 ((kSet a ⟨s_b, s_o + 12, none⟩ (.bool true) fun b =>
 R (.tuple #[]) b))
 ((kLd a ⟨u_b, u_o + 3, none⟩ .i64 fun e =>
 (kW .i64 (e + (1 : Int)) fun f =>
 (kSet a ⟨u_b, u_o + 3, none⟩ (Iv f) fun c =>
 R (.tuple #[]) c))))))))
theorem F_sender_side_again_ok {R : EP} (s_b s_o u_b u_o : Nat) (w : World) (h : F_sender_side_again s_b s_o u_b u_o w fun v w' => R (.returned v) w') : CP N_sender_side_again #[(.pointer (some ⟨s_b, s_o, none⟩)), (.pointer (some ⟨u_b, u_o, none⟩))] w R :=
 calls_of (k := TTk) (h := h_sender_side_again) (f := 97) follows_ok Tryz.func97 (Eq.mpr (by kernel_rfl) h)

def h_sender_whole : H := (sr sl)
def F_sender_whole (u_0 : Int) (u_1_a : OA) (u_1_l u_1_c : Nat) (u_2 u_3 : Int) (u_4_a : OA) (u_4_l u_4_c : Nat) (w : World) (R : Value -> WP) : Prop :=
 (kAlloc w #[(Iv u_0), (.slice u_1_a u_1_l u_1_c), (Iv u_2), (Iv u_3), (.slice u_4_a u_4_l u_4_c)] Ty_api_Unit fun d a =>
 (kLd a ⟨d, 2, none⟩ .i64 fun e =>
 (kLdS a ⟨d, 1, none⟩ fun _ b _ =>
 (kLet (decide (e = (b : Int))) fun c =>
 R (.bool c) a))))
theorem F_sender_whole_ok {R : EP} (u_0 : Int) (u_1_a : OA) (u_1_l u_1_c : Nat) (u_2 u_3 : Int) (u_4_a : OA) (u_4_l u_4_c : Nat) (w : World) (h : F_sender_whole u_0 u_1_a u_1_l u_1_c u_2 u_3 u_4_a u_4_l u_4_c w fun v w' => R (.returned v) w') : CP N_sender_whole #[(.agg #[Iv u_0, .slice u_1_a u_1_l u_1_c, Iv u_2, Iv u_3, .slice u_4_a u_4_l u_4_c])] w R :=
 calls_of (k := TTk) (h := h_sender_whole) (f := 98) follows_ok Tryz.func98 (Eq.mpr (by kernel_rfl) h)

def h_sender_Submit : H := (sr (sr (.seq (.block (sr (.cond sl (sr (.cond sl (.seq (.draw .blk (po 0 6 (so 7 8 (ko 6 1 (so 15 2 .nil))))) (.cond sl .leaf))))))) (.seq (.draw .blk (so 0 11 (po 11 1 (ko 12 4 (so 16 3 (lo 19 1 .nil)))))) (.seq (.draw .blk (so 0 1 (po 1 12 (ko 13 1 (so 14 3 (lo 17 1 .nil)))))) sl)))))
def F_sender_Submit (x_0 x_1 x_2 x_3 x_4 x_5 x_6 x_7 : Int) (x_8_a : OA) (x_8_l x_8_c : Nat) (x_9 x_10 x_11 : Int) (x_12 : Bool) (data_a : OA) (data_l data_c : Nat) (w : World) (R : Value -> WP) : Prop :=
 (kAlloc w #[(Iv x_0), (Iv x_1), (Iv x_2), (Iv x_3), (Iv x_4), (Iv x_5), (Iv x_6), (Iv x_7), (.slice x_8_a x_8_l x_8_c), (Iv x_9), (Iv x_10), (Iv x_11), (.bool x_12)] Ty_api_Sender fun dv dn =>
 (kAlloc dn #[Iv (0 : Int), Iv (0 : Int), Iv (0 : Int), Iv (0 : Int), Iv (0 : Int), Iv (0 : Int), Iv (0 : Int), Iv (0 : Int), .slice none 0 0, Iv (0 : Int), Iv (0 : Int), Iv (0 : Int), .bool false] Ty_api_Sender fun b cy =>
 (∃ bk bm bo bq bs bu bw bz : Int, ∃ l : OA, ∃ p n : Nat, ∃ b1 af ah : Int, ∃ aj : Bool, cellsAt cy ⟨dv, 0, none⟩ 0 [(Iv bk), (Iv bm), (Iv bo), (Iv bq), (Iv bs), (Iv bu), (Iv bw), (Iv bz), (.slice l p n), (Iv b1), (Iv af), (Iv ah), (.bool aj)] /\
 (CP N_sender_begin #[(.agg #[Iv bk, Iv bm, Iv bo, Iv bq, Iv bs, Iv bu, Iv bw, Iv bz, .slice l p n, Iv b1, Iv af, Iv ah, .bool aj])] cy fun dm cz =>
 ∃ am : OA, ∃ cl : Int, dm = .returned (.tuple #[(.pointer am), (Iv cl)]) /\
 (kLet (!decide (cl = (0 : Int))) fun dw =>
 (bsplit dw
 ((sxStore cz ⟨b, 0, none⟩ 0 [(Iv (0 : Int)), (Iv (0 : Int)), (Iv (0 : Int)), (Iv (0 : Int)), (Iv (0 : Int)), (Iv (0 : Int)), (Iv (0 : Int)), (Iv (0 : Int)), (.slice none 0 0), (Iv (0 : Int)), (Iv (0 : Int)), (Iv (0 : Int)), (.bool false)] fun c0 =>
 (∃ b4 b5 b6 b7 b8 b9 ca cb : Int, ∃ ab : OA, ∃ ad ac : Nat, ∃ cc aq ar : Int, ∃ au : Bool, cellsAt c0 ⟨b, 0, none⟩ 0 [(Iv b4), (Iv b5), (Iv b6), (Iv b7), (Iv b8), (Iv b9), (Iv ca), (Iv cb), (.slice ab ad ac), (Iv cc), (Iv aq), (Iv ar), (.bool au)] /\
 R (.tuple #[(.agg #[Iv b4, Iv b5, Iv b6, Iv b7, Iv b8, Iv b9, Iv ca, Iv cb, .slice ab ad ac, Iv cc, Iv aq, Iv ar, .bool au]), (Iv cl)]) c0)))
 ((CP N_sender_between #[(Iv (data_l : Int)), (Iv (1 : Int)), (Iv (2054 : Int))] cz fun cq c1 =>
 ∃ cu : Bool, cq = .returned (.bool cu) /\
 (bsplit (!cu)
 ((sxStore c1 ⟨b, 0, none⟩ 0 [(Iv (0 : Int)), (Iv (0 : Int)), (Iv (0 : Int)), (Iv (0 : Int)), (Iv (0 : Int)), (Iv (0 : Int)), (Iv (0 : Int)), (Iv (0 : Int)), (.slice none 0 0), (Iv (0 : Int)), (Iv (0 : Int)), (Iv (0 : Int)), (.bool false)] fun c2 =>
 (∃ an av ay a1 a4 a7 ba bd : Int, ∃ c : OA, ∃ i f : Nat, ∃ bg r u : Int, ∃ y : Bool, cellsAt c2 ⟨b, 0, none⟩ 0 [(Iv an), (Iv av), (Iv ay), (Iv a1), (Iv a4), (Iv a7), (Iv ba), (Iv bd), (.slice c i f), (Iv bg), (Iv r), (Iv u), (.bool y)] /\
 R (.tuple #[(.agg #[Iv an, Iv av, Iv ay, Iv a1, Iv a4, Iv a7, Iv ba, Iv bd, .slice c i f, Iv bg, Iv r, Iv u, .bool y]), (Iv (2 : Int))]) c2)))
 ((kDrew c1 fun b3 =>
 (∃ du : Nat -> Prop,
 (kNil am fun dp =>
 (kLd b3 (dp.add 7) .i64 fun dq =>
 (kNil am fun dd =>
 (du dd.block /\
 (kLd b3 dd .i64 fun dr =>
 (kW .i64 (dr - (1 : Int)) fun de =>
 (0 <= de /\ (kW .i64 ((1 : Int) * 2 ^ (min de.toNat (IntKind.bits .i64))) fun ds =>
 (CP N_sender_side_place #[(.pointer am), (Iv dq)] b3 fun cr cm =>
 ∃ cv : Int, cr = .returned (Iv cv) /\
 (KeepsB du b3 cm /\ (kLet (decide (cv = ds)) fun dt =>
 (bsplit dt
 ((sxStore cm ⟨b, 0, none⟩ 0 [(Iv (0 : Int)), (Iv (0 : Int)), (Iv (0 : Int)), (Iv (0 : Int)), (Iv (0 : Int)), (Iv (0 : Int)), (Iv (0 : Int)), (Iv (0 : Int)), (.slice none 0 0), (Iv (0 : Int)), (Iv (0 : Int)), (Iv (0 : Int)), (.bool false)] fun c3 =>
 (∃ ao aw az a2 a5 a8 bb be : Int, ∃ d : OA, ∃ j g : Nat, ∃ bh s v : Int, ∃ z : Bool, cellsAt c3 ⟨b, 0, none⟩ 0 [(Iv ao), (Iv aw), (Iv az), (Iv a2), (Iv a5), (Iv a8), (Iv bb), (Iv be), (.slice d j g), (Iv bh), (Iv s), (Iv v), (.bool z)] /\
 R (.tuple #[(.agg #[Iv ao, Iv aw, Iv az, Iv a2, Iv a5, Iv a8, Iv bb, Iv be, .slice d j g, Iv bh, Iv s, Iv v, .bool z]), (Iv (13 : Int))]) c3)))
 ((kDrew cm fun a =>
 (∃ al : Nat -> Prop,
 (kNil am fun df =>
 (al (df.add 8).block /\
 (kLdS a (df.add 8) fun dh dj di =>
 (kNil am fun dg =>
 (al (dg.add 7).block /\
 (kLd a (dg.add 7) .i64 fun c4 =>
 (CP N_slices_Clone_Sbyte_byte #[(.slice data_a data_l data_c)] a fun cs bj =>
 ∃ cd : OA, ∃ cf ce : Nat, cs = .returned (.slice cd cf ce) /\
 (KeepsB al a bj /\ (KeepsB al a bj /\ (kAlloc bj #[(Iv c4), (.slice cd cf ce), (Iv (0 : Int)), (Iv (0 : Int)), (.slice none 0 0)] Ty_api_Unit fun dl cg =>
 (KeepsB al a cg /\ (AppP Tryz.prog #[Ty_S_api_Unit, Ty_S_api_Unit] Ty_S_api_Unit #[(.slice dh dj di), (.slice (some ⟨dl, 0, none⟩) 1 1)] cg fun cn cp co ch =>
 (KeepsB al a ch /\ (kNil am fun c5 =>
 (kSet ch (c5.add 8) (.slice cn cp co) fun cx =>
 (kDrew cx fun ae =>
 (∃ dk : Nat -> Prop,
 (kNil am fun c6 =>
 (kLd ae c6 .i64 fun c7 =>
 (kNil am fun c8 =>
 (kLd ae (c8.add 7) .i64 fun c9 =>
 (kW .i64 (c9 + (1 : Int)) fun da =>
 (CP N_serial_Low #[(Iv c7), (Iv da)] ae fun ct ci =>
 ∃ cw : Int, ct = .returned (Iv cw) /\
 (KeepsB dk ae ci /\ (kNil am fun db =>
 (kSet ci (db.add 7) (Iv cw) fun cj =>
 (kNil am fun dc =>
 (∃ bl bn bp br bt bv bx b0 : Int, ∃ m : OA, ∃ q o : Nat, ∃ b2 ag ai : Int, ∃ ak : Bool, cellsAt cj dc 0 [(Iv bl), (Iv bn), (Iv bp), (Iv br), (Iv bt), (Iv bv), (Iv bx), (Iv b0), (.slice m q o), (Iv b2), (Iv ag), (Iv ai), (.bool ak)] /\
 (sxStore cj ⟨b, 0, none⟩ 0 [(Iv bl), (Iv bn), (Iv bp), (Iv br), (Iv bt), (Iv bv), (Iv bx), (Iv b0), (.slice m q o), (Iv b2), (Iv ag), (Iv ai), (.bool ak)] fun ck =>
 (∃ ap ax a0 a3 a6 a9 bc bf : Int, ∃ e : OA, ∃ k h : Nat, ∃ bi t x : Int, ∃ aa : Bool, cellsAt ck ⟨b, 0, none⟩ 0 [(Iv ap), (Iv ax), (Iv a0), (Iv a3), (Iv a6), (Iv a9), (Iv bc), (Iv bf), (.slice e k h), (Iv bi), (Iv t), (Iv x), (.bool aa)] /\
 R (.tuple #[(.agg #[Iv ap, Iv ax, Iv a0, Iv a3, Iv a6, Iv a9, Iv bc, Iv bf, .slice e k h, Iv bi, Iv t, Iv x, .bool aa]), (Iv (0 : Int))]) ck)))))))))))))))))))))))))))))))))))))))))))))))))))))))))
theorem F_sender_Submit_ok {R : EP} (x_0 x_1 x_2 x_3 x_4 x_5 x_6 x_7 : Int) (x_8_a : OA) (x_8_l x_8_c : Nat) (x_9 x_10 x_11 : Int) (x_12 : Bool) (data_a : OA) (data_l data_c : Nat) (w : World) (h : F_sender_Submit x_0 x_1 x_2 x_3 x_4 x_5 x_6 x_7 x_8_a x_8_l x_8_c x_9 x_10 x_11 x_12 data_a data_l data_c w fun v w' => R (.returned v) w') : CP N_sender_Submit #[(.agg #[Iv x_0, Iv x_1, Iv x_2, Iv x_3, Iv x_4, Iv x_5, Iv x_6, Iv x_7, .slice x_8_a x_8_l x_8_c, Iv x_9, Iv x_10, Iv x_11, .bool x_12]), (.slice data_a data_l data_c)] w R :=
 calls_of (k := TTk) (h := h_sender_Submit) (f := 99) follows_ok Tryz.func99 (Eq.mpr (by kernel_rfl) h)

def h_sender_Build : H := (sr (sr (.seq sc (sr (.seq (.block (sr (.cond sl sc))) (sr (sr (.cut [(12, .p .addr)] ([12] ++ rg 47 28) (.draw .blk (so 0 15 (so 16 11 (.alt 15 (.alt 27 (ko 28 1 (lo 29 1 .nil)) (.alt 28 (ko 27 1 (lo 29 1 .nil)) .endAlt)) (.alt 28 (ko 15 1 (ko 27 1 (lo 29 1 .nil))) .endAlt))))) (.cut [(8, .p (.int .i64)), (13, .p .addr)] ([8, 13, 14] ++ rg 75 13) (.draw .blk (so 0 8 (.alt 8 (so 9 4 (.alt 13 (ko 14 3 (so 17 1 .nil)) (.alt 14 (ko 13 1 (ko 15 2 (so 17 1 .nil))) .endAlt))) (.alt 13 (.alt 8 (so 9 4 (ko 14 3 (so 17 1 .nil))) (.alt 14 (ko 8 1 (so 9 4 (ko 15 2 (so 17 1 .nil)))) .endAlt)) (.alt 14 (.alt 8 (so 9 4 (ko 13 1 (ko 15 2 (so 17 1 .nil)))) (.alt 13 (ko 8 1 (so 9 4 (ko 15 2 (so 17 1 .nil)))) .endAlt)) .endAlt))))) (.seq sc (sr (sr (.cut [] (rg 106 19) (.seq (.draw .blk (po 0 14 (ko 14 1 (so 15 2 .nil)))) (.cond .reg .leaf)) (.seq (.draw .blk (po 0 7 (ko 7 1 (so 8 5 .nil)))) sl))))))))))))))
def F_sender_Build (x_0 x_1 x_2 x_3 x_4 x_5 x_6 x_7 : Int) (x_8_a : OA) (x_8_l x_8_c : Nat) (x_9 x_10 x_11 : Int) (x_12 : Bool) (size : Int) (w : World) (R : Value -> WP) : Prop :=
 (kAlloc w #[(Iv x_0), (Iv x_1), (Iv x_2), (Iv x_3), (Iv x_4), (Iv x_5), (Iv x_6), (Iv x_7), (.slice x_8_a x_8_l x_8_c), (Iv x_9), (Iv x_10), (Iv x_11), (.bool x_12)] Ty_api_Sender fun je ja =>
 (kAlloc ja #[Iv (0 : Int), Iv (0 : Int), Iv (0 : Int), Iv (0 : Int), Iv (0 : Int), Iv (0 : Int), Iv (0 : Int), Iv (0 : Int), .slice none 0 0, Iv (0 : Int), Iv (0 : Int), Iv (0 : Int), .bool false] Ty_api_Sender fun u ie =>
 (∃ e6 fa fd fh fl fn fp fr : Int, ∃ bk : OA, ∃ bo bm : Nat, ∃ ft cw cy : Int, ∃ c0 : Bool, cellsAt ie ⟨je, 0, none⟩ 0 [(Iv e6), (Iv fa), (Iv fd), (Iv fh), (Iv fl), (Iv fn), (Iv fp), (Iv fr), (.slice bk bo bm), (Iv ft), (Iv cw), (Iv cy), (.bool c0)] /\
 (CP N_sender_begin #[(.agg #[Iv e6, Iv fa, Iv fd, Iv fh, Iv fl, Iv fn, Iv fp, Iv fr, .slice bk bo bm, Iv ft, Iv cw, Iv cy, .bool c0])] ie fun i9 ih =>
 ∃ c8 : OA, ∃ hf : Int, i9 = .returned (.tuple #[(.pointer c8), (Iv hf)]) /\
 (bsplit (!decide (hf = (0 : Int)))
 ((sxStore ih ⟨u, 0, none⟩ 0 [(Iv (0 : Int)), (Iv (0 : Int)), (Iv (0 : Int)), (Iv (0 : Int)), (Iv (0 : Int)), (Iv (0 : Int)), (Iv (0 : Int)), (Iv (0 : Int)), (.slice none 0 0), (Iv (0 : Int)), (Iv (0 : Int)), (Iv (0 : Int)), (.bool false)] fun ii =>
 (∃ f1 f2 f3 f4 f5 f6 f7 f8 : Int, ∃ cq : OA, ∃ cs cr : Nat, ∃ f9 dk dl : Int, ∃ dm : Bool, cellsAt ii ⟨u, 0, none⟩ 0 [(Iv f1), (Iv f2), (Iv f3), (Iv f4), (Iv f5), (Iv f6), (Iv f7), (Iv f8), (.slice cq cs cr), (Iv f9), (Iv dk), (Iv dl), (.bool dm)] /\
 R (.tuple #[(.agg #[Iv f1, Iv f2, Iv f3, Iv f4, Iv f5, Iv f6, Iv f7, Iv f8, .slice cq cs cr, Iv f9, Iv dk, Iv dl, .bool dm]), (.slice none 0 0), (Iv hf)]) ii)))
 ((CP N_sender_side_left #[(.pointer c8)] ih fun hu jb =>
 ∃ m : Int, hu = .returned (Iv m) /\
 (CP N_sender_between #[(Iv size), (Iv (0 : Int)), (Iv (4096 : Int))] jb fun hv e3 =>
 ∃ h4 : Bool, hv = .returned (.bool h4) /\
 (bsplit (!h4)
 ((sxStore e3 ⟨u, 0, none⟩ 0 [(Iv (0 : Int)), (Iv (0 : Int)), (Iv (0 : Int)), (Iv (0 : Int)), (Iv (0 : Int)), (Iv (0 : Int)), (Iv (0 : Int)), (Iv (0 : Int)), (.slice none 0 0), (Iv (0 : Int)), (Iv (0 : Int)), (Iv (0 : Int)), (.bool false)] fun im =>
 (∃ db dn dv d4 ed eh el ep : Int, ∃ a4 : OA, ∃ bc a8 : Nat, ∃ et bz b4 : Int, ∃ cc : Bool, cellsAt im ⟨u, 0, none⟩ 0 [(Iv db), (Iv dn), (Iv dv), (Iv d4), (Iv ed), (Iv eh), (Iv el), (Iv ep), (.slice a4 bc a8), (Iv et), (Iv bz), (Iv b4), (.bool cc)] /\
 R (.tuple #[(.agg #[Iv db, Iv dn, Iv dv, Iv d4, Iv ed, Iv eh, Iv el, Iv ep, .slice a4 bc a8, Iv et, Iv bz, Iv b4, .bool cc]), (.slice none 0 0), (Iv (3 : Int))]) im)))
 ((kLet (decide (m < (0 : Int))) fun jf =>
 (bsplit jf
 ((sxStore e3 ⟨u, 0, none⟩ 0 [(Iv (0 : Int)), (Iv (0 : Int)), (Iv (0 : Int)), (Iv (0 : Int)), (Iv (0 : Int)), (Iv (0 : Int)), (Iv (0 : Int)), (Iv (0 : Int)), (.slice none 0 0), (Iv (0 : Int)), (Iv (0 : Int)), (Iv (0 : Int)), (.bool false)] fun io =>
 (∃ dc dp dw d5 ee ei em eq : Int, ∃ a5 : OA, ∃ bd a9 : Nat, ∃ eu b0 b5 : Int, ∃ cd : Bool, cellsAt io ⟨u, 0, none⟩ 0 [(Iv dc), (Iv dp), (Iv dw), (Iv d5), (Iv ee), (Iv ei), (Iv em), (Iv eq), (.slice a5 bd a9), (Iv eu), (Iv b0), (Iv b5), (.bool cd)] /\
 R (.tuple #[(.agg #[Iv dc, Iv dp, Iv dw, Iv d5, Iv ee, Iv ei, Iv em, Iv eq, .slice a5 bd a9, Iv eu, Iv b0, Iv b5, .bool cd]), (.slice none 0 0), (Iv (14 : Int))]) io)))
 ((kNil c8 fun jd =>
 (kLdS e3 (jd.add 8) fun i4 i5 _ =>
 (kIx i4 i5 m fun af =>
 (∃ e7 : Int, ∃ c2 : OA, ∃ c4 c3 : Nat, ∃ fe fi : Int, ∃ c5 : OA, ∃ c7 c6 : Nat, cellsAt e3 (af.add (m.toNat * 5)) 0 [(Iv e7), (.slice c2 c4 c3), (Iv fe), (Iv fi), (.slice c5 c7 c6)] /\
 (CP N_sender_part #[(.agg #[Iv e7, .slice c2 c4 c3, Iv fe, Iv fi, .slice c5 c7 c6])] e3 fun hw jc =>
 ∃ dd dq dx : Int, hw = .returned (.agg #[Iv dd, Iv dq, Iv dx]) /\
 (kAlloc jc #[Iv (0 : Int), Iv (0 : Int), Iv (0 : Int)] Ty_api_Range fun l ia =>
 (sxStore ia ⟨l, 0, none⟩ 0 [(Iv dd), (Iv dq), (Iv dx)] fun ib =>
 (∃ i6 : Addr -> WP,
 (∀ (_ : Env) (ae : Addr) (gf : World), i6 ae gf ->
 (∃ br : Int -> Addr -> WP,
 (∀ (_ : Env) (g8 : Int) (h3 : Addr) (cu : World), br g8 h3 cu ->
 (bsplit (!decide (g8 = (0 : Int)))
 ((sxStore cu ⟨u, 0, none⟩ 0 [(Iv (0 : Int)), (Iv (0 : Int)), (Iv (0 : Int)), (Iv (0 : Int)), (Iv (0 : Int)), (Iv (0 : Int)), (Iv (0 : Int)), (Iv (0 : Int)), (.slice none 0 0), (Iv (0 : Int)), (Iv (0 : Int)), (Iv (0 : Int)), (.bool false)] fun g4 =>
 (∃ bw b9 ci cl ef ej en er : Int, ∃ a6 : OA, ∃ be ba : Nat, ∃ ev b1 ca : Int, ∃ ce : Bool, cellsAt g4 ⟨u, 0, none⟩ 0 [(Iv bw), (Iv b9), (Iv ci), (Iv cl), (Iv ef), (Iv ej), (Iv en), (Iv er), (.slice a6 be ba), (Iv ev), (Iv b1), (Iv ca), (.bool ce)] /\
 R (.tuple #[(.agg #[Iv bw, Iv b9, Iv ci, Iv cl, Iv ef, Iv ej, Iv en, Iv er, .slice a6 be ba, Iv ev, Iv b1, Iv ca, .bool ce]), (.slice none 0 0), (Iv g8)]) g4)))
 ((kLdS cu (h3.add 4) fun _ hj _ =>
 (CP N_sender_take #[(.pointer (some (af.add (m.toNat * 5)))), (Iv (hj : Int))] cu fun ha g5 =>
 ha = .returned (.tuple #[]) /\
 (kNil c8 fun ip =>
 (kLd g5 (ip.add 9) .i64 fun iq =>
 (kW .i64 (iq + (1 : Int)) fun ir =>
 (kNil c8 fun it =>
 (kSet g5 (it.add 9) (Iv ir) fun ij =>
 (∃ fw : WP,
 (∀ (_ : Env)  (g6 : World), fw g6 ->
 (kDrew g6 fun cv =>
 (∃ i8 : Nat -> Prop,
 (kNil c8 fun iy =>
 (kLd cv iy .i64 fun iz =>
 (∃ e8 fb ff fj : Int, ∃ bh : OA, ∃ bj bi : Nat, cellsAt cv h3 0 [(Iv e8), (Iv fb), (Iv ff), (Iv fj), (.slice bh bj bi)] /\
 (CP N_segment_Encode #[(Iv iz), (.agg #[Iv e8, Iv fb, Iv ff, Iv fj, .slice bh bj bi])] cv fun he e4 =>
 ∃ ga : OA, ∃ gc gb : Nat, ∃ f0 : Int, he = .returned (.tuple #[(.slice ga gc gb), (Iv f0)]) /\
 (KeepsB i8 cv e4 /\ (kNil c8 fun i0 =>
 (∃ e9 fc fg fk fm fo fq fs : Int, ∃ bl : OA, ∃ bp bn : Nat, ∃ fu cx cz : Int, ∃ c1 : Bool, cellsAt e4 i0 0 [(Iv e9), (Iv fc), (Iv fg), (Iv fk), (Iv fm), (Iv fo), (Iv fq), (Iv fs), (.slice bl bp bn), (Iv fu), (Iv cx), (Iv cz), (.bool c1)] /\
 (sxStore e4 ⟨u, 0, none⟩ 0 [(Iv e9), (Iv fc), (Iv fg), (Iv fk), (Iv fm), (Iv fo), (Iv fq), (Iv fs), (.slice bl bp bn), (Iv fu), (Iv cx), (Iv cz), (.bool c1)] fun g7 =>
 (∃ bx cb cj cm eg ek eo es : Int, ∃ a7 : OA, ∃ bf bb : Nat, ∃ ew b2 ag : Int, ∃ cf : Bool, cellsAt g7 ⟨u, 0, none⟩ 0 [(Iv bx), (Iv cb), (Iv cj), (Iv cm), (Iv eg), (Iv ek), (Iv eo), (Iv es), (.slice a7 bf bb), (Iv ew), (Iv b2), (Iv ag), (.bool cf)] /\
 R (.tuple #[(.agg #[Iv bx, Iv cb, Iv cj, Iv cm, Iv eg, Iv ek, Iv eo, Iv es, .slice a7 bf bb, Iv ew, Iv b2, Iv ag, .bool cf]), (.slice ga gc gb), (Iv f0)]) g7)))))))))))) /\
 (kDrew ij fun bg =>
 (∃ i7 : Nat -> Prop,
 (kNil c8 fun iu =>
 (kLd bg (iu.add 9) .i64 fun iv =>
 (kNil c8 fun iw =>
 (kLd bg (iw.add 1) .i64 fun ix =>
 (bsplit (decide (iv = ix))
 ((CP N_sender_side_ask #[(.pointer c8), (.pointer (some h3))] bg fun hb ik =>
 hb = .returned (.tuple #[]) /\
 fw ik))
 ((CP N_sender_side_left #[(.pointer c8)] bg fun hc e2 =>
 ∃ fz : Int, hc = .returned (Iv fz) /\
 (KeepsB i7 bg e2 /\ (bsplit (decide (fz < (0 : Int)))
 ((CP N_sender_side_ask #[(.pointer c8), (.pointer (some h3))] e2 fun hd il =>
 hd = .returned (.tuple #[]) /\
 fw il))
 (fw e2))))))))))))))))))))))) /\
 (kDrew gf fun a =>
 (∃ b : Nat -> Prop,
 (kNil c8 fun i3 =>
 (b i3.block /\
 (kLd a i3 .i64 fun e5 =>
 (b ae.block /\
 (∃ h i j k : Int, ∃ d : OA, ∃ f e : Nat, cellsAt a ae 0 [(Iv h), (Iv i), (Iv j), (Iv k), (.slice d f e)] /\
 ((CP N_segment_Cut #[(Iv e5), (.agg #[Iv h, Iv i, Iv j, Iv k, .slice d f e]), (Iv size)] a fun g9 e1 =>
 ∃ v y aa ac : Int, ∃ n : OA, ∃ r p : Nat, ∃ x z ab ad : Int, ∃ o : OA, ∃ s q : Nat, ∃ da : Int, g9 = .returned (.tuple #[(.agg #[Iv v, Iv y, Iv aa, Iv ac, .slice n r p]), (.agg #[Iv x, Iv z, Iv ab, Iv ad, .slice o s q]), (Iv da)]) /\
 (KeepsB b a e1 /\ ((kAlloc e1 #[Iv (0 : Int), Iv (0 : Int), Iv (0 : Int), Iv (0 : Int), .slice none 0 0] Ty_api_Piece fun fy g0 =>
 (KeepsB b a g0 /\ (kAlloc g0 #[Iv (0 : Int), Iv (0 : Int), Iv (0 : Int), Iv (0 : Int), .slice none 0 0] Ty_api_Piece fun hn g1 =>
 (KeepsB b a g1 /\ (sxStore g1 ⟨fy, 0, none⟩ 0 [(Iv v), (Iv y), (Iv aa), (Iv ac), (.slice n r p)] fun g2 =>
 (KeepsB b a g2 /\ (sxStore g2 ⟨hn, 0, none⟩ 0 [(Iv x), (Iv z), (Iv ab), (Iv ad), (.slice o s q)] fun g3 =>
 (KeepsB b a g3 /\ br da ⟨fy, 0, none⟩ g3)))))))) /\
 ((kAlloc e1 #[Iv (0 : Int), Iv (0 : Int), Iv (0 : Int), Iv (0 : Int), .slice none 0 0] Ty_api_Piece fun hm gw =>
 (KeepsB b a gw /\ (kAlloc gw #[Iv (0 : Int), Iv (0 : Int), Iv (0 : Int), Iv (0 : Int), .slice none 0 0] Ty_api_Piece fun fx gx =>
 (KeepsB b a gx /\ (sxStore gx ⟨fx, 0, none⟩ 0 [(Iv v), (Iv y), (Iv aa), (Iv ac), (.slice n r p)] fun gy =>
 (KeepsB b a gy /\ (sxStore gy ⟨hm, 0, none⟩ 0 [(Iv x), (Iv z), (Iv ab), (Iv ad), (.slice o s q)] fun gz =>
 (KeepsB b a gz /\ br da ⟨fx, 0, none⟩ gz)))))))) /\
 True)))) /\
 ((kAlloc a #[Iv (0 : Int), Iv (0 : Int), Iv (0 : Int), Iv (0 : Int), .slice none 0 0] Ty_api_Piece fun bt e0 =>
 (KeepsB b a e0 /\ ((CP N_segment_Cut #[(Iv e5), (.agg #[Iv h, Iv i, Iv j, Iv k, .slice d f e]), (Iv size)] e0 fun h2 gs =>
 ∃ bu b7 cg ec : Int, ∃ am : OA, ∃ a2 av : Nat, ∃ bv b8 ch ck : Int, ∃ an : OA, ∃ a3 aw : Nat, ∃ h9 : Int, h2 = .returned (.tuple #[(.agg #[Iv bu, Iv b7, Iv cg, Iv ec, .slice am a2 av]), (.agg #[Iv bv, Iv b8, Iv ch, Iv ck, .slice an a3 aw]), (Iv h9)]) /\
 (KeepsB b a gs /\ (kAlloc gs #[Iv (0 : Int), Iv (0 : Int), Iv (0 : Int), Iv (0 : Int), .slice none 0 0] Ty_api_Piece fun hl gt =>
 (KeepsB b a gt /\ (sxStore gt ⟨bt, 0, none⟩ 0 [(Iv bu), (Iv b7), (Iv cg), (Iv ec), (.slice am a2 av)] fun gu =>
 (KeepsB b a gu /\ (sxStore gu ⟨hl, 0, none⟩ 0 [(Iv bv), (Iv b8), (Iv ch), (Iv ck), (.slice an a3 aw)] fun gv =>
 (KeepsB b a gv /\ br h9 ⟨bt, 0, none⟩ gv)))))))) /\
 ((kAlloc e0 #[Iv (0 : Int), Iv (0 : Int), Iv (0 : Int), Iv (0 : Int), .slice none 0 0] Ty_api_Piece fun hk go =>
 (KeepsB b a go /\ (CP N_segment_Cut #[(Iv e5), (.agg #[Iv h, Iv i, Iv j, Iv k, .slice d f e]), (Iv size)] go fun h1 gp =>
 ∃ di b3 d2 ea : Int, ∃ ak : OA, ∃ a0 ar : Nat, ∃ dj b6 d3 eb : Int, ∃ al : OA, ∃ a1 au : Nat, ∃ h8 : Int, h1 = .returned (.tuple #[(.agg #[Iv di, Iv b3, Iv d2, Iv ea, .slice ak a0 ar]), (.agg #[Iv dj, Iv b6, Iv d3, Iv eb, .slice al a1 au]), (Iv h8)]) /\
 (KeepsB b a gp /\ (sxStore gp ⟨bt, 0, none⟩ 0 [(Iv di), (Iv b3), (Iv d2), (Iv ea), (.slice ak a0 ar)] fun gq =>
 (KeepsB b a gq /\ (sxStore gq ⟨hk, 0, none⟩ 0 [(Iv dj), (Iv b6), (Iv d3), (Iv eb), (.slice al a1 au)] fun gr =>
 (KeepsB b a gr /\ br h8 ⟨bt, 0, none⟩ gr)))))))) /\
 True)))) /\
 ((kAlloc a #[Iv (0 : Int), Iv (0 : Int), Iv (0 : Int), Iv (0 : Int), .slice none 0 0] Ty_api_Piece fun hr ez =>
 (KeepsB b a ez /\ ((CP N_segment_Cut #[(Iv e5), (.agg #[Iv h, Iv i, Iv j, Iv k, .slice d f e]), (Iv size)] ez fun h0 gk =>
 ∃ dg dt d0 d8 : Int, ∃ ai : OA, ∃ ay ap : Nat, ∃ dh du d1 d9 : Int, ∃ aj : OA, ∃ az aq : Nat, ∃ h7 : Int, h0 = .returned (.tuple #[(.agg #[Iv dg, Iv dt, Iv d0, Iv d8, .slice ai ay ap]), (.agg #[Iv dh, Iv du, Iv d1, Iv d9, .slice aj az aq]), (Iv h7)]) /\
 (KeepsB b a gk /\ (kAlloc gk #[Iv (0 : Int), Iv (0 : Int), Iv (0 : Int), Iv (0 : Int), .slice none 0 0] Ty_api_Piece fun ht gl =>
 (KeepsB b a gl /\ (sxStore gl ⟨ht, 0, none⟩ 0 [(Iv dg), (Iv dt), (Iv d0), (Iv d8), (.slice ai ay ap)] fun gm =>
 (KeepsB b a gm /\ (sxStore gm ⟨hr, 0, none⟩ 0 [(Iv dh), (Iv du), (Iv d1), (Iv d9), (.slice aj az aq)] fun gn =>
 (KeepsB b a gn /\ br h7 ⟨ht, 0, none⟩ gn)))))))) /\
 ((kAlloc ez #[Iv (0 : Int), Iv (0 : Int), Iv (0 : Int), Iv (0 : Int), .slice none 0 0] Ty_api_Piece fun hs gg =>
 (KeepsB b a gg /\ (CP N_segment_Cut #[(Iv e5), (.agg #[Iv h, Iv i, Iv j, Iv k, .slice d f e]), (Iv size)] gg fun hz gh =>
 ∃ de dr dy d6 : Int, ∃ cn : OA, ∃ cp co : Nat, ∃ df ds dz d7 : Int, ∃ ah : OA, ∃ ax ao : Nat, ∃ h6 : Int, hz = .returned (.tuple #[(.agg #[Iv de, Iv dr, Iv dy, Iv d6, .slice cn cp co]), (.agg #[Iv df, Iv ds, Iv dz, Iv d7, .slice ah ax ao]), (Iv h6)]) /\
 (KeepsB b a gh /\ (sxStore gh ⟨hs, 0, none⟩ 0 [(Iv de), (Iv dr), (Iv dy), (Iv d6), (.slice cn cp co)] fun gi =>
 (KeepsB b a gi /\ (sxStore gi ⟨hr, 0, none⟩ 0 [(Iv df), (Iv ds), (Iv dz), (Iv d7), (.slice ah ax ao)] fun gj =>
 (KeepsB b a gj /\ br h6 ⟨hs, 0, none⟩ gj)))))))) /\
 True)))) /\
 True)))))))))))) /\
 (kDrew ib fun c =>
 (∃ bq : Nat -> Prop,
 (bq (af.add (m.toNat * 5)).block /\
 (kLd c (af.add (m.toNat * 5)) .i64 fun hh =>
 (bq l /\
 (kLd c ⟨l, 1, none⟩ .i64 fun i1 =>
 (bq l /\
 (kLd c ⟨l, 2, none⟩ .i64 fun i2 =>
 (bq ((af.add (m.toNat * 5)).add 1).block /\
 (kLdS c ((af.add (m.toNat * 5)).add 1) fun _ fv _ =>
 (bq l /\
 (kLd c ⟨l, 1, none⟩ .i64 fun hi =>
 (bq ((af.add (m.toNat * 5)).add 1).block /\
 (kLdS c ((af.add (m.toNat * 5)).add 1) fun bs _ g =>
 (bq l /\
 (kLd c ⟨l, 1, none⟩ .i64 fun t =>
 (bq l /\
 (kLd c ⟨l, 2, none⟩ .i64 fun c9 =>
 ((0 <= c9 /\ c9 <= ((g : Nat) : Int)) /\ ((0 <= t /\ t <= ((c9.toNat : Nat) : Int)) /\ ((CP N_segment_Part #[(.bool (decide (i1 = (0 : Int)))), (.bool (decide (i2 = (fv : Int))))] c fun hy ct =>
 ∃ hg : Int, hy = .returned (Iv hg) /\
 (KeepsB bq c ct /\ ((KeepsB bq c ct /\ (kAlloc ct #[Iv (0 : Int), Iv (0 : Int), Iv (0 : Int), Iv (0 : Int), .slice none 0 0] Ty_api_Piece fun hq ge =>
 (KeepsB bq c ge /\ (sxStore ge ⟨hq, 0, none⟩ 0 [(Iv hh), (Iv hg), (Iv (0 : Int)), (Iv hi), (.slice (slAddr g (t.toNat) 1 bs) (c9.toNat - t.toNat) (g - t.toNat))] fun ig =>
 i6 ⟨hq, 0, none⟩ ig)))) /\
 ((kAlloc ct #[Iv (0 : Int), Iv (0 : Int), Iv (0 : Int), Iv (0 : Int), .slice none 0 0] Ty_api_Piece fun hp ey =>
 (KeepsB bq c ey /\ (KeepsB bq c ey /\ (sxStore ey ⟨hp, 0, none⟩ 0 [(Iv hh), (Iv hg), (Iv (0 : Int)), (Iv hi), (.slice (slAddr g (t.toNat) 1 bs) (c9.toNat - t.toNat) (g - t.toNat))] fun id =>
 i6 ⟨hp, 0, none⟩ id)))) /\
 True)))) /\
 ((kAlloc c #[Iv (0 : Int), Iv (0 : Int), Iv (0 : Int), Iv (0 : Int), .slice none 0 0] Ty_api_Piece fun ho gd =>
 (KeepsB bq c gd /\ (CP N_segment_Part #[(.bool (decide (i1 = (0 : Int)))), (.bool (decide (i2 = (fv : Int))))] gd fun hx ex =>
 ∃ h5 : Int, hx = .returned (Iv h5) /\
 (KeepsB bq c ex /\ (KeepsB bq c ex /\ (sxStore ex ⟨ho, 0, none⟩ 0 [(Iv hh), (Iv h5), (Iv (0 : Int)), (Iv hi), (.slice (slAddr g (t.toNat) 1 bs) (c9.toNat - t.toNat) (g - t.toNat))] fun ic =>
 i6 ⟨ho, 0, none⟩ ic)))))) /\
 True)))))))))))))))))))))))))))))))))))))))))))
theorem F_sender_Build_ok {R : EP} (x_0 x_1 x_2 x_3 x_4 x_5 x_6 x_7 : Int) (x_8_a : OA) (x_8_l x_8_c : Nat) (x_9 x_10 x_11 : Int) (x_12 : Bool) (size : Int) (w : World) (h : F_sender_Build x_0 x_1 x_2 x_3 x_4 x_5 x_6 x_7 x_8_a x_8_l x_8_c x_9 x_10 x_11 x_12 size w fun v w' => R (.returned v) w') : CP N_sender_Build #[(.agg #[Iv x_0, Iv x_1, Iv x_2, Iv x_3, Iv x_4, Iv x_5, Iv x_6, Iv x_7, .slice x_8_a x_8_l x_8_c, Iv x_9, Iv x_10, Iv x_11, .bool x_12]), (Iv size)] w R :=
 calls_of (k := TTk) (h := h_sender_Build) (f := 100) follows_ok Tryz.func100 (Eq.mpr (by kernel_rfl) h)

def h_amlink_queue_put : H := .reg
def F_amlink_queue_put (q_b q_o : Nat) (b_a : OA) (b_l b_c : Nat) (w : World) (R : Value -> WP) : Prop :=
 (kLdS w ⟨q_b, q_o, none⟩ fun d f e =>
 (kAlloc w #[(.slice b_a b_l b_c)] Ty_S_uint8 fun j g =>
 (AppP Tryz.prog #[Ty_amlink_queue, Ty_amlink_queue] Ty_amlink_queue #[(.slice d f e), (.slice (some ⟨j, 0, none⟩) 1 1)] g fun a c b h =>
 (kSet h ⟨q_b, q_o, none⟩ (.slice a c b) fun i =>
 R (.tuple #[]) i))))
theorem F_amlink_queue_put_ok {R : EP} (q_b q_o : Nat) (b_a : OA) (b_l b_c : Nat) (w : World) (h : F_amlink_queue_put q_b q_o b_a b_l b_c w fun v w' => R (.returned v) w') : CP N_amlink_queue_put #[(.pointer (some ⟨q_b, q_o, none⟩)), (.slice b_a b_l b_c)] w R :=
 calls_of (k := TTk) (h := h_amlink_queue_put) (f := 101) follows_ok Tryz.func101 (Eq.mpr (by kernel_rfl) h)

def h_receiver_Report : H := (sr (sr (.cut [] ([5, 6] ++ rg 16 23) (.block (sr (.cond sl (.cut [(21, .p .bool)] (rg 21 7) .reg (.cond sl sc))))) (.seq (sr sc) (sr (sr (.seq (.draw .blk (po 0 1 (so 1 4 (po 5 3 (ko 8 1 (so 9 3 (lo 12 1 .nil))))))) sl)))))))
def F_receiver_Report (r_0 r_1 r_2 r_3 r_4 r_5 r_6 r_7 r_8 r_9 r_10 r_11 : Int) (r_12 : Bool) (r_13_a : OA) (r_13_l r_13_c : Nat) (size : Int) (w : World) (R : Value -> WP) : Prop :=
 (kAlloc w #[(Iv r_0), (Iv r_1), (Iv r_2), (Iv r_3), (Iv r_4), (Iv r_5), (Iv r_6), (Iv r_7), (Iv r_8), (Iv r_9), (Iv r_10), (Iv r_11), (.bool r_12), (.slice r_13_a r_13_l r_13_c)] Ty_api_Receiver fun d2 e4 =>
 (kAlloc e4 #[Iv (0 : Int), Iv (0 : Int), Iv (0 : Int), Iv (0 : Int), Iv (0 : Int), Iv (0 : Int), Iv (0 : Int), Iv (0 : Int), Iv (0 : Int), Iv (0 : Int), Iv (0 : Int), Iv (0 : Int), .bool false, .slice none 0 0] Ty_api_Receiver fun a ev =>
 (∃ ec ed ee ef eg eh ei ej ek el de df : Int, ∃ dg : Bool, ∃ ad : OA, ∃ af ae : Nat, cellsAt ev ⟨d2, 0, none⟩ 0 [(Iv ec), (Iv ed), (Iv ee), (Iv ef), (Iv eg), (Iv eh), (Iv ei), (Iv ej), (Iv ek), (Iv el), (Iv de), (Iv df), (.bool dg), (.slice ad af ae)] /\
 (CP N_receiver_Status #[(.agg #[Iv ec, Iv ed, Iv ee, Iv ef, Iv eg, Iv eh, Iv ei, Iv ej, Iv ek, Iv el, Iv de, Iv df, .bool dg, .slice ad af ae])] ev fun e2 e5 =>
 ∃ bi : Int, ∃ a4 : OA, ∃ a6 a5 : Nat, ∃ e3 : Int, e2 = .returned (.tuple #[(.agg #[Iv bi, .slice a4 a6 a5]), (Iv e3)]) /\
 (kAlloc e5 #[Iv (0 : Int), .slice none 0 0] Ty_api_Status fun d0 e6 =>
 (sxStore e6 ⟨d0, 0, none⟩ 0 [(Iv bi), (.slice a4 a6 a5)] fun eo =>
 (∃ ff : WP,
 (∀ (_ : Env)  (a7 : World), ff a7 ->
 (kLd a7 ⟨d2, 0, none⟩ .i64 fun fb =>
 (∃ da : Int, ∃ bf : OA, ∃ bh bg : Nat, cellsAt a7 ⟨d0, 0, none⟩ 0 [(Iv da), (.slice bf bh bg)] /\
 (CP N_status_Fit #[(Iv fb), (.agg #[Iv da, .slice bf bh bg]), (Iv size)] a7 fun ep et =>
 ∃ bn : Int, ∃ aa : OA, ∃ ac ab : Nat, ∃ en : Int, ep = .returned (.tuple #[(.agg #[Iv bn, .slice aa ac ab]), (Iv en)]) /\
 (sxStore et ⟨d0, 0, none⟩ 0 [(Iv bn), (.slice aa ac ab)] fun a8 =>
 (bsplit (!decide (en = (0 : Int)))
 ((sxStore a8 ⟨a, 0, none⟩ 0 [(Iv (0 : Int)), (Iv (0 : Int)), (Iv (0 : Int)), (Iv (0 : Int)), (Iv (0 : Int)), (Iv (0 : Int)), (Iv (0 : Int)), (Iv (0 : Int)), (Iv (0 : Int)), (Iv (0 : Int)), (Iv (0 : Int)), (Iv (0 : Int)), (.bool false), (.slice none 0 0)] fun d7 =>
 (∃ bo bu b1 b7 cd cj cp cv c1 c7 ao aw : Int, ∃ a2 : Bool, ∃ f : OA, ∃ r l : Nat, cellsAt d7 ⟨a, 0, none⟩ 0 [(Iv bo), (Iv bu), (Iv b1), (Iv b7), (Iv cd), (Iv cj), (Iv cp), (Iv cv), (Iv c1), (Iv c7), (Iv ao), (Iv aw), (.bool a2), (.slice f r l)] /\
 R (.tuple #[(.agg #[Iv bo, Iv bu, Iv b1, Iv b7, Iv cd, Iv cj, Iv cp, Iv cv, Iv c1, Iv c7, Iv ao, Iv aw, .bool a2, .slice f r l]), (.slice none 0 0), (Iv en)]) d7)))
 ((kLd a8 ⟨d2, 0, none⟩ .i64 fun fc =>
 (∃ db : Int, ∃ ag : OA, ∃ ai ah : Nat, cellsAt a8 ⟨d0, 0, none⟩ 0 [(Iv db), (.slice ag ai ah)] /\
 (CP N_status_Encode #[(Iv fc), (.agg #[Iv db, .slice ag ai ah])] a8 fun eq d8 =>
 ∃ d3 : OA, ∃ d5 d4 : Nat, ∃ es : Int, eq = .returned (.tuple #[(.slice d3 d5 d4), (Iv es)]) /\
 (∃ dc dh dj dl dn dq ds du dw dy a9 bb : Int, ∃ bd : Bool, ∃ t : OA, ∃ y v : Nat, cellsAt d8 ⟨d2, 0, none⟩ 0 [(Iv dc), (Iv dh), (Iv dj), (Iv dl), (Iv dn), (Iv dq), (Iv ds), (Iv du), (Iv dw), (Iv dy), (Iv a9), (Iv bb), (.bool bd), (.slice t y v)] /\
 (CP N_receiver_begin #[(.agg #[Iv dc, Iv dh, Iv dj, Iv dl, Iv dn, Iv dq, Iv ds, Iv du, Iv dw, Iv dy, Iv a9, Iv bb, .bool bd, .slice t y v])] d8 fun er eu =>
 ∃ d1 : OA, er = .returned (.pointer d1) /\
 (kDrew eu fun c9 =>
 (∃ fg : Nat -> Prop,
 (fg d2 /\
 (kLd c9 ⟨d2, 4, none⟩ .i64 fun fd =>
 (kNil d1 fun fe =>
 (kSet c9 (fe.add 12) (.bool false) fun d9 =>
 (KeepsB fg c9 d9 /\ (kNil d1 fun ez =>
 (kSet d9 (ez.add 11) (Iv fd) fun ea =>
 (kNil d1 fun e0 =>
 (∃ dd di dk dm dp dr dt dv dx dz ba bc : Int, ∃ be : Bool, ∃ u : OA, ∃ z x : Nat, cellsAt ea e0 0 [(Iv dd), (Iv di), (Iv dk), (Iv dm), (Iv dp), (Iv dr), (Iv dt), (Iv dv), (Iv dx), (Iv dz), (Iv ba), (Iv bc), (.bool be), (.slice u z x)] /\
 (sxStore ea ⟨a, 0, none⟩ 0 [(Iv dd), (Iv di), (Iv dk), (Iv dm), (Iv dp), (Iv dr), (Iv dt), (Iv dv), (Iv dx), (Iv dz), (Iv ba), (Iv bc), (.bool be), (.slice u z x)] fun eb =>
 (∃ bp bv b2 b8 ce ck cq cw c2 c8 ap ax : Int, ∃ a3 : Bool, ∃ g : OA, ∃ s m : Nat, cellsAt eb ⟨a, 0, none⟩ 0 [(Iv bp), (Iv bv), (Iv b2), (Iv b8), (Iv ce), (Iv ck), (Iv cq), (Iv cw), (Iv c2), (Iv c8), (Iv ap), (Iv ax), (.bool a3), (.slice g s m)] /\
 R (.tuple #[(.agg #[Iv bp, Iv bv, Iv b2, Iv b8, Iv ce, Iv ck, Iv cq, Iv cw, Iv c2, Iv c8, Iv ap, Iv ax, .bool a3, .slice g s m]), (.slice d3 d5 d4), (Iv es)]) eb))))))))))))))))))))))))) /\
 (kLet (!decide (e3 = (0 : Int))) fun fh =>
 (bsplit fh
 ((sxStore eo ⟨a, 0, none⟩ 0 [(Iv (0 : Int)), (Iv (0 : Int)), (Iv (0 : Int)), (Iv (0 : Int)), (Iv (0 : Int)), (Iv (0 : Int)), (Iv (0 : Int)), (Iv (0 : Int)), (Iv (0 : Int)), (Iv (0 : Int)), (Iv (0 : Int)), (Iv (0 : Int)), (.bool false), (.slice none 0 0)] fun ew =>
 (∃ bj bq bw b3 b9 cf cl cr cx c3 ak aq : Int, ∃ ay : Bool, ∃ b : OA, ∃ n h : Nat, cellsAt ew ⟨a, 0, none⟩ 0 [(Iv bj), (Iv bq), (Iv bw), (Iv b3), (Iv b9), (Iv cf), (Iv cl), (Iv cr), (Iv cx), (Iv c3), (Iv ak), (Iv aq), (.bool ay), (.slice b n h)] /\
 R (.tuple #[(.agg #[Iv bj, Iv bq, Iv bw, Iv b3, Iv b9, Iv cf, Iv cl, Iv cr, Iv cx, Iv c3, Iv ak, Iv aq, .bool ay, .slice b n h]), (.slice none 0 0), (Iv e3)]) ew)))
 ((∃ em : Bool -> WP,
 (∀ (_ : Env) (e1 : Bool) (aj : World), em e1 aj ->
 (bsplit e1
 ((sxStore aj ⟨a, 0, none⟩ 0 [(Iv (0 : Int)), (Iv (0 : Int)), (Iv (0 : Int)), (Iv (0 : Int)), (Iv (0 : Int)), (Iv (0 : Int)), (Iv (0 : Int)), (Iv (0 : Int)), (Iv (0 : Int)), (Iv (0 : Int)), (Iv (0 : Int)), (Iv (0 : Int)), (.bool false), (.slice none 0 0)] fun ex =>
 (∃ bk br bx b4 ca cg cm cs cy c4 al ar : Int, ∃ az : Bool, ∃ c : OA, ∃ o i : Nat, cellsAt ex ⟨a, 0, none⟩ 0 [(Iv bk), (Iv br), (Iv bx), (Iv b4), (Iv ca), (Iv cg), (Iv cm), (Iv cs), (Iv cy), (Iv c4), (Iv al), (Iv ar), (.bool az), (.slice c o i)] /\
 R (.tuple #[(.agg #[Iv bk, Iv br, Iv bx, Iv b4, Iv ca, Iv cg, Iv cm, Iv cs, Iv cy, Iv c4, Iv al, Iv ar, .bool az, .slice c o i]), (.slice none 0 0), (Iv (3 : Int))]) ex)))
 ((kLdB aj ⟨d2, 12, none⟩ fun e8 =>
 (bsplit (!e8)
 ((sxStore aj ⟨a, 0, none⟩ 0 [(Iv (0 : Int)), (Iv (0 : Int)), (Iv (0 : Int)), (Iv (0 : Int)), (Iv (0 : Int)), (Iv (0 : Int)), (Iv (0 : Int)), (Iv (0 : Int)), (Iv (0 : Int)), (Iv (0 : Int)), (Iv (0 : Int)), (Iv (0 : Int)), (.bool false), (.slice none 0 0)] fun ey =>
 (∃ bl bs bz b5 cb ch cn ct cz c5 am au : Int, ∃ a0 : Bool, ∃ d : OA, ∃ p j : Nat, cellsAt ey ⟨a, 0, none⟩ 0 [(Iv bl), (Iv bs), (Iv bz), (Iv b5), (Iv cb), (Iv ch), (Iv cn), (Iv ct), (Iv cz), (Iv c5), (Iv am), (Iv au), (.bool a0), (.slice d p j)] /\
 R (.tuple #[(.agg #[Iv bl, Iv bs, Iv bz, Iv b5, Iv cb, Iv ch, Iv cn, Iv ct, Iv cz, Iv c5, Iv am, Iv au, .bool a0, .slice d p j]), (.slice none 0 0), (Iv (14 : Int))]) ey)))
 ((kLd aj ⟨d2, 11, none⟩ .i64 fun e9 =>
 (kLet (decide (e9 > (0 : Int))) fun fa =>
 (bsplit fa
 ((sxStore aj ⟨a, 0, none⟩ 0 [(Iv (0 : Int)), (Iv (0 : Int)), (Iv (0 : Int)), (Iv (0 : Int)), (Iv (0 : Int)), (Iv (0 : Int)), (Iv (0 : Int)), (Iv (0 : Int)), (Iv (0 : Int)), (Iv (0 : Int)), (Iv (0 : Int)), (Iv (0 : Int)), (.bool false), (.slice none 0 0)] fun d6 =>
 (∃ bm bt b0 b6 cc ci co cu c0 c6 an av : Int, ∃ a1 : Bool, ∃ e : OA, ∃ q k : Nat, cellsAt d6 ⟨a, 0, none⟩ 0 [(Iv bm), (Iv bt), (Iv b0), (Iv b6), (Iv cc), (Iv ci), (Iv co), (Iv cu), (Iv c0), (Iv c6), (Iv an), (Iv av), (.bool a1), (.slice e q k)] /\
 R (.tuple #[(.agg #[Iv bm, Iv bt, Iv b0, Iv b6, Iv cc, Iv ci, Iv co, Iv cu, Iv c0, Iv c6, Iv an, Iv av, .bool a1, .slice e q k]), (.slice none 0 0), (Iv (14 : Int))]) d6)))
 (ff aj)))))))))) /\
 (bsplit (decide (size < (0 : Int)))
 (em true eo)
 ((kLet (decide (size > (4096 : Int))) fun e7 =>
 em e7 eo))))))))))))))
theorem F_receiver_Report_ok {R : EP} (r_0 r_1 r_2 r_3 r_4 r_5 r_6 r_7 r_8 r_9 r_10 r_11 : Int) (r_12 : Bool) (r_13_a : OA) (r_13_l r_13_c : Nat) (size : Int) (w : World) (h : F_receiver_Report r_0 r_1 r_2 r_3 r_4 r_5 r_6 r_7 r_8 r_9 r_10 r_11 r_12 r_13_a r_13_l r_13_c size w fun v w' => R (.returned v) w') : CP N_receiver_Report #[(.agg #[Iv r_0, Iv r_1, Iv r_2, Iv r_3, Iv r_4, Iv r_5, Iv r_6, Iv r_7, Iv r_8, Iv r_9, Iv r_10, Iv r_11, .bool r_12, .slice r_13_a r_13_l r_13_c]), (Iv size)] w R :=
 calls_of (k := TTk) (h := h_receiver_Report) (f := 102) follows_ok Tryz.func102 (Eq.mpr (by kernel_rfl) h)

def h_sender_Tick : H := (sr (sr (.seq sc (.seq sc (.seq (sr sc) (sr (sr (.cut [] ([7] ++ rg 56 42) (.block (sr (.cond .reg (sr (.cond (sr (.seq (.draw .blk (so 0 1 (po 1 8 (ko 9 2 (so 11 2 (lo 13 1 .nil)))))) .reg)) .leaf))))) sl))))))))
def F_sender_Tick (x_0 x_1 x_2 x_3 x_4 x_5 x_6 x_7 : Int) (x_8_a : OA) (x_8_l x_8_c : Nat) (x_9 x_10 x_11 : Int) (x_12 : Bool) (w : World) (R : Value -> WP) : Prop :=
 (kAlloc w #[(Iv x_0), (Iv x_1), (Iv x_2), (Iv x_3), (Iv x_4), (Iv x_5), (Iv x_6), (Iv x_7), (.slice x_8_a x_8_l x_8_c), (Iv x_9), (Iv x_10), (Iv x_11), (.bool x_12)] Ty_api_Sender fun eh d6 =>
 (kAlloc d6 #[Iv (0 : Int), Iv (0 : Int), Iv (0 : Int), Iv (0 : Int), Iv (0 : Int), Iv (0 : Int), Iv (0 : Int), Iv (0 : Int), .slice none 0 0, Iv (0 : Int), Iv (0 : Int), Iv (0 : Int), .bool false] Ty_api_Sender fun b dl =>
 (∃ bx b2 b6 ca ce ci cm cq : Int, ∃ m : OA, ∃ u q : Nat, ∃ cu am aq : Int, ∃ aw : Bool, cellsAt dl ⟨eh, 0, none⟩ 0 [(Iv bx), (Iv b2), (Iv b6), (Iv ca), (Iv ce), (Iv ci), (Iv cm), (Iv cq), (.slice m u q), (Iv cu), (Iv am), (Iv aq), (.bool aw)] /\
 (CP N_sender_begin #[(.agg #[Iv bx, Iv b2, Iv b6, Iv ca, Iv ce, Iv ci, Iv cm, Iv cq, .slice m u q, Iv cu, Iv am, Iv aq, .bool aw])] dl fun d5 a0 =>
 ∃ z : OA, ∃ dc : Int, d5 = .returned (.tuple #[(.pointer z), (Iv dc)]) /\
 (bsplit (!decide (dc = (0 : Int)))
 ((sxStore a0 ⟨b, 0, none⟩ 0 [(Iv (0 : Int)), (Iv (0 : Int)), (Iv (0 : Int)), (Iv (0 : Int)), (Iv (0 : Int)), (Iv (0 : Int)), (Iv (0 : Int)), (Iv (0 : Int)), (.slice none 0 0), (Iv (0 : Int)), (Iv (0 : Int)), (Iv (0 : Int)), (.bool false)] fun dm =>
 (∃ c0 c1 c2 c3 c4 c5 c6 c7 : Int, ∃ aj : OA, ∃ al ak : Nat, ∃ c8 a4 a5 : Int, ∃ a6 : Bool, cellsAt dm ⟨b, 0, none⟩ 0 [(Iv c0), (Iv c1), (Iv c2), (Iv c3), (Iv c4), (Iv c5), (Iv c6), (Iv c7), (.slice aj al ak), (Iv c8), (Iv a4), (Iv a5), (.bool a6)] /\
 R (.tuple #[(.agg #[Iv c0, Iv c1, Iv c2, Iv c3, Iv c4, Iv c5, Iv c6, Iv c7, .slice aj al ak, Iv c8, Iv a4, Iv a5, .bool a6]), (Iv dc)]) dm)))
 ((kNil z fun ei =>
 (kLd a0 (ei.add 11) .i64 fun d7 =>
 (bsplit (decide (d7 = (0 : Int)))
 ((kNil z fun d8 =>
 (∃ bz b3 b7 cb cf cj cn cr : Int, ∃ n : OA, ∃ v r : Nat, ∃ cv an ar : Int, ∃ ax : Bool, cellsAt a0 d8 0 [(Iv bz), (Iv b3), (Iv b7), (Iv cb), (Iv cf), (Iv cj), (Iv cn), (Iv cr), (.slice n v r), (Iv cv), (Iv an), (Iv ar), (.bool ax)] /\
 (sxStore a0 ⟨b, 0, none⟩ 0 [(Iv bz), (Iv b3), (Iv b7), (Iv cb), (Iv cf), (Iv cj), (Iv cn), (Iv cr), (.slice n v r), (Iv cv), (Iv an), (Iv ar), (.bool ax)] fun dn =>
 (∃ a1 a7 ba bd bg bj bm bp : Int, ∃ c : OA, ∃ i f : Nat, ∃ bs aa ad : Int, ∃ ag : Bool, cellsAt dn ⟨b, 0, none⟩ 0 [(Iv a1), (Iv a7), (Iv ba), (Iv bd), (Iv bg), (Iv bj), (Iv bm), (Iv bp), (.slice c i f), (Iv bs), (Iv aa), (Iv ad), (.bool ag)] /\
 R (.tuple #[(.agg #[Iv a1, Iv a7, Iv ba, Iv bd, Iv bg, Iv bj, Iv bm, Iv bp, .slice c i f, Iv bs, Iv aa, Iv ad, .bool ag]), (Iv (0 : Int))]) dn)))))
 ((kNil z fun d9 =>
 (kLd a0 (d9.add 11) .i64 fun ea =>
 (kW .i64 (ea - (1 : Int)) fun eb =>
 (kNil z fun ec =>
 (kSet a0 (ec.add 11) (Iv eb) fun cz =>
 (kNil z fun ed =>
 (kLd cz (ed.add 11) .i64 fun ee =>
 (bsplit (decide (ee > (0 : Int)))
 ((kNil z fun ef =>
 (∃ b0 b4 b8 cc cg ck co cs : Int, ∃ o : OA, ∃ x s : Nat, ∃ cw ao au : Int, ∃ ay : Bool, cellsAt cz ef 0 [(Iv b0), (Iv b4), (Iv b8), (Iv cc), (Iv cg), (Iv ck), (Iv co), (Iv cs), (.slice o x s), (Iv cw), (Iv ao), (Iv au), (.bool ay)] /\
 (sxStore cz ⟨b, 0, none⟩ 0 [(Iv b0), (Iv b4), (Iv b8), (Iv cc), (Iv cg), (Iv ck), (Iv co), (Iv cs), (.slice o x s), (Iv cw), (Iv ao), (Iv au), (.bool ay)] fun dp =>
 (∃ a2 a8 bb be bh bk bn bq : Int, ∃ d : OA, ∃ j g : Nat, ∃ bt ab ae : Int, ∃ ah : Bool, cellsAt dp ⟨b, 0, none⟩ 0 [(Iv a2), (Iv a8), (Iv bb), (Iv be), (Iv bh), (Iv bk), (Iv bn), (Iv bq), (.slice d j g), (Iv bt), (Iv ab), (Iv ae), (.bool ah)] /\
 R (.tuple #[(.agg #[Iv a2, Iv a8, Iv bb, Iv be, Iv bh, Iv bk, Iv bn, Iv bq, .slice d j g, Iv bt, Iv ab, Iv ae, .bool ah]), (Iv (0 : Int))]) dp)))))
 ((kNil z fun dr =>
 (kSet cz (dr.add 10) (Iv (-1 : Int)) fun dq =>
 (kNil z fun ds =>
 (kLdS dq (ds.add 8) fun _ db _ =>
 (∃ d3 : WP,
 (∀ (_ : Env)  (bv : World), d3 bv ->
 (kNil z fun d2 =>
 (∃ b1 b5 b9 cd ch cl cp ct : Int, ∃ p : OA, ∃ y t : Nat, ∃ cx ap av : Int, ∃ az : Bool, cellsAt bv d2 0 [(Iv b1), (Iv b5), (Iv b9), (Iv cd), (Iv ch), (Iv cl), (Iv cp), (Iv ct), (.slice p y t), (Iv cx), (Iv ap), (Iv av), (.bool az)] /\
 (sxStore bv ⟨b, 0, none⟩ 0 [(Iv b1), (Iv b5), (Iv b9), (Iv cd), (Iv ch), (Iv cl), (Iv cp), (Iv ct), (.slice p y t), (Iv cx), (Iv ap), (Iv av), (.bool az)] fun da =>
 (∃ a3 a9 bc bf bi bl bo br : Int, ∃ e : OA, ∃ k h : Nat, ∃ bu ac af : Int, ∃ ai : Bool, cellsAt da ⟨b, 0, none⟩ 0 [(Iv a3), (Iv a9), (Iv bc), (Iv bf), (Iv bi), (Iv bl), (Iv bo), (Iv br), (.slice e k h), (Iv bu), (Iv ac), (Iv af), (.bool ai)] /\
 R (.tuple #[(.agg #[Iv a3, Iv a9, Iv bc, Iv bf, Iv bi, Iv bl, Iv bo, Iv br, .slice e k h, Iv bu, Iv ac, Iv af, .bool ai]), (Iv (0 : Int))]) da))))) /\
 (CP N_sender_side_left #[(.pointer z)] dq fun df bw =>
 ∃ dh : Int, df = .returned (Iv dh) /\
 (kLet (decide (dh >= (0 : Int))) fun dt =>
 (bsplit dt
 ((kNil z fun du =>
 (kLd bw (du.add 1) .i64 fun dv =>
 (kW .i64 (dv - (1 : Int)) fun dw =>
 (kNil z fun dx =>
 (kSet bw (dx.add 9) (Iv dw) fun di =>
 d3 di))))))
 ((kLet (decide ((db : Int) > (0 : Int))) fun dy =>
 (bsplit dy
 ((kNil z fun dz =>
 (kLdS bw (dz.add 8) fun dd de _ =>
 (kW .i64 ((db : Int) - (1 : Int)) fun l =>
 (kIx dd de l fun cy =>
 (kDrew bw fun a =>
 (∃ eg : Nat -> Prop,
 (kLd a (cy.add (l.toNat * 5)) .i64 fun d0 =>
 (kLd a ((cy.add (l.toNat * 5)).add 2) .i64 fun d1 =>
 (KeepsB eg a a /\ (kAlloc a #[(Iv d0), (Iv (0 : Int)), (Iv d1)] Ty_api_Range fun d4 c9 =>
 (KeepsB eg a c9 /\ (kSet c9 ((cy.add (l.toNat * 5)).add 4) (.slice (some ⟨d4, 0, none⟩) 1 1) fun dj =>
 (CP N_sender_side_again #[(.pointer z), (.pointer (some (cy.add (l.toNat * 5))))] dj fun dg dk =>
 dg = .returned (.tuple #[]) /\
 d3 dk))))))))))))))
 (d3 bw)))))))))))))))))))))))))))))))
theorem F_sender_Tick_ok {R : EP} (x_0 x_1 x_2 x_3 x_4 x_5 x_6 x_7 : Int) (x_8_a : OA) (x_8_l x_8_c : Nat) (x_9 x_10 x_11 : Int) (x_12 : Bool) (w : World) (h : F_sender_Tick x_0 x_1 x_2 x_3 x_4 x_5 x_6 x_7 x_8_a x_8_l x_8_c x_9 x_10 x_11 x_12 w fun v w' => R (.returned v) w') : CP N_sender_Tick #[(.agg #[Iv x_0, Iv x_1, Iv x_2, Iv x_3, Iv x_4, Iv x_5, Iv x_6, Iv x_7, .slice x_8_a x_8_l x_8_c, Iv x_9, Iv x_10, Iv x_11, .bool x_12])] w R :=
 calls_of (k := TTk) (h := h_sender_Tick) (f := 103) follows_ok Tryz.func103 (Eq.mpr (by kernel_rfl) h)

def h_receiver_Tick : H := (sr (.seq sc (sr (sr (.seq sc (.cut [] (rg 32 49) (sr (sr (.cond (.seq (.seq (.draw .blk (po 0 6 (so 7 6 (ko 6 1 (ko 13 1 (so 14 1 .nil)))))) (.cond .reg .leaf)) (sr .reg)) .leaf))) sl))))))
def F_receiver_Tick (r_0 r_1 r_2 r_3 r_4 r_5 r_6 r_7 r_8 r_9 r_10 r_11 : Int) (r_12 : Bool) (r_13_a : OA) (r_13_l r_13_c : Nat) (w : World) (R : Value -> WP) : Prop :=
 (kAlloc w #[(Iv r_0), (Iv r_1), (Iv r_2), (Iv r_3), (Iv r_4), (Iv r_5), (Iv r_6), (Iv r_7), (Iv r_8), (Iv r_9), (Iv r_10), (Iv r_11), (.bool r_12), (.slice r_13_a r_13_l r_13_c)] Ty_api_Receiver fun ed d4 =>
 (kAlloc d4 #[Iv (0 : Int), Iv (0 : Int), Iv (0 : Int), Iv (0 : Int), Iv (0 : Int), Iv (0 : Int), Iv (0 : Int), Iv (0 : Int), Iv (0 : Int), Iv (0 : Int), Iv (0 : Int), Iv (0 : Int), .bool false, .slice none 0 0] Ty_api_Receiver fun aq dh =>
 (∃ cr cs ct cu cv cw cx cy cz c0 bt bu : Int, ∃ bv : Bool, ∃ t : OA, ∃ v u : Nat, cellsAt dh ⟨ed, 0, none⟩ 0 [(Iv cr), (Iv cs), (Iv ct), (Iv cu), (Iv cv), (Iv cw), (Iv cx), (Iv cy), (Iv cz), (Iv c0), (Iv bt), (Iv bu), (.bool bv), (.slice t v u)] /\
 (CP N_receiver_Valid #[(.agg #[Iv cr, Iv cs, Iv ct, Iv cu, Iv cv, Iv cw, Iv cx, Iv cy, Iv cz, Iv c0, Iv bt, Iv bu, .bool bv, .slice t v u])] dh fun d3 c1 =>
 ∃ ee : Bool, d3 = .returned (.bool ee) /\
 (bsplit (!ee)
 ((sxStore c1 ⟨aq, 0, none⟩ 0 [(Iv (0 : Int)), (Iv (0 : Int)), (Iv (0 : Int)), (Iv (0 : Int)), (Iv (0 : Int)), (Iv (0 : Int)), (Iv (0 : Int)), (Iv (0 : Int)), (Iv (0 : Int)), (Iv (0 : Int)), (Iv (0 : Int)), (Iv (0 : Int)), (.bool false), (.slice none 0 0)] fun di =>
 (∃ ar aw az a2 a5 a8 bb be bh bk x aa : Int, ∃ ad : Bool, ∃ b : OA, ∃ h e : Nat, cellsAt di ⟨aq, 0, none⟩ 0 [(Iv ar), (Iv aw), (Iv az), (Iv a2), (Iv a5), (Iv a8), (Iv bb), (Iv be), (Iv bh), (Iv bk), (Iv x), (Iv aa), (.bool ad), (.slice b h e)] /\
 R (.tuple #[(.agg #[Iv ar, Iv aw, Iv az, Iv a2, Iv a5, Iv a8, Iv bb, Iv be, Iv bh, Iv bk, Iv x, Iv aa, .bool ad, .slice b h e]), (Iv (1 : Int))]) di)))
 ((∃ bq bw b0 b3 b6 b9 cc cf ci cl ah ak : Int, ∃ an : Bool, ∃ k : OA, ∃ q n : Nat, cellsAt c1 ⟨ed, 0, none⟩ 0 [(Iv bq), (Iv bw), (Iv b0), (Iv b3), (Iv b6), (Iv b9), (Iv cc), (Iv cf), (Iv ci), (Iv cl), (Iv ah), (Iv ak), (.bool an), (.slice k q n)] /\
 (CP N_receiver_begin #[(.agg #[Iv bq, Iv bw, Iv b0, Iv b3, Iv b6, Iv b9, Iv cc, Iv cf, Iv ci, Iv cl, Iv ah, Iv ak, .bool an, .slice k q n])] c1 fun c3 dj =>
 ∃ a : OA, c3 = .returned (.pointer a) /\
 (kNil a fun ef =>
 (kLd dj (ef.add 11) .i64 fun d5 =>
 (kW .i64 (d5 - (1 : Int)) fun dv =>
 (kNil a fun d6 =>
 (kSet dj (d6.add 11) (Iv (if dv > (0 : Int) then dv else (0 : Int))) fun bo =>
 (kNil a fun d7 =>
 (kLd bo (d7.add 10) .i64 fun d8 =>
 (bsplit (decide (d8 = (0 : Int)))
 ((kNil a fun d9 =>
 (∃ br bx b1 b4 b7 ca cd cg cj cm ai al : Int, ∃ ao : Bool, ∃ l : OA, ∃ r o : Nat, cellsAt bo d9 0 [(Iv br), (Iv bx), (Iv b1), (Iv b4), (Iv b7), (Iv ca), (Iv cd), (Iv cg), (Iv cj), (Iv cm), (Iv ai), (Iv al), (.bool ao), (.slice l r o)] /\
 (sxStore bo ⟨aq, 0, none⟩ 0 [(Iv br), (Iv bx), (Iv b1), (Iv b4), (Iv b7), (Iv ca), (Iv cd), (Iv cg), (Iv cj), (Iv cm), (Iv ai), (Iv al), (.bool ao), (.slice l r o)] fun dk =>
 (∃ au ax a0 a3 a6 a9 bc bf bi bl y ab : Int, ∃ ae : Bool, ∃ c : OA, ∃ i f : Nat, cellsAt dk ⟨aq, 0, none⟩ 0 [(Iv au), (Iv ax), (Iv a0), (Iv a3), (Iv a6), (Iv a9), (Iv bc), (Iv bf), (Iv bi), (Iv bl), (Iv y), (Iv ab), (.bool ae), (.slice c i f)] /\
 R (.tuple #[(.agg #[Iv au, Iv ax, Iv a0, Iv a3, Iv a6, Iv a9, Iv bc, Iv bf, Iv bi, Iv bl, Iv y, Iv ab, .bool ae, .slice c i f]), (Iv (0 : Int))]) dk)))))
 ((∃ d1 : WP,
 (∀ (_ : Env)  (bn : World), d1 bn ->
 (kNil a fun d0 =>
 (∃ bs bz b2 b5 b8 cb ce ch ck cn aj am : Int, ∃ ap : Bool, ∃ m : OA, ∃ s p : Nat, cellsAt bn d0 0 [(Iv bs), (Iv bz), (Iv b2), (Iv b5), (Iv b8), (Iv cb), (Iv ce), (Iv ch), (Iv ck), (Iv cn), (Iv aj), (Iv am), (.bool ap), (.slice m s p)] /\
 (sxStore bn ⟨aq, 0, none⟩ 0 [(Iv bs), (Iv bz), (Iv b2), (Iv b5), (Iv b8), (Iv cb), (Iv ce), (Iv ch), (Iv ck), (Iv cn), (Iv aj), (Iv am), (.bool ap), (.slice m s p)] fun cp =>
 (∃ av ay a1 a4 a7 ba bd bg bj bm z ac : Int, ∃ af : Bool, ∃ d : OA, ∃ j g : Nat, cellsAt cp ⟨aq, 0, none⟩ 0 [(Iv av), (Iv ay), (Iv a1), (Iv a4), (Iv a7), (Iv ba), (Iv bd), (Iv bg), (Iv bj), (Iv bm), (Iv z), (Iv ac), (.bool af), (.slice d j g)] /\
 R (.tuple #[(.agg #[Iv av, Iv ay, Iv a1, Iv a4, Iv a7, Iv ba, Iv bd, Iv bg, Iv bj, Iv bm, Iv z, Iv ac, .bool af, .slice d j g]), (Iv (0 : Int))]) cp))))) /\
 (kNil a fun ea =>
 (kLd bo (ea.add 10) .i64 fun eb =>
 (kW .i64 (eb - (1 : Int)) fun ec =>
 (kNil a fun dl =>
 (kSet bo (dl.add 10) (Iv ec) fun c2 =>
 (kNil a fun dm =>
 (kLd c2 (dm.add 10) .i64 fun dn =>
 (bsplit (decide (dn = (0 : Int)))
 ((kDrew c2 fun bp =>
 (∃ d2 : Nat -> Prop,
 (kNil a fun dp =>
 (kLd bp (dp.add 9) .i64 fun dq =>
 (kNil a fun cq =>
 (d2 (cq.add 8).block /\
 (kLd bp (cq.add 8) .i64 fun dr =>
 (CP N_receiver_side_place #[(.pointer a), (Iv dq)] bp fun c4 co =>
 ∃ c8 : Int, c4 = .returned (Iv c8) /\
 (KeepsB d2 bp co /\ (CP N_receiver_side_place #[(.pointer a), (Iv dr)] co fun c5 ag =>
 ∃ c9 : Int, c5 = .returned (Iv c9) /\
 (KeepsB d2 bp ag /\ (bsplit (decide (c8 > c9))
 ((kNil a fun ds =>
 (kLd ag (ds.add 9) .i64 fun dt =>
 (kNil a fun du =>
 (kSet ag (du.add 8) (Iv dt) fun da =>
 (kNil a fun dw =>
 (kSet da (dw.add 12) (.bool true) fun db =>
 (kNil a fun dx =>
 (kSet db (dx.add 9) (Iv (-1 : Int)) fun dc =>
 (CP N_receiver_side_start #[(.pointer a)] dc fun c6 dd =>
 c6 = .returned (.tuple #[]) /\
 d1 dd))))))))))
 ((kNil a fun dy =>
 (kSet ag (dy.add 12) (.bool true) fun de =>
 (kNil a fun dz =>
 (kSet de (dz.add 9) (Iv (-1 : Int)) fun df =>
 (CP N_receiver_side_start #[(.pointer a)] df fun c7 dg =>
 c7 = .returned (.tuple #[]) /\
 d1 dg)))))))))))))))))))
 (d1 c2)))))))))))))))))))))))))))
theorem F_receiver_Tick_ok {R : EP} (r_0 r_1 r_2 r_3 r_4 r_5 r_6 r_7 r_8 r_9 r_10 r_11 : Int) (r_12 : Bool) (r_13_a : OA) (r_13_l r_13_c : Nat) (w : World) (h : F_receiver_Tick r_0 r_1 r_2 r_3 r_4 r_5 r_6 r_7 r_8 r_9 r_10 r_11 r_12 r_13_a r_13_l r_13_c w fun v w' => R (.returned v) w') : CP N_receiver_Tick #[(.agg #[Iv r_0, Iv r_1, Iv r_2, Iv r_3, Iv r_4, Iv r_5, Iv r_6, Iv r_7, Iv r_8, Iv r_9, Iv r_10, Iv r_11, .bool r_12, .slice r_13_a r_13_l r_13_c])] w R :=
 calls_of (k := TTk) (h := h_receiver_Tick) (f := 104) follows_ok Tryz.func104 (Eq.mpr (by kernel_rfl) h)

end Go.Proofs.YtmbppohkadmjgaaGreat
