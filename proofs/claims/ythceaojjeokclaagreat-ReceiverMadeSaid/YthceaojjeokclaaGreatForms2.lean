import Derived.Test.YthceaojjeokclaaGreatBase
import Derived.KernelRfl
namespace Go.Proofs.YthceaojjeokclaaGreat
open Go.Sx Go.RowKit
set_option maxRecDepth 100000

def h_receiver_Valid : H := (.seq .reg (.seq .reg (.cut [] [2, 8, 9, 10, 11, 12, 13, 14, 15, 16, 17, 18, 19, 20, 21, 22, 23, 24, 25, 26, 27, 28, 29, 30, 31, 32] (.seq .reg (.cond (.seq .reg .leaf) .leaf)) (.seq .reg (.seq (.cut [(69, .p .bool)] [37, 38, 39, 40, 41, 42, 43, 44, 45, 46, 47, 48, 49, 50, 51, 52, 53, 54, 55, 56, 57, 58, 59, 60, 61, 62, 63, 64, 65, 66, 67, 68, 69] .reg (.cond (.seq .reg .leaf) .leaf)) (.seq (.seq .reg (.cond (.seq .reg .leaf) .leaf)) (.seq .reg .leaf)))))))
def F_receiver_Valid (r_0 r_1 r_2 r_3 r_4 r_5 r_6 r_7 r_8 r_9 r_10 r_11 : Int) (r_12 : Bool) (r_13_a : OA) (r_13_l r_13_c : Nat) (w : World) (R : Value → WP) : Prop :=
 (kAlloc w #[(Iv r_0), (Iv r_1), (Iv r_2), (Iv r_3), (Iv r_4), (Iv r_5), (Iv r_6), (Iv r_7), (Iv r_8), (Iv r_9), (Iv r_10), (Iv r_11), (.bool r_12), (.slice r_13_a r_13_l r_13_c)] Ty_api_Receiver fun c a5 =>
 (∃ y z aa ab ac ad ae af ag ah m n : Int, ∃ o : Bool, ∃ e : OA, ∃ g f : Nat, cellsAt a5 ⟨c, 0, none⟩ 0 [(Iv y), (Iv z), (Iv aa), (Iv ab), (Iv ac), (Iv ad), (Iv ae), (Iv af), (Iv ag), (Iv ah), (Iv m), (Iv n), (.bool o), (.slice e g f)] ∧
 (kAlloc a5 #[(Iv y), (Iv z), (Iv aa), (Iv ab), (Iv ac), (Iv ad), (Iv ae), (Iv af), (Iv ag), (Iv ah), (Iv m), (Iv n), (.bool o), (.slice e g f)] Ty_receiver_side fun d a7 =>
 (∃ bu : WP,
 (∀ (_ : Env)  (al : World), bu al →
 (kLd al ⟨c, 7, none⟩ .i64 fun bo =>
 (CP N_receiver_side_place #[(.pointer (some ⟨d, 0, none⟩)), (Iv bo)] al fun ap v =>
 ∃ u : Int, ap = .returned (Iv u) ∧
 (∃ i : Bool → WP,
 (∀ (_ : Env) (x : Bool) (a : World), i x a →
 (bsplit x
 (R (.bool false) a)
 ((kLd a ⟨c, 9, none⟩ .i64 fun ba =>
 (bsplit (decide (ba = (-1 : Int)))
 ((kLd a ⟨c, 10, none⟩ .i64 fun bb =>
 (kLet (decide (bb = (0 : Int))) fun bc =>
 R (.bool bc) a)))
 ((kLd a ⟨c, 9, none⟩ .i64 fun bd =>
 (CP N_receiver_side_number #[(.pointer (some ⟨d, 0, none⟩)), (Iv bd)] a fun au j =>
 ∃ a2 : Bool, au = .returned (.bool a2) ∧
 (bsplit a2
 ((kLd j ⟨c, 9, none⟩ .i64 fun be =>
 (CP N_receiver_side_place #[(.pointer (some ⟨d, 0, none⟩)), (Iv be)] j fun av k =>
 ∃ a3 : Int, av = .returned (Iv a3) ∧
 (bsplit (decide (a3 ≥ (1 : Int)))
 ((kLd k ⟨c, 9, none⟩ .i64 fun bf =>
 (CP N_receiver_side_place #[(.pointer (some ⟨d, 0, none⟩)), (Iv bf)] k fun aw b =>
 ∃ a4 : Int, aw = .returned (Iv a4) ∧
 (bsplit (decide (a4 ≤ u))
 ((kLd b ⟨c, 10, none⟩ .i64 fun bg =>
 (bsplit (decide (bg ≥ (1 : Int)))
 ((kLd b ⟨c, 10, none⟩ .i64 fun bh =>
 (kLd b ⟨c, 3, none⟩ .i64 fun bi =>
 (kLet (decide (bh ≤ bi)) fun bj =>
 R (.bool bj) b))))
 (R (.bool false) b))))
 (R (.bool false) b)))))
 (R (.bool false) k)))))
 (R (.bool false) j)))))))))) ∧
 (kLd v ⟨c, 0, none⟩ .i64 fun bp =>
 (kW .i64 (bp - (1 : Int)) fun bk =>
 (0 ≤ bk ∧ (kW .i64 ((1 : Int) * 2 ^ (min bk.toNat (IntKind.bits .i64))) fun bq =>
 (bsplit (decide (u > bq))
 (i true v)
 ((kLd v ⟨c, 8, none⟩ .i64 fun br =>
 (CP N_receiver_side_place #[(.pointer (some ⟨d, 0, none⟩)), (Iv br)] v fun aq h =>
 ∃ a0 : Int, aq = .returned (Iv a0) ∧
 (bsplit (decide (a0 > u))
 (i true h)
 ((kLd h ⟨c, 11, none⟩ .i64 fun bs =>
 (bsplit (decide (bs < (0 : Int)))
 (i true h)
 ((kLd h ⟨c, 11, none⟩ .i64 fun bt =>
 (kLd h ⟨c, 4, none⟩ .i64 fun a9 =>
 (bsplit (decide (bt > a9))
 (i true h)
 ((CP N_receiver_side_partials #[(.pointer (some ⟨d, 0, none⟩))] h fun ar a6 =>
 ∃ a1 : Bool, ar = .returned (.bool a1) ∧
 i (!a1) a6)))))))))))))))))))))) ∧
 (∃ l p q r s t : Int, cellsAt a7 ⟨c, 0, none⟩ 0 [(Iv l), (Iv p), (Iv q), (Iv r), (Iv s), (Iv t)] ∧
 (CP N_sender_ValidLink #[(.agg #[Iv l, Iv p, Iv q, Iv r, Iv s, Iv t])] a7 fun bl ai =>
 ∃ bv : Bool, bl = .returned (.bool bv) ∧
 (bsplit (!bv)
 (R (.bool false) ai)
 ((kLd ai ⟨c, 6, none⟩ .i64 fun bw =>
 (CP N_receiver_side_number #[(.pointer (some ⟨d, 0, none⟩)), (Iv bw)] ai fun am aj =>
 ∃ ax : Bool, am = .returned (.bool ax) ∧
 (bsplit (!ax)
 (R (.bool false) aj)
 ((kLd aj ⟨c, 7, none⟩ .i64 fun bm =>
 (CP N_receiver_side_number #[(.pointer (some ⟨d, 0, none⟩)), (Iv bm)] aj fun an ak =>
 ∃ ay : Bool, an = .returned (.bool ay) ∧
 (bsplit (!ay)
 (R (.bool false) ak)
 ((kLd ak ⟨c, 8, none⟩ .i64 fun bn =>
 (CP N_receiver_side_number #[(.pointer (some ⟨d, 0, none⟩)), (Iv bn)] ak fun ao a8 =>
 ∃ az : Bool, ao = .returned (.bool az) ∧
 (bsplit (!az)
 (R (.bool false) a8)
 (bu a8))))))))))))))))))))
theorem F_receiver_Valid_ok {R : EP} (r_0 r_1 r_2 r_3 r_4 r_5 r_6 r_7 r_8 r_9 r_10 r_11 : Int) (r_12 : Bool) (r_13_a : OA) (r_13_l r_13_c : Nat) (w : World) (h : F_receiver_Valid r_0 r_1 r_2 r_3 r_4 r_5 r_6 r_7 r_8 r_9 r_10 r_11 r_12 r_13_a r_13_l r_13_c w fun v w' => R (.returned v) w') : CP N_receiver_Valid #[(.agg #[Iv r_0, Iv r_1, Iv r_2, Iv r_3, Iv r_4, Iv r_5, Iv r_6, Iv r_7, Iv r_8, Iv r_9, Iv r_10, Iv r_11, .bool r_12, .slice r_13_a r_13_l r_13_c])] w R :=
 calls_of (k := TTk) (h := h_receiver_Valid) (f := 27) follows_ok Tryz.func27 (Eq.mpr (by kernel_rfl) h)

def h_sender_ValidLink : H := (.seq .reg (.cut [(3, .p .bool)] [3, 4, 5, 6, 7, 8, 9, 10, 11, 12, 13, 14, 15, 16] .reg (.seq .reg .leaf)))
def F_sender_ValidLink (l_0 l_1 l_2 l_3 l_4 l_5 : Int) (w : World) (R : Value → WP) : Prop :=
 (kAlloc w #[(Iv l_0), (Iv l_1), (Iv l_2), (Iv l_3), (Iv l_4), (Iv l_5)] Ty_api_Link fun g r =>
 (∃ s : Bool → WP,
 (∀ (_ : Env) (a : Bool) (e : World), s a e →
 (kLd e ⟨g, 0, none⟩ .i64 fun z =>
 (CP N_counter_Bits #[(Iv z)] e fun j f =>
 ∃ o : Bool, j = .returned (.bool o) ∧
 (bsplit o
 ((kLd f ⟨g, 1, none⟩ .i64 fun aa =>
 (CP N_sender_between #[(Iv aa), (Iv (1 : Int)), (Iv (64 : Int))] f fun k b =>
 ∃ p : Bool, k = .returned (.bool p) ∧
 (bsplit p
 ((bsplit a
 ((kLd b ⟨g, 5, none⟩ .i64 fun ab =>
 (CP N_sender_between #[(Iv ab), (Iv (1 : Int)), (Iv (32 : Int))] b fun l v =>
 ∃ q : Bool, l = .returned (.bool q) ∧
 R (.bool q) v)))
 (R (.bool false) b)))
 (R (.bool false) b)))))
 (R (.bool false) f))))) ∧
 (kLd r ⟨g, 2, none⟩ .i64 fun ad =>
 (CP N_sender_between #[(Iv ad), (Iv (1 : Int)), (Iv (1000 : Int))] r fun t c =>
 ∃ ac : Bool, t = .returned (.bool ac) ∧
 (bsplit ac
 ((kLd c ⟨g, 3, none⟩ .i64 fun x =>
 (CP N_sender_between #[(Iv x), (Iv (1 : Int)), (Iv (1000 : Int))] c fun h d =>
 ∃ m : Bool, h = .returned (.bool m) ∧
 (bsplit m
 ((kLd d ⟨g, 4, none⟩ .i64 fun y =>
 (CP N_sender_between #[(Iv y), (Iv (0 : Int)), (Iv (1000 : Int))] d fun i u =>
 ∃ n : Bool, i = .returned (.bool n) ∧
 s n u)))
 (s false d)))))
 (s false c))))))
theorem F_sender_ValidLink_ok {R : EP} (l_0 l_1 l_2 l_3 l_4 l_5 : Int) (w : World) (h : F_sender_ValidLink l_0 l_1 l_2 l_3 l_4 l_5 w fun v w' => R (.returned v) w') : CP N_sender_ValidLink #[(.agg #[Iv l_0, Iv l_1, Iv l_2, Iv l_3, Iv l_4, Iv l_5])] w R :=
 calls_of (k := TTk) (h := h_sender_ValidLink) (f := 28) follows_ok Tryz.func28 (Eq.mpr (by kernel_rfl) h)

def h_ref20_ValidLink : H := (.seq .reg (.seq .reg .leaf))
def F_ref20_ValidLink (l_0 l_1 l_2 l_3 l_4 l_5 : Int) (w : World) (R : Value → WP) : Prop :=
 (kAlloc w #[(Iv l_0), (Iv l_1), (Iv l_2), (Iv l_3), (Iv l_4), (Iv l_5)] Ty_api_Link fun b c =>
 (kLd c ⟨b, 0, none⟩ .i64 fun q =>
 (CP N_ref15_Bits #[(Iv q)] c fun f a =>
 ∃ p : Bool, f = .returned (.bool p) ∧
 (bsplit p
 ((kLd a ⟨b, 1, none⟩ .i64 fun g =>
 (bsplit (decide (g ≥ (1 : Int)))
 ((kLd a ⟨b, 1, none⟩ .i64 fun h =>
 (bsplit (decide (h ≤ (64 : Int)))
 ((kLd a ⟨b, 2, none⟩ .i64 fun i =>
 (bsplit (decide (i ≥ (1 : Int)))
 ((kLd a ⟨b, 2, none⟩ .i64 fun j =>
 (bsplit (decide (j ≤ (1000 : Int)))
 ((kLd a ⟨b, 3, none⟩ .i64 fun k =>
 (bsplit (decide (k ≥ (1 : Int)))
 ((kLd a ⟨b, 3, none⟩ .i64 fun l =>
 (bsplit (decide (l ≤ (1000 : Int)))
 ((kLd a ⟨b, 4, none⟩ .i64 fun m =>
 (bsplit (decide (m ≥ (0 : Int)))
 ((kLd a ⟨b, 4, none⟩ .i64 fun n =>
 (bsplit (decide (n ≤ (1000 : Int)))
 ((kLd a ⟨b, 5, none⟩ .i64 fun o =>
 (bsplit (decide (o ≥ (1 : Int)))
 ((kLd a ⟨b, 5, none⟩ .i64 fun d =>
 (kLet (decide (d ≤ (32 : Int))) fun e =>
 R (.bool e) a)))
 (R (.bool false) a))))
 (R (.bool false) a))))
 (R (.bool false) a))))
 (R (.bool false) a))))
 (R (.bool false) a))))
 (R (.bool false) a))))
 (R (.bool false) a))))
 (R (.bool false) a))))
 (R (.bool false) a))))
 (R (.bool false) a)))))
theorem F_ref20_ValidLink_ok {R : EP} (l_0 l_1 l_2 l_3 l_4 l_5 : Int) (w : World) (h : F_ref20_ValidLink l_0 l_1 l_2 l_3 l_4 l_5 w fun v w' => R (.returned v) w') : CP N_ref20_ValidLink #[(.agg #[Iv l_0, Iv l_1, Iv l_2, Iv l_3, Iv l_4, Iv l_5])] w R :=
 calls_of (k := TTk) (h := h_ref20_ValidLink) (f := 29) follows_ok Tryz.func29 (Eq.mpr (by kernel_rfl) h)

def h_ref01_Same : H := (.seq .reg (.seq .reg .leaf))
def F_ref01_Same (a_a : OA) (a_l a_c : Nat) (b_a : OA) (b_l b_c : Nat) (w : World) (R : Value → WP) : Prop :=
 (ConvS Tryz.prog Ty_S_uint8 Ty_string (.slice a_a a_l a_c) w fun b =>
 (ConvS Tryz.prog Ty_S_uint8 Ty_string (.slice b_a b_l b_c) w fun a =>
 R (.bool (b == a)) w))
theorem F_ref01_Same_ok {R : EP} (a_a : OA) (a_l a_c : Nat) (b_a : OA) (b_l b_c : Nat) (w : World) (h : F_ref01_Same a_a a_l a_c b_a b_l b_c w fun v w' => R (.returned v) w') : CP N_ref01_Same #[(.slice a_a a_l a_c), (.slice b_a b_l b_c)] w R :=
 calls_of (k := TTk) (h := h_ref01_Same) (f := 30) follows_ok Tryz.func30 (Eq.mpr (by kernel_rfl) h)

def h_ref18_SameRanges : H := (.seq .reg (.seq (.seq .reg (.cond (.seq .reg .leaf) .leaf)) (.seq (.seq .reg (.block (.loop [(5, .p (.int .i64))] [4, 5, 11, 12, 13, 14, 15, 16, 17, 18, 19, 20, 21, 22, 23, 24, 25] (.seq (.seq .reg (.cond .leaf .leaf)) (.seq (.block (.seq (.draw .no (.one 0 .stable (.one 1 .stable (.one 2 .stable (.one 3 .stable (.one 4 .stable (.one 5 .stable (.one 6 .stable (.one 7 .stable (.one 8 .stable .nil)))))))))) (.cond (.seq .reg .leaf) .leaf))) .reg))))) (.seq .reg .leaf))))
def F_ref18_SameRanges (a_a : OA) (a_l _ : Nat) (b_a : OA) (b_l _ : Nat) (w : World) (R : Value → WP) : Prop :=
 (bsplit (!decide ((a_l : Int) = (b_l : Int)))
 (R (.bool false) w)
 ((∃ j : Int → Nat × (WP), (j (0 : Int)).2 w ∧
 (∀ (_ : Env) (e : Int) (i : World), (j e).2 i →
 (bsplit (decide (e < (a_l : Int)))
 ((kDrew i fun d =>
 (kIx a_a a_l e fun m =>
 (∃ f g h : Int, cellsAt d (m.add (e.toNat * 3)) 0 [(Iv f), (Iv g), (Iv h)] ∧
 (kIx b_a b_l e fun k =>
 (∃ a b c : Int, cellsAt d (k.add (e.toNat * 3)) 0 [(Iv a), (Iv b), (Iv c)] ∧
 (EqP Tryz.prog .neq Ty_api_Range (.tmp 20) (.tmp 24) (.agg #[Iv f, Iv g, Iv h]) (.agg #[Iv a, Iv b, Iv c]) fun n =>
 (bsplit n
 (R (.bool false) d)
 ((kW .i64 (e + (1 : Int)) fun l =>
 ((j l).2 d ∧ (j l).1 < (j e).1)))))))))))
 (R (.bool true) i))))))
theorem F_ref18_SameRanges_ok {R : EP} (a_a : OA) (a_l a_c : Nat) (b_a : OA) (b_l b_c : Nat) (w : World) (h : F_ref18_SameRanges a_a a_l a_c b_a b_l b_c w fun v w' => R (.returned v) w') : CP N_ref18_SameRanges #[(.slice a_a a_l a_c), (.slice b_a b_l b_c)] w R :=
 calls_of (k := TTk) (h := h_ref18_SameRanges) (f := 31) follows_ok Tryz.func31 (Eq.mpr (by kernel_rfl) h)

def h_ref21_Receive : H := (.seq .reg (.seq (.seq .reg (.cond (.seq .reg .leaf) .leaf)) (.seq .reg (.seq .reg (.seq (.seq .reg (.cond (.seq .reg .leaf) .leaf)) (.seq .reg (.seq (.seq .reg (.cond .reg .leaf)) (.seq .reg .leaf))))))))
def F_ref21_Receive (r_0 r_1 r_2 r_3 r_4 r_5 r_6 r_7 r_8 r_9 r_10 r_11 : Int) (r_12 : Bool) (r_13_a : OA) (r_13_l r_13_c : Nat) (b_a : OA) (b_l b_c : Nat) (w : World) (R : Value → WP) : Prop :=
 (kAlloc w #[(Iv r_0), (Iv r_1), (Iv r_2), (Iv r_3), (Iv r_4), (Iv r_5), (Iv r_6), (Iv r_7), (Iv r_8), (Iv r_9), (Iv r_10), (Iv r_11), (.bool r_12), (.slice r_13_a r_13_l r_13_c)] Ty_api_Receiver fun f2 f4 =>
 (kAlloc f4 #[Iv (0 : Int), Iv (0 : Int), Iv (0 : Int), Iv (0 : Int), Iv (0 : Int), Iv (0 : Int), Iv (0 : Int), Iv (0 : Int), Iv (0 : Int), Iv (0 : Int), Iv (0 : Int), Iv (0 : Int), .bool false, .slice none 0 0] Ty_api_Receiver fun aj fz =>
 (∃ fg fh fi fj fk fl fm fn fo fp dx dy : Int, ∃ dz : Bool, ∃ am : OA, ∃ ao an : Nat, cellsAt fz ⟨f2, 0, none⟩ 0 [(Iv fg), (Iv fh), (Iv fi), (Iv fj), (Iv fk), (Iv fl), (Iv fm), (Iv fn), (Iv fo), (Iv fp), (Iv dx), (Iv dy), (.bool dz), (.slice am ao an)] ∧
 (CP N_ref21_Valid #[(.agg #[Iv fg, Iv fh, Iv fi, Iv fj, Iv fk, Iv fl, Iv fm, Iv fn, Iv fo, Iv fp, Iv dx, Iv dy, .bool dz, .slice am ao an])] fz fun f3 ft =>
 ∃ gb : Bool, f3 = .returned (.bool gb) ∧
 (bsplit (!gb)
 ((sxStore ft ⟨aj, 0, none⟩ 0 [(Iv (0 : Int)), (Iv (0 : Int)), (Iv (0 : Int)), (Iv (0 : Int)), (Iv (0 : Int)), (Iv (0 : Int)), (Iv (0 : Int)), (Iv (0 : Int)), (Iv (0 : Int)), (Iv (0 : Int)), (Iv (0 : Int)), (Iv (0 : Int)), (.bool false), (.slice none 0 0)] fun f0 =>
 (∃ bu b2 b9 cg cn ct cz c5 db dh ap ax : Int, ∃ a3 : Bool, ∃ a : OA, ∃ m g : Nat, cellsAt f0 ⟨aj, 0, none⟩ 0 [(Iv bu), (Iv b2), (Iv b9), (Iv cg), (Iv cn), (Iv ct), (Iv cz), (Iv c5), (Iv db), (Iv dh), (Iv ap), (Iv ax), (.bool a3), (.slice a m g)] ∧
 R (.tuple #[(.agg #[Iv bu, Iv b2, Iv b9, Iv cg, Iv cn, Iv ct, Iv cz, Iv c5, Iv db, Iv dh, Iv ap, Iv ax, .bool a3, .slice a m g]), (.slice none 0 0), (Iv (1 : Int))]) f0)))
 ((∃ dr d0 d6 ec ei en es ex e2 e7 bc bh : Int, ∃ bm : Bool, ∃ s : OA, ∃ ad y : Nat, cellsAt ft ⟨f2, 0, none⟩ 0 [(Iv dr), (Iv d0), (Iv d6), (Iv ec), (Iv ei), (Iv en), (Iv es), (Iv ex), (Iv e2), (Iv e7), (Iv bc), (Iv bh), (.bool bm), (.slice s ad y)] ∧
 (CP N_ref21_Copy #[(.agg #[Iv dr, Iv d0, Iv d6, Iv ec, Iv ei, Iv en, Iv es, Iv ex, Iv e2, Iv e7, Iv bc, Iv bh, .bool bm, .slice s ad y])] ft fun fu f5 =>
 ∃ bv b3 ca ch co cu c0 c6 dc di aq ay : Int, ∃ a4 : Bool, ∃ b : OA, ∃ n h : Nat, fu = .returned (.agg #[Iv bv, Iv b3, Iv ca, Iv ch, Iv co, Iv cu, Iv c0, Iv c6, Iv dc, Iv di, Iv aq, Iv ay, .bool a4, .slice b n h]) ∧
 (kAlloc f5 #[Iv (0 : Int), Iv (0 : Int), Iv (0 : Int), Iv (0 : Int), Iv (0 : Int), Iv (0 : Int), Iv (0 : Int), Iv (0 : Int), Iv (0 : Int), Iv (0 : Int), Iv (0 : Int), Iv (0 : Int), .bool false, .slice none 0 0] Ty_api_Receiver fun ai f6 =>
 (sxStore f6 ⟨ai, 0, none⟩ 0 [(Iv bv), (Iv b3), (Iv ca), (Iv ch), (Iv co), (Iv cu), (Iv c0), (Iv c6), (Iv dc), (Iv di), (Iv aq), (Iv ay), (.bool a4), (.slice b n h)] fun f1 =>
 (kLd f1 ⟨f2, 0, none⟩ .i64 fun gc =>
 (CP N_ref18_Decode #[(Iv gc), (.slice b_a b_l b_c)] f1 fun fv f7 =>
 ∃ bw b4 cb ci : Int, ∃ a9 : OA, ∃ bb ba : Nat, ∃ fr : Int, fv = .returned (.tuple #[(.agg #[Iv bw, Iv b4, Iv cb, Iv ci, .slice a9 bb ba]), (Iv fr)]) ∧
 (kAlloc f7 #[Iv (0 : Int), Iv (0 : Int), Iv (0 : Int), Iv (0 : Int), .slice none 0 0] Ty_api_Piece fun fq f8 =>
 (sxStore f8 ⟨fq, 0, none⟩ 0 [(Iv bw), (Iv b4), (Iv cb), (Iv ci), (.slice a9 bb ba)] fun ak =>
 (bsplit (!decide (fr = (0 : Int)))
 ((∃ ds d1 d7 ed ej eo et ey e3 e8 bd bi : Int, ∃ bn : Bool, ∃ t : OA, ∃ ae z : Nat, cellsAt ak ⟨ai, 0, none⟩ 0 [(Iv ds), (Iv d1), (Iv d7), (Iv ed), (Iv ej), (Iv eo), (Iv et), (Iv ey), (Iv e3), (Iv e8), (Iv bd), (Iv bi), (.bool bn), (.slice t ae z)] ∧
 (sxStore ak ⟨aj, 0, none⟩ 0 [(Iv ds), (Iv d1), (Iv d7), (Iv ed), (Iv ej), (Iv eo), (Iv et), (Iv ey), (Iv e3), (Iv e8), (Iv bd), (Iv bi), (.bool bn), (.slice t ae z)] fun fc =>
 (∃ bx b5 cc cj cp cv c1 c7 dd dj ar az : Int, ∃ a5 : Bool, ∃ c : OA, ∃ o i : Nat, cellsAt fc ⟨aj, 0, none⟩ 0 [(Iv bx), (Iv b5), (Iv cc), (Iv cj), (Iv cp), (Iv cv), (Iv c1), (Iv c7), (Iv dd), (Iv dj), (Iv ar), (Iv az), (.bool a5), (.slice c o i)] ∧
 R (.tuple #[(.agg #[Iv bx, Iv b5, Iv cc, Iv cj, Iv cp, Iv cv, Iv c1, Iv c7, Iv dd, Iv dj, Iv ar, Iv az, .bool a5, .slice c o i]), (.slice none 0 0), (Iv fr)]) fc))))
 ((∃ dt d2 d8 ee ek ep eu ez e4 e9 be bj : Int, ∃ bo : Bool, ∃ u : OA, ∃ af aa : Nat, cellsAt ak ⟨ai, 0, none⟩ 0 [(Iv dt), (Iv d2), (Iv d8), (Iv ee), (Iv ek), (Iv ep), (Iv eu), (Iv ez), (Iv e4), (Iv e9), (Iv be), (Iv bj), (.bool bo), (.slice u af aa)] ∧
 (∃ du d3 d9 ef : Int, ∃ br : OA, ∃ bt bs : Nat, cellsAt ak ⟨fq, 0, none⟩ 0 [(Iv du), (Iv d3), (Iv d9), (Iv ef), (.slice br bt bs)] ∧
 (CP N_ref21_put #[(.agg #[Iv dt, Iv d2, Iv d8, Iv ee, Iv ek, Iv ep, Iv eu, Iv ez, Iv e4, Iv e9, Iv be, Iv bj, .bool bo, .slice u af aa]), (.agg #[Iv du, Iv d3, Iv d9, Iv ef, .slice br bt bs])] ak fun fw fx =>
 ∃ bz b6 cd ck cq cw c2 c8 de dk au a0 : Int, ∃ a6 : Bool, ∃ d : OA, ∃ p j : Nat, ∃ dn : OA, ∃ dq dp : Nat, ∃ fs : Int, fw = .returned (.tuple #[(.agg #[Iv bz, Iv b6, Iv cd, Iv ck, Iv cq, Iv cw, Iv c2, Iv c8, Iv de, Iv dk, Iv au, Iv a0, .bool a6, .slice d p j]), (.slice dn dq dp), (Iv fs)]) ∧
 (sxStore fx ⟨ai, 0, none⟩ 0 [(Iv bz), (Iv b6), (Iv cd), (Iv ck), (Iv cq), (Iv cw), (Iv c2), (Iv c8), (Iv de), (Iv dk), (Iv au), (Iv a0), (.bool a6), (.slice d p j)] fun al =>
 (kLd al ⟨fq, 2, none⟩ .i64 fun f9 =>
 (bsplit (decide (f9 = (1 : Int)))
 ((kLd al ⟨ai, 7, none⟩ .i64 fun ga =>
 (kSet al ⟨ai, 12, none⟩ (.bool true) fun fy =>
 (kSet fy ⟨ai, 8, none⟩ (Iv ga) fun fd =>
 (∃ dv d4 ea eg el eq ev e0 e5 fa bf bk : Int, ∃ bp : Bool, ∃ v : OA, ∃ ag ab : Nat, cellsAt fd ⟨ai, 0, none⟩ 0 [(Iv dv), (Iv d4), (Iv ea), (Iv eg), (Iv el), (Iv eq), (Iv ev), (Iv e0), (Iv e5), (Iv fa), (Iv bf), (Iv bk), (.bool bp), (.slice v ag ab)] ∧
 (sxStore fd ⟨aj, 0, none⟩ 0 [(Iv dv), (Iv d4), (Iv ea), (Iv eg), (Iv el), (Iv eq), (Iv ev), (Iv e0), (Iv e5), (Iv fa), (Iv bf), (Iv bk), (.bool bp), (.slice v ag ab)] fun fe =>
 (∃ b0 b7 ce cl cr cx c3 c9 df dl av a1 : Int, ∃ a7 : Bool, ∃ e : OA, ∃ q k : Nat, cellsAt fe ⟨aj, 0, none⟩ 0 [(Iv b0), (Iv b7), (Iv ce), (Iv cl), (Iv cr), (Iv cx), (Iv c3), (Iv c9), (Iv df), (Iv dl), (Iv av), (Iv a1), (.bool a7), (.slice e q k)] ∧
 R (.tuple #[(.agg #[Iv b0, Iv b7, Iv ce, Iv cl, Iv cr, Iv cx, Iv c3, Iv c9, Iv df, Iv dl, Iv av, Iv a1, .bool a7, .slice e q k]), (.slice dn dq dp), (Iv fs)]) fe)))))))
 ((∃ dw d5 eb eh em er ew e1 e6 fb bg bl : Int, ∃ bq : Bool, ∃ x : OA, ∃ ah ac : Nat, cellsAt al ⟨ai, 0, none⟩ 0 [(Iv dw), (Iv d5), (Iv eb), (Iv eh), (Iv em), (Iv er), (Iv ew), (Iv e1), (Iv e6), (Iv fb), (Iv bg), (Iv bl), (.bool bq), (.slice x ah ac)] ∧
 (sxStore al ⟨aj, 0, none⟩ 0 [(Iv dw), (Iv d5), (Iv eb), (Iv eh), (Iv em), (Iv er), (Iv ew), (Iv e1), (Iv e6), (Iv fb), (Iv bg), (Iv bl), (.bool bq), (.slice x ah ac)] fun ff =>
 (∃ b1 b8 cf cm cs cy c4 da dg dm aw a2 : Int, ∃ a8 : Bool, ∃ f : OA, ∃ r l : Nat, cellsAt ff ⟨aj, 0, none⟩ 0 [(Iv b1), (Iv b8), (Iv cf), (Iv cm), (Iv cs), (Iv cy), (Iv c4), (Iv da), (Iv dg), (Iv dm), (Iv aw), (Iv a2), (.bool a8), (.slice f r l)] ∧
 R (.tuple #[(.agg #[Iv b1, Iv b8, Iv cf, Iv cm, Iv cs, Iv cy, Iv c4, Iv da, Iv dg, Iv dm, Iv aw, Iv a2, .bool a8, .slice f r l]), (.slice dn dq dp), (Iv fs)]) ff))))))))))))))))))))))))))
theorem F_ref21_Receive_ok {R : EP} (r_0 r_1 r_2 r_3 r_4 r_5 r_6 r_7 r_8 r_9 r_10 r_11 : Int) (r_12 : Bool) (r_13_a : OA) (r_13_l r_13_c : Nat) (b_a : OA) (b_l b_c : Nat) (w : World) (h : F_ref21_Receive r_0 r_1 r_2 r_3 r_4 r_5 r_6 r_7 r_8 r_9 r_10 r_11 r_12 r_13_a r_13_l r_13_c b_a b_l b_c w fun v w' => R (.returned v) w') : CP N_ref21_Receive #[(.agg #[Iv r_0, Iv r_1, Iv r_2, Iv r_3, Iv r_4, Iv r_5, Iv r_6, Iv r_7, Iv r_8, Iv r_9, Iv r_10, Iv r_11, .bool r_12, .slice r_13_a r_13_l r_13_c]), (.slice b_a b_l b_c)] w R :=
 calls_of (k := TTk) (h := h_ref21_Receive) (f := 32) follows_ok Tryz.func32 (Eq.mpr (by kernel_rfl) h)

def h_ref21_Tick : H := (.seq .reg (.seq (.seq .reg (.cond (.seq .reg .leaf) .leaf)) (.seq .reg (.seq .reg (.seq (.seq .reg (.cond (.seq .reg .leaf) .leaf)) (.seq .reg (.seq (.seq .reg (.cond (.seq .reg .leaf) .leaf)) (.seq (.seq (.draw .blk (.one 0 .pre (.one 1 .pre (.one 2 .pre (.one 4 .stable (.one 5 .stable (.one 6 .stable (.one 3 .keep (.one 7 .keep (.one 8 .stable .nil)))))))))) (.cond .reg .leaf)) (.seq .reg (.seq .reg .leaf))))))))))
def F_ref21_Tick (r_0 r_1 r_2 r_3 r_4 r_5 r_6 r_7 r_8 r_9 r_10 r_11 : Int) (r_12 : Bool) (r_13_a : OA) (r_13_l r_13_c : Nat) (w : World) (R : Value → WP) : Prop :=
 (kAlloc w #[(Iv r_0), (Iv r_1), (Iv r_2), (Iv r_3), (Iv r_4), (Iv r_5), (Iv r_6), (Iv r_7), (Iv r_8), (Iv r_9), (Iv r_10), (Iv r_11), (.bool r_12), (.slice r_13_a r_13_l r_13_c)] Ty_api_Receiver fun hz hp =>
 (kAlloc hp #[Iv (0 : Int), Iv (0 : Int), Iv (0 : Int), Iv (0 : Int), Iv (0 : Int), Iv (0 : Int), Iv (0 : Int), Iv (0 : Int), Iv (0 : Int), Iv (0 : Int), Iv (0 : Int), Iv (0 : Int), .bool false, .slice none 0 0] Ty_api_Receiver fun c hg =>
 (∃ gv gw gx gy gz g0 g1 g2 g3 g4 ev ew : Int, ∃ ex : Bool, ∃ az : OA, ∃ a1 a0 : Nat, cellsAt hg ⟨hz, 0, none⟩ 0 [(Iv gv), (Iv gw), (Iv gx), (Iv gy), (Iv gz), (Iv g0), (Iv g1), (Iv g2), (Iv g3), (Iv g4), (Iv ev), (Iv ew), (.bool ex), (.slice az a1 a0)] ∧
 (CP N_ref21_Valid #[(.agg #[Iv gv, Iv gw, Iv gx, Iv gy, Iv gz, Iv g0, Iv g1, Iv g2, Iv g3, Iv g4, Iv ev, Iv ew, .bool ex, .slice az a1 a0])] hg fun ho g5 =>
 ∃ h0 : Bool, ho = .returned (.bool h0) ∧
 (bsplit (!h0)
 ((sxStore g5 ⟨c, 0, none⟩ 0 [(Iv (0 : Int)), (Iv (0 : Int)), (Iv (0 : Int)), (Iv (0 : Int)), (Iv (0 : Int)), (Iv (0 : Int)), (Iv (0 : Int)), (Iv (0 : Int)), (Iv (0 : Int)), (Iv (0 : Int)), (Iv (0 : Int)), (Iv (0 : Int)), (.bool false), (.slice none 0 0)] fun hj =>
 (∃ cf cn cu c2 da di dr dz d7 ef a2 bb : Int, ∃ bj : Bool, ∃ d : OA, ∃ t l : Nat, cellsAt hj ⟨c, 0, none⟩ 0 [(Iv cf), (Iv cn), (Iv cu), (Iv c2), (Iv da), (Iv di), (Iv dr), (Iv dz), (Iv d7), (Iv ef), (Iv a2), (Iv bb), (.bool bj), (.slice d t l)] ∧
 R (.tuple #[(.agg #[Iv cf, Iv cn, Iv cu, Iv c2, Iv da, Iv di, Iv dr, Iv dz, Iv d7, Iv ef, Iv a2, Iv bb, .bool bj, .slice d t l]), (Iv (1 : Int))]) hj)))
 ((∃ eo ey e5 fc fj fq fx f4 gb gi bt b1 : Int, ∃ b8 : Bool, ∃ ac : OA, ∃ aq aj : Nat, cellsAt g5 ⟨hz, 0, none⟩ 0 [(Iv eo), (Iv ey), (Iv e5), (Iv fc), (Iv fj), (Iv fq), (Iv fx), (Iv f4), (Iv gb), (Iv gi), (Iv bt), (Iv b1), (.bool b8), (.slice ac aq aj)] ∧
 (CP N_ref21_Copy #[(.agg #[Iv eo, Iv ey, Iv e5, Iv fc, Iv fj, Iv fq, Iv fx, Iv f4, Iv gb, Iv gi, Iv bt, Iv b1, .bool b8, .slice ac aq aj])] g5 fun g6 hq =>
 ∃ cg co cv c3 db dj ds d0 d8 eg a3 bc : Int, ∃ bk : Bool, ∃ e : OA, ∃ u m : Nat, g6 = .returned (.agg #[Iv cg, Iv co, Iv cv, Iv c3, Iv db, Iv dj, Iv ds, Iv d0, Iv d8, Iv eg, Iv a3, Iv bc, .bool bk, .slice e u m]) ∧
 (kAlloc hq #[Iv (0 : Int), Iv (0 : Int), Iv (0 : Int), Iv (0 : Int), Iv (0 : Int), Iv (0 : Int), Iv (0 : Int), Iv (0 : Int), Iv (0 : Int), Iv (0 : Int), Iv (0 : Int), Iv (0 : Int), .bool false, .slice none 0 0] Ty_api_Receiver fun a hr =>
 (sxStore hr ⟨a, 0, none⟩ 0 [(Iv cg), (Iv co), (Iv cv), (Iv c3), (Iv db), (Iv dj), (Iv ds), (Iv d0), (Iv d8), (Iv eg), (Iv a3), (Iv bc), (.bool bk), (.slice e u m)] fun hk =>
 (kLd hk ⟨a, 11, none⟩ .i64 fun h1 =>
 (kW .i64 (h1 - (1 : Int)) fun hm =>
 (kSet hk ⟨a, 11, none⟩ (Iv (if hm > (0 : Int) then hm else (0 : Int))) fun en =>
 (kLd en ⟨a, 10, none⟩ .i64 fun hs =>
 (bsplit (decide (hs = (0 : Int)))
 ((∃ ep ez e6 fd fk fr fy f5 gc gj bu b2 : Int, ∃ b9 : Bool, ∃ ad : OA, ∃ ar ak : Nat, cellsAt en ⟨a, 0, none⟩ 0 [(Iv ep), (Iv ez), (Iv e6), (Iv fd), (Iv fk), (Iv fr), (Iv fy), (Iv f5), (Iv gc), (Iv gj), (Iv bu), (Iv b2), (.bool b9), (.slice ad ar ak)] ∧
 (sxStore en ⟨c, 0, none⟩ 0 [(Iv ep), (Iv ez), (Iv e6), (Iv fd), (Iv fk), (Iv fr), (Iv fy), (Iv f5), (Iv gc), (Iv gj), (Iv bu), (Iv b2), (.bool b9), (.slice ad ar ak)] fun hl =>
 (∃ ch cp cw c4 dc dk dt d1 d9 eh a4 bd : Int, ∃ bl : Bool, ∃ f : OA, ∃ v n : Nat, cellsAt hl ⟨c, 0, none⟩ 0 [(Iv ch), (Iv cp), (Iv cw), (Iv c4), (Iv dc), (Iv dk), (Iv dt), (Iv d1), (Iv d9), (Iv eh), (Iv a4), (Iv bd), (.bool bl), (.slice f v n)] ∧
 R (.tuple #[(.agg #[Iv ch, Iv cp, Iv cw, Iv c4, Iv dc, Iv dk, Iv dt, Iv d1, Iv d9, Iv eh, Iv a4, Iv bd, .bool bl, .slice f v n]), (Iv (0 : Int))]) hl))))
 ((kLd en ⟨a, 10, none⟩ .i64 fun ht =>
 (kW .i64 (ht - (1 : Int)) fun hu =>
 (kSet en ⟨a, 10, none⟩ (Iv hu) fun br =>
 (kLd br ⟨a, 10, none⟩ .i64 fun hv =>
 (bsplit (decide (hv > (0 : Int)))
 ((∃ eq e0 e7 fe fl fs fz f6 gd gk bv b3 : Int, ∃ ca : Bool, ∃ ae : OA, ∃ au al : Nat, cellsAt br ⟨a, 0, none⟩ 0 [(Iv eq), (Iv e0), (Iv e7), (Iv fe), (Iv fl), (Iv fs), (Iv fz), (Iv f6), (Iv gd), (Iv gk), (Iv bv), (Iv b3), (.bool ca), (.slice ae au al)] ∧
 (sxStore br ⟨c, 0, none⟩ 0 [(Iv eq), (Iv e0), (Iv e7), (Iv fe), (Iv fl), (Iv fs), (Iv fz), (Iv f6), (Iv gd), (Iv gk), (Iv bv), (Iv b3), (.bool ca), (.slice ae au al)] fun gp =>
 (∃ ci cq cx c5 dd dl du d2 ea ei a5 be : Int, ∃ bm : Bool, ∃ g : OA, ∃ x o : Nat, cellsAt gp ⟨c, 0, none⟩ 0 [(Iv ci), (Iv cq), (Iv cx), (Iv c5), (Iv dd), (Iv dl), (Iv du), (Iv d2), (Iv ea), (Iv ei), (Iv a5), (Iv be), (.bool bm), (.slice g x o)] ∧
 R (.tuple #[(.agg #[Iv ci, Iv cq, Iv cx, Iv c5, Iv dd, Iv dl, Iv du, Iv d2, Iv ea, Iv ei, Iv a5, Iv be, .bool bm, .slice g x o]), (Iv (0 : Int))]) gp))))
 ((kDrew br fun b =>
 (∃ hn : Nat → Prop,
 (∃ er e1 e8 ff fm ft f0 f7 ge gl bw b4 : Int, ∃ cb : Bool, ∃ af : OA, ∃ av am : Nat, cellsAt b ⟨a, 0, none⟩ 0 [(Iv er), (Iv e1), (Iv e8), (Iv ff), (Iv fm), (Iv ft), (Iv f0), (Iv f7), (Iv ge), (Iv gl), (Iv bw), (Iv b4), (.bool cb), (.slice af av am)] ∧
 (kLd b ⟨a, 9, none⟩ .i64 fun hw =>
 (hn a ∧
 (∃ es e2 e9 fg fn fu f1 f8 gf gm bx b5 : Int, ∃ cc : Bool, ∃ ag : OA, ∃ aw an : Nat, cellsAt b ⟨a, 0, none⟩ 0 [(Iv es), (Iv e2), (Iv e9), (Iv fg), (Iv fn), (Iv fu), (Iv f1), (Iv f8), (Iv gf), (Iv gm), (Iv bx), (Iv b5), (.bool cc), (.slice ag aw an)] ∧
 (hn a ∧
 (kLd b ⟨a, 8, none⟩ .i64 fun hx =>
 (CP N_ref21_place #[(.agg #[Iv er, Iv e1, Iv e8, Iv ff, Iv fm, Iv ft, Iv f0, Iv f7, Iv ge, Iv gl, Iv bw, Iv b4, .bool cb, .slice af av am]), (Iv hw)] b fun g7 gq =>
 ∃ hb : Int, g7 = .returned (Iv hb) ∧
 (KeepsB hn b gq ∧ (CP N_ref21_place #[(.agg #[Iv es, Iv e2, Iv e9, Iv fg, Iv fn, Iv fu, Iv f1, Iv f8, Iv gf, Iv gm, Iv bx, Iv b5, .bool cc, .slice ag aw an]), (Iv hx)] gq fun g8 bs =>
 ∃ hc : Int, g8 = .returned (Iv hc) ∧
 (KeepsB hn b bs ∧ (bsplit (decide (hb > hc))
 ((kLd bs ⟨a, 9, none⟩ .i64 fun hy =>
 (kSet bs ⟨a, 8, none⟩ (Iv hy) fun hd =>
 (kSet hd ⟨a, 12, none⟩ (.bool true) fun he =>
 (kSet he ⟨a, 9, none⟩ (Iv (-1 : Int)) fun gr =>
 (∃ et e3 fa fh fo fv f2 f9 gg gn bz b6 : Int, ∃ cd : Bool, ∃ ah : OA, ∃ ax ao : Nat, cellsAt gr ⟨a, 0, none⟩ 0 [(Iv et), (Iv e3), (Iv fa), (Iv fh), (Iv fo), (Iv fv), (Iv f2), (Iv f9), (Iv gg), (Iv gn), (Iv bz), (Iv b6), (.bool cd), (.slice ah ax ao)] ∧
 (CP N_ref21_start #[(.agg #[Iv et, Iv e3, Iv fa, Iv fh, Iv fo, Iv fv, Iv f2, Iv f9, Iv gg, Iv gn, Iv bz, Iv b6, .bool cd, .slice ah ax ao])] gr fun g9 hf =>
 ∃ cj cr cy c6 de dm dv d3 eb ej a6 bf : Int, ∃ bn : Bool, ∃ h : OA, ∃ y p : Nat, g9 = .returned (.agg #[Iv cj, Iv cr, Iv cy, Iv c6, Iv de, Iv dm, Iv dv, Iv d3, Iv eb, Iv ej, Iv a6, Iv bf, .bool bn, .slice h y p]) ∧
 (sxStore hf ⟨c, 0, none⟩ 0 [(Iv cj), (Iv cr), (Iv cy), (Iv c6), (Iv de), (Iv dm), (Iv dv), (Iv d3), (Iv eb), (Iv ej), (Iv a6), (Iv bf), (.bool bn), (.slice h y p)] fun gs =>
 (∃ ck cs cz c7 df dn dw d4 ec ek a7 bg : Int, ∃ bo : Bool, ∃ i : OA, ∃ z q : Nat, cellsAt gs ⟨c, 0, none⟩ 0 [(Iv ck), (Iv cs), (Iv cz), (Iv c7), (Iv df), (Iv dn), (Iv dw), (Iv d4), (Iv ec), (Iv ek), (Iv a7), (Iv bg), (.bool bo), (.slice i z q)] ∧
 R (.tuple #[(.agg #[Iv ck, Iv cs, Iv cz, Iv c7, Iv df, Iv dn, Iv dw, Iv d4, Iv ec, Iv ek, Iv a7, Iv bg, .bool bo, .slice i z q]), (Iv (0 : Int))]) gs)))))))))
 ((kSet bs ⟨a, 12, none⟩ (.bool true) fun hh =>
 (kSet hh ⟨a, 9, none⟩ (Iv (-1 : Int)) fun gt =>
 (∃ eu e4 fb fi fp fw f3 ga gh go b0 b7 : Int, ∃ ce : Bool, ∃ ai : OA, ∃ ay ap : Nat, cellsAt gt ⟨a, 0, none⟩ 0 [(Iv eu), (Iv e4), (Iv fb), (Iv fi), (Iv fp), (Iv fw), (Iv f3), (Iv ga), (Iv gh), (Iv go), (Iv b0), (Iv b7), (.bool ce), (.slice ai ay ap)] ∧
 (CP N_ref21_start #[(.agg #[Iv eu, Iv e4, Iv fb, Iv fi, Iv fp, Iv fw, Iv f3, Iv ga, Iv gh, Iv go, Iv b0, Iv b7, .bool ce, .slice ai ay ap])] gt fun ha hi =>
 ∃ cl ct c0 c8 dg dp dx d5 ed el a8 bh : Int, ∃ bp : Bool, ∃ j : OA, ∃ aa r : Nat, ha = .returned (.agg #[Iv cl, Iv ct, Iv c0, Iv c8, Iv dg, Iv dp, Iv dx, Iv d5, Iv ed, Iv el, Iv a8, Iv bh, .bool bp, .slice j aa r]) ∧
 (sxStore hi ⟨c, 0, none⟩ 0 [(Iv cl), (Iv ct), (Iv c0), (Iv c8), (Iv dg), (Iv dp), (Iv dx), (Iv d5), (Iv ed), (Iv el), (Iv a8), (Iv bh), (.bool bp), (.slice j aa r)] fun gu =>
 (∃ cm ba c1 c9 dh dq dy d6 ee em a9 bi : Int, ∃ bq : Bool, ∃ k : OA, ∃ ab s : Nat, cellsAt gu ⟨c, 0, none⟩ 0 [(Iv cm), (Iv ba), (Iv c1), (Iv c9), (Iv dh), (Iv dq), (Iv dy), (Iv d6), (Iv ee), (Iv em), (Iv a9), (Iv bi), (.bool bq), (.slice k ab s)] ∧
 R (.tuple #[(.agg #[Iv cm, Iv ba, Iv c1, Iv c9, Iv dh, Iv dq, Iv dy, Iv d6, Iv ee, Iv em, Iv a9, Iv bi, .bool bq, .slice k ab s]), (Iv (0 : Int))]) gu))))))))))))))))))))))))))))))))))))))))))
theorem F_ref21_Tick_ok {R : EP} (r_0 r_1 r_2 r_3 r_4 r_5 r_6 r_7 r_8 r_9 r_10 r_11 : Int) (r_12 : Bool) (r_13_a : OA) (r_13_l r_13_c : Nat) (w : World) (h : F_ref21_Tick r_0 r_1 r_2 r_3 r_4 r_5 r_6 r_7 r_8 r_9 r_10 r_11 r_12 r_13_a r_13_l r_13_c w fun v w' => R (.returned v) w') : CP N_ref21_Tick #[(.agg #[Iv r_0, Iv r_1, Iv r_2, Iv r_3, Iv r_4, Iv r_5, Iv r_6, Iv r_7, Iv r_8, Iv r_9, Iv r_10, Iv r_11, .bool r_12, .slice r_13_a r_13_l r_13_c])] w R :=
 calls_of (k := TTk) (h := h_ref21_Tick) (f := 33) follows_ok Tryz.func33 (Eq.mpr (by kernel_rfl) h)

def h_ref21_Report : H := (.seq .reg (.cut [] [5, 6, 13, 14, 15, 16, 17, 18, 19, 20, 21, 22, 23, 24, 25, 26, 27, 28, 29, 30, 31, 32, 33, 34, 35] (.block (.seq .reg (.cond (.seq .reg .leaf) (.cut [(18, .p .bool)] [18, 19, 20, 21, 22, 23, 24] .reg (.cond (.seq .reg .leaf) (.seq .reg (.cond (.seq .reg .leaf) .leaf))))))) (.seq .reg (.seq .reg (.seq (.seq .reg (.cond (.seq .reg .leaf) .leaf)) (.seq .reg (.seq .reg (.seq (.draw .blk (.one 0 .stable (.one 1 .stable (.one 2 .stable (.one 3 .pre (.one 4 .keep (.one 5 .stable (.one 6 .last .nil)))))))) (.seq .reg .leaf)))))))))
def F_ref21_Report (r_0 r_1 r_2 r_3 r_4 r_5 r_6 r_7 r_8 r_9 r_10 r_11 : Int) (r_12 : Bool) (r_13_a : OA) (r_13_l r_13_c : Nat) (size : Int) (w : World) (R : Value → WP) : Prop :=
 (kAlloc w #[(Iv r_0), (Iv r_1), (Iv r_2), (Iv r_3), (Iv r_4), (Iv r_5), (Iv r_6), (Iv r_7), (Iv r_8), (Iv r_9), (Iv r_10), (Iv r_11), (.bool r_12), (.slice r_13_a r_13_l r_13_c)] Ty_api_Receiver fun ew f4 =>
 (kAlloc f4 #[Iv (0 : Int), Iv (0 : Int), Iv (0 : Int), Iv (0 : Int), Iv (0 : Int), Iv (0 : Int), Iv (0 : Int), Iv (0 : Int), Iv (0 : Int), Iv (0 : Int), Iv (0 : Int), Iv (0 : Int), .bool false, .slice none 0 0] Ty_api_Receiver fun a fv =>
 (∃ gb : WP,
 (∀ (_ : Env)  (fk : World), gb fk →
 (∃ dx d5 d8 eb ee eh ek en eq et bh bk : Int, ∃ bn : Bool, ∃ x : OA, ∃ ad aa : Nat, cellsAt fk ⟨ew, 0, none⟩ 0 [(Iv dx), (Iv d5), (Iv d8), (Iv eb), (Iv ee), (Iv eh), (Iv ek), (Iv en), (Iv eq), (Iv et), (Iv bh), (Iv bk), (.bool bn), (.slice x ad aa)] ∧
 (CP N_ref21_Status #[(.agg #[Iv dx, Iv d5, Iv d8, Iv eb, Iv ee, Iv eh, Iv ek, Iv en, Iv eq, Iv et, Iv bh, Iv bk, .bool bn, .slice x ad aa])] fk fun fl fp =>
 ∃ bx : Int, ∃ bd : OA, ∃ bf be : Nat, ∃ f2 : Int, fl = .returned (.tuple #[(.agg #[Iv bx, .slice bd bf be]), (Iv f2)]) ∧
 (kAlloc fp #[Iv (0 : Int), .slice none 0 0] Ty_api_Status fun ex fq =>
 (sxStore fq ⟨ex, 0, none⟩ 0 [(Iv bx), (.slice bd bf be)] fun dv =>
 (kLd dv ⟨ew, 0, none⟩ .i64 fun f8 =>
 (∃ dy : Int, ∃ bq : OA, ∃ bs br : Nat, cellsAt dv ⟨ex, 0, none⟩ 0 [(Iv dy), (.slice bq bs br)] ∧
 (CP N_ref19_Fit #[(Iv f8), (.agg #[Iv dy, .slice bq bs br]), (Iv size)] dv fun fm fr =>
 ∃ bz : Int, ∃ ag : OA, ∃ ai ah : Nat, ∃ fi : Int, fm = .returned (.tuple #[(.agg #[Iv bz, .slice ag ai ah]), (Iv fi)]) ∧
 (sxStore fr ⟨ex, 0, none⟩ 0 [(Iv bz), (.slice ag ai ah)] fun bg =>
 (bsplit (!decide (fi = (0 : Int)))
 ((sxStore bg ⟨a, 0, none⟩ 0 [(Iv (0 : Int)), (Iv (0 : Int)), (Iv (0 : Int)), (Iv (0 : Int)), (Iv (0 : Int)), (Iv (0 : Int)), (Iv (0 : Int)), (Iv (0 : Int)), (Iv (0 : Int)), (Iv (0 : Int)), (Iv (0 : Int)), (Iv (0 : Int)), (.bool false), (.slice none 0 0)] fun e2 =>
 (∃ b0 b7 ce cl cs cz c6 dd dk ds aw a3 : Int, ∃ ba : Bool, ∃ f : OA, ∃ t m : Nat, cellsAt e2 ⟨a, 0, none⟩ 0 [(Iv b0), (Iv b7), (Iv ce), (Iv cl), (Iv cs), (Iv cz), (Iv c6), (Iv dd), (Iv dk), (Iv ds), (Iv aw), (Iv a3), (.bool ba), (.slice f t m)] ∧
 R (.tuple #[(.agg #[Iv b0, Iv b7, Iv ce, Iv cl, Iv cs, Iv cz, Iv c6, Iv dd, Iv dk, Iv ds, Iv aw, Iv a3, .bool ba, .slice f t m]), (.slice none 0 0), (Iv fi)]) e2)))
 ((kLd bg ⟨ew, 0, none⟩ .i64 fun f9 =>
 (∃ dz : Int, ∃ am : OA, ∃ ao an : Nat, cellsAt bg ⟨ex, 0, none⟩ 0 [(Iv dz), (.slice am ao an)] ∧
 (CP N_ref19_Encode #[(Iv f9), (.agg #[Iv dz, .slice am ao an])] bg fun fn e3 =>
 ∃ ez : OA, ∃ e1 e0 : Nat, ∃ f3 : Int, fn = .returned (.tuple #[(.slice ez e1 e0), (Iv f3)]) ∧
 (∃ d0 d6 d9 ec ef ei el eo er eu bi bl : Int, ∃ bo : Bool, ∃ y : OA, ∃ ae ab : Nat, cellsAt e3 ⟨ew, 0, none⟩ 0 [(Iv d0), (Iv d6), (Iv d9), (Iv ec), (Iv ef), (Iv ei), (Iv el), (Iv eo), (Iv er), (Iv eu), (Iv bi), (Iv bl), (.bool bo), (.slice y ae ab)] ∧
 (CP N_ref21_Copy #[(.agg #[Iv d0, Iv d6, Iv d9, Iv ec, Iv ef, Iv ei, Iv el, Iv eo, Iv er, Iv eu, Iv bi, Iv bl, .bool bo, .slice y ae ab])] e3 fun fo fs =>
 ∃ b1 b8 cf cm ct c0 c7 de dl dt ax a4 : Int, ∃ bb : Bool, ∃ g : OA, ∃ u n : Nat, fo = .returned (.agg #[Iv b1, Iv b8, Iv cf, Iv cm, Iv ct, Iv c0, Iv c7, Iv de, Iv dl, Iv dt, Iv ax, Iv a4, .bool bb, .slice g u n]) ∧
 (kAlloc fs #[Iv (0 : Int), Iv (0 : Int), Iv (0 : Int), Iv (0 : Int), Iv (0 : Int), Iv (0 : Int), Iv (0 : Int), Iv (0 : Int), Iv (0 : Int), Iv (0 : Int), Iv (0 : Int), Iv (0 : Int), .bool false, .slice none 0 0] Ty_api_Receiver fun ey ft =>
 (sxStore ft ⟨ey, 0, none⟩ 0 [(Iv b1), (Iv b8), (Iv cf), (Iv cm), (Iv ct), (Iv c0), (Iv c7), (Iv de), (Iv dl), (Iv dt), (Iv ax), (Iv a4), (.bool bb), (.slice g u n)] fun fu =>
 (kDrew fu fun dw =>
 (∃ gc : Nat → Prop,
 (gc ew ∧
 (kLd dw ⟨ew, 4, none⟩ .i64 fun ga =>
 (kSet dw ⟨ey, 12, none⟩ (.bool false) fun e4 =>
 (KeepsB gc dw e4 ∧ (kSet e4 ⟨ey, 11, none⟩ (Iv ga) fun e5 =>
 (∃ d1 d7 ea ed eg ej em ep es ev bj bm : Int, ∃ bp : Bool, ∃ z : OA, ∃ af ac : Nat, cellsAt e5 ⟨ey, 0, none⟩ 0 [(Iv d1), (Iv d7), (Iv ea), (Iv ed), (Iv eg), (Iv ej), (Iv em), (Iv ep), (Iv es), (Iv ev), (Iv bj), (Iv bm), (.bool bp), (.slice z af ac)] ∧
 (sxStore e5 ⟨a, 0, none⟩ 0 [(Iv d1), (Iv d7), (Iv ea), (Iv ed), (Iv eg), (Iv ej), (Iv em), (Iv ep), (Iv es), (Iv ev), (Iv bj), (Iv bm), (.bool bp), (.slice z af ac)] fun e6 =>
 (∃ b2 b9 cg cn cu c1 c8 df dm du ay a5 : Int, ∃ bc : Bool, ∃ h : OA, ∃ v o : Nat, cellsAt e6 ⟨a, 0, none⟩ 0 [(Iv b2), (Iv b9), (Iv cg), (Iv cn), (Iv cu), (Iv c1), (Iv c8), (Iv df), (Iv dm), (Iv du), (Iv ay), (Iv a5), (.bool bc), (.slice h v o)] ∧
 R (.tuple #[(.agg #[Iv b2, Iv b9, Iv cg, Iv cn, Iv cu, Iv c1, Iv c8, Iv df, Iv dm, Iv du, Iv ay, Iv a5, .bool bc, .slice h v o]), (.slice ez e1 e0), (Iv (0 : Int))]) e6)))))))))))))))))))))))))))) ∧
 (∃ e7 e8 e9 fa fb fc fd fe ff fg d2 d3 : Int, ∃ d4 : Bool, ∃ aj : OA, ∃ al ak : Nat, cellsAt fv ⟨ew, 0, none⟩ 0 [(Iv e7), (Iv e8), (Iv e9), (Iv fa), (Iv fb), (Iv fc), (Iv fd), (Iv fe), (Iv ff), (Iv fg), (Iv d2), (Iv d3), (.bool d4), (.slice aj al ak)] ∧
 (CP N_ref21_Valid #[(.agg #[Iv e7, Iv e8, Iv e9, Iv fa, Iv fb, Iv fc, Iv fd, Iv fe, Iv ff, Iv fg, Iv d2, Iv d3, .bool d4, .slice aj al ak])] fv fun f1 fj =>
 ∃ gd : Bool, f1 = .returned (.bool gd) ∧
 (bsplit (!gd)
 ((sxStore fj ⟨a, 0, none⟩ 0 [(Iv (0 : Int)), (Iv (0 : Int)), (Iv (0 : Int)), (Iv (0 : Int)), (Iv (0 : Int)), (Iv (0 : Int)), (Iv (0 : Int)), (Iv (0 : Int)), (Iv (0 : Int)), (Iv (0 : Int)), (Iv (0 : Int)), (Iv (0 : Int)), (.bool false), (.slice none 0 0)] fun fw =>
 (∃ bt b3 ca ch co cv c2 c9 dg dn aq az : Int, ∃ a6 : Bool, ∃ b : OA, ∃ p i : Nat, cellsAt fw ⟨a, 0, none⟩ 0 [(Iv bt), (Iv b3), (Iv ca), (Iv ch), (Iv co), (Iv cv), (Iv c2), (Iv c9), (Iv dg), (Iv dn), (Iv aq), (Iv az), (.bool a6), (.slice b p i)] ∧
 R (.tuple #[(.agg #[Iv bt, Iv b3, Iv ca, Iv ch, Iv co, Iv cv, Iv c2, Iv c9, Iv dg, Iv dn, Iv aq, Iv az, .bool a6, .slice b p i]), (.slice none 0 0), (Iv (1 : Int))]) fw)))
 ((∃ fh : Bool → WP,
 (∀ (_ : Env) (f0 : Bool) (ap : World), fh f0 ap →
 (bsplit f0
 ((sxStore ap ⟨a, 0, none⟩ 0 [(Iv (0 : Int)), (Iv (0 : Int)), (Iv (0 : Int)), (Iv (0 : Int)), (Iv (0 : Int)), (Iv (0 : Int)), (Iv (0 : Int)), (Iv (0 : Int)), (Iv (0 : Int)), (Iv (0 : Int)), (Iv (0 : Int)), (Iv (0 : Int)), (.bool false), (.slice none 0 0)] fun fx =>
 (∃ bu b4 cb ci cp cw c3 da dh dp ar a0 : Int, ∃ a7 : Bool, ∃ c : OA, ∃ q j : Nat, cellsAt fx ⟨a, 0, none⟩ 0 [(Iv bu), (Iv b4), (Iv cb), (Iv ci), (Iv cp), (Iv cw), (Iv c3), (Iv da), (Iv dh), (Iv dp), (Iv ar), (Iv a0), (.bool a7), (.slice c q j)] ∧
 R (.tuple #[(.agg #[Iv bu, Iv b4, Iv cb, Iv ci, Iv cp, Iv cw, Iv c3, Iv da, Iv dh, Iv dp, Iv ar, Iv a0, .bool a7, .slice c q j]), (.slice none 0 0), (Iv (3 : Int))]) fx)))
 ((kLdB ap ⟨ew, 12, none⟩ fun f5 =>
 (bsplit (!f5)
 ((sxStore ap ⟨a, 0, none⟩ 0 [(Iv (0 : Int)), (Iv (0 : Int)), (Iv (0 : Int)), (Iv (0 : Int)), (Iv (0 : Int)), (Iv (0 : Int)), (Iv (0 : Int)), (Iv (0 : Int)), (Iv (0 : Int)), (Iv (0 : Int)), (Iv (0 : Int)), (Iv (0 : Int)), (.bool false), (.slice none 0 0)] fun fy =>
 (∃ bv b5 cc cj cq cx c4 db di dq au a1 : Int, ∃ a8 : Bool, ∃ d : OA, ∃ r k : Nat, cellsAt fy ⟨a, 0, none⟩ 0 [(Iv bv), (Iv b5), (Iv cc), (Iv cj), (Iv cq), (Iv cx), (Iv c4), (Iv db), (Iv di), (Iv dq), (Iv au), (Iv a1), (.bool a8), (.slice d r k)] ∧
 R (.tuple #[(.agg #[Iv bv, Iv b5, Iv cc, Iv cj, Iv cq, Iv cx, Iv c4, Iv db, Iv di, Iv dq, Iv au, Iv a1, .bool a8, .slice d r k]), (.slice none 0 0), (Iv (14 : Int))]) fy)))
 ((kLd ap ⟨ew, 11, none⟩ .i64 fun f6 =>
 (kLet (decide (f6 > (0 : Int))) fun f7 =>
 (bsplit f7
 ((sxStore ap ⟨a, 0, none⟩ 0 [(Iv (0 : Int)), (Iv (0 : Int)), (Iv (0 : Int)), (Iv (0 : Int)), (Iv (0 : Int)), (Iv (0 : Int)), (Iv (0 : Int)), (Iv (0 : Int)), (Iv (0 : Int)), (Iv (0 : Int)), (Iv (0 : Int)), (Iv (0 : Int)), (.bool false), (.slice none 0 0)] fun fz =>
 (∃ bw b6 cd ck cr cy c5 dc dj dr av a2 : Int, ∃ a9 : Bool, ∃ e : OA, ∃ s l : Nat, cellsAt fz ⟨a, 0, none⟩ 0 [(Iv bw), (Iv b6), (Iv cd), (Iv ck), (Iv cr), (Iv cy), (Iv c5), (Iv dc), (Iv dj), (Iv dr), (Iv av), (Iv a2), (.bool a9), (.slice e s l)] ∧
 R (.tuple #[(.agg #[Iv bw, Iv b6, Iv cd, Iv ck, Iv cr, Iv cy, Iv c5, Iv dc, Iv dj, Iv dr, Iv av, Iv a2, .bool a9, .slice e s l]), (.slice none 0 0), (Iv (14 : Int))]) fz)))
 (gb ap)))))))))) ∧
 (bsplit (decide (size < (0 : Int)))
 (fh true fj)
 ((kLet (decide (size > (4096 : Int))) fun ge =>
 fh ge fj)))))))))))
theorem F_ref21_Report_ok {R : EP} (r_0 r_1 r_2 r_3 r_4 r_5 r_6 r_7 r_8 r_9 r_10 r_11 : Int) (r_12 : Bool) (r_13_a : OA) (r_13_l r_13_c : Nat) (size : Int) (w : World) (h : F_ref21_Report r_0 r_1 r_2 r_3 r_4 r_5 r_6 r_7 r_8 r_9 r_10 r_11 r_12 r_13_a r_13_l r_13_c size w fun v w' => R (.returned v) w') : CP N_ref21_Report #[(.agg #[Iv r_0, Iv r_1, Iv r_2, Iv r_3, Iv r_4, Iv r_5, Iv r_6, Iv r_7, Iv r_8, Iv r_9, Iv r_10, Iv r_11, .bool r_12, .slice r_13_a r_13_l r_13_c]), (Iv size)] w R :=
 calls_of (k := TTk) (h := h_ref21_Report) (f := 34) follows_ok Tryz.func34 (Eq.mpr (by kernel_rfl) h)

def h_ref21_Valid : H := (.seq .reg (.seq (.seq .reg (.cond (.seq .reg .leaf) .leaf)) (.seq .reg (.seq (.cut [(60, .p .bool)] [17, 18, 19, 20, 21, 22, 23, 24, 25, 26, 27, 28, 29, 30, 31, 32, 33, 34, 35, 36, 37, 38, 39, 40, 41, 42, 43, 44, 45, 46, 47, 48, 49, 50, 51, 52, 53, 54, 55, 56, 57, 58, 59, 60] .reg (.cond (.seq .reg .leaf) .leaf)) (.seq .reg (.cut [] [2, 65, 66, 67, 68, 69, 70, 71, 72, 73, 74, 75, 76] (.seq .reg (.cond (.seq .reg .leaf) .leaf)) (.seq (.cut [(128, .p .bool)] [77, 78, 79, 80, 81, 82, 83, 84, 85, 86, 87, 88, 89, 90, 91, 92, 93, 94, 95, 96, 97, 98, 99, 100, 101, 102, 103, 104, 105, 106, 107, 108, 109, 110, 111, 112, 113, 114, 115, 116, 117, 118, 119, 120, 121, 122, 123, 124, 125, 126, 127, 128] .reg (.cond (.seq .reg .leaf) .leaf)) (.seq .reg (.seq (.seq .reg (.block (.loop [(5, .p (.int .i64)), (6, .p (.int .i64))] [2, 5, 6, 7, 129, 130, 131, 132, 133, 134, 135, 136, 137, 138, 139, 140, 141, 142, 143, 144, 145, 146, 147, 148, 149, 150, 151, 152, 153, 154, 155, 156, 157, 158, 159, 160, 161, 162, 163, 164, 165, 166, 167, 168, 169, 170, 171, 172, 173, 174, 175, 176, 177, 178, 179, 180, 181, 182, 183, 184, 185, 186, 187, 188, 189, 190, 191, 192, 193, 194, 195, 196, 197, 198, 199, 200, 201, 202, 203, 204, 205] (.seq (.seq .reg (.cond .leaf .leaf)) (.seq (.block (.seq .reg (.cut [] [2, 141, 142, 143, 144, 145, 146, 147, 148, 149, 150, 151, 152, 153, 154, 155, 156, 157, 158, 159, 160, 161, 162, 163, 164, 165] (.seq .reg (.cond (.seq .reg .leaf) .leaf)) (.seq .reg (.cut [(205, .p .bool)] [170, 171, 172, 173, 174, 175, 176, 177, 178, 179, 180, 181, 182, 183, 184, 185, 186, 187, 188, 189, 190, 191, 192, 193, 194, 195, 196, 197, 198, 199, 200, 201, 202, 203, 204, 205] .reg (.cond (.seq .reg .leaf) .leaf)))))) .reg))))) (.seq .reg .leaf))))))))))
def F_ref21_Valid (r_0 r_1 r_2 r_3 r_4 r_5 r_6 r_7 r_8 r_9 r_10 r_11 : Int) (r_12 : Bool) (r_13_a : OA) (r_13_l r_13_c : Nat) (w : World) (R : Value → WP) : Prop :=
 (kAlloc w #[(Iv r_0), (Iv r_1), (Iv r_2), (Iv r_3), (Iv r_4), (Iv r_5), (Iv r_6), (Iv r_7), (Iv r_8), (Iv r_9), (Iv r_10), (Iv r_11), (.bool r_12), (.slice r_13_a r_13_l r_13_c)] Ty_api_Receiver fun c f7 =>
 (∃ e6 e7 e8 e9 fa fb : Int, cellsAt f7 ⟨c, 0, none⟩ 0 [(Iv e6), (Iv e7), (Iv e8), (Iv e9), (Iv fa), (Iv fb)] ∧
 (CP N_ref20_ValidLink #[(.agg #[Iv e6, Iv e7, Iv e8, Iv e9, Iv fa, Iv fb])] f7 fun hf d =>
 ∃ hn : Bool, hf = .returned (.bool hn) ∧
 (bsplit (!hn)
 (R (.bool false) d)
 ((kLd d ⟨c, 0, none⟩ .i64 fun ho =>
 (kW .u64 (ho) fun gc =>
 (0 ≤ gc ∧ (kW .i64 ((1 : Int) * 2 ^ (min gc.toNat (IntKind.bits .i64))) fun a3 =>
 (∃ ev : Bool → WP,
 (∀ (_ : Env) (e2 : Bool) (ce : World), ev e2 ce →
 (bsplit e2
 (R (.bool false) ce)
 ((∃ cf cp cy c7 dg dq fc fd fe ff co bi : Int, ∃ cq : Bool, ∃ al : OA, ∃ an am : Nat, cellsAt ce ⟨c, 0, none⟩ 0 [(Iv cf), (Iv cp), (Iv cy), (Iv c7), (Iv dg), (Iv dq), (Iv fc), (Iv fd), (Iv fe), (Iv ff), (Iv co), (Iv bi), (.bool cq), (.slice al an am)] ∧
 (kLd ce ⟨c, 7, none⟩ .i64 fun gf =>
 (CP N_ref21_place #[(.agg #[Iv cf, Iv cp, Iv cy, Iv c7, Iv dg, Iv dq, Iv fc, Iv fd, Iv fe, Iv ff, Iv co, Iv bi, .bool cq, .slice al an am]), (Iv gf)] ce fun fr ew =>
 ∃ a2 : Int, fr = .returned (Iv a2) ∧
 (∃ fp : WP,
 (∀ (_ : Env)  (b : World), fp b →
 (∃ e : Bool → WP,
 (∀ (_ : Env) (e3 : Bool) (cc : World), e e3 cc →
 (bsplit e3
 (R (.bool false) cc)
 ((∃ fo : Int → Int → Nat × (WP), (fo (-1 : Int) (0 : Int)).2 cc ∧
 (∀ (_ : Env) (aj : Int) (fn : Int) (i : World), (fo aj fn).2 i →
 (kLdS i ⟨c, 13, none⟩ fun _ hd _ =>
 (bsplit (decide (fn < (hd : Int)))
 ((kLdS i ⟨c, 13, none⟩ fun fj fk _ =>
 (kIx fj fk fn fun he =>
 (∃ cl : Int, ∃ cw : Bool, ∃ c4 : Int, ∃ b5 : OA, ∃ b7 b6 : Nat, ∃ b8 : OA, ∃ ca b9 : Nat, cellsAt i (he.add (fn.toNat * 5)) 0 [(Iv cl), (.bool cw), (Iv c4), (.slice b5 b7 b6), (.slice b8 ca b9)] ∧
 (kAlloc i #[Iv (0 : Int), .bool false, Iv (0 : Int), .slice none 0 0, .slice none 0 0] Ty_api_Partial fun f f8 =>
 (sxStore f8 ⟨f, 0, none⟩ 0 [(Iv cl), (.bool cw), (Iv c4), (.slice b5 b7 b6), (.slice b8 ca b9)] fun g =>
 (∃ fq : WP,
 (∀ (_ : Env)  (a5 : World), fq a5 →
 (∃ a6 bq b2 df dp dy d6 ee em eu bg ak : Int, ∃ b0 : Bool, ∃ q : OA, ∃ ah z : Nat, cellsAt a5 ⟨c, 0, none⟩ 0 [(Iv a6), (Iv bq), (Iv b2), (Iv df), (Iv dp), (Iv dy), (Iv d6), (Iv ee), (Iv em), (Iv eu), (Iv bg), (Iv ak), (.bool b0), (.slice q ah z)] ∧
 (kLd a5 ⟨f, 0, none⟩ .i64 fun g4 =>
 (CP N_ref21_place #[(.agg #[Iv a6, Iv bq, Iv b2, Iv df, Iv dp, Iv dy, Iv d6, Iv ee, Iv em, Iv eu, Iv bg, Iv ak, .bool b0, .slice q ah z]), (Iv g4)] a5 fun fz a =>
 ∃ fi : Int, fz = .returned (Iv fi) ∧
 (∃ ai : Bool → WP,
 (∀ (_ : Env) (e4 : Bool) (cd : World), ai e4 cd →
 (bsplit e4
 (R (.bool false) cd)
 ((kW .i64 (fn + (1 : Int)) fun e5 =>
 ((fo fi e5).2 cd ∧ (fo fi e5).1 < (fo aj fn).1))))) ∧
 (kLdB a ⟨f, 1, none⟩ fun g5 =>
 (bsplit g5
 ((kLd a ⟨f, 0, none⟩ .i64 fun g6 =>
 (kLd a ⟨c, 6, none⟩ .i64 fun g7 =>
 (bsplit (decide (g6 = g7))
 (ai true a)
 ((kLd a ⟨f, 2, none⟩ .i64 fun g8 =>
 (bsplit (!decide (g8 = (0 : Int)))
 (ai true a)
 ((kLdS a ⟨f, 3, none⟩ fun _ fl _ =>
 (bsplit (decide ((fl : Int) > (0 : Int)))
 (ai true a)
 ((kLdS a ⟨f, 4, none⟩ fun _ fm _ =>
 (bsplit (decide ((fm : Int) > (0 : Int)))
 (ai true a)
 ((kLdB a ⟨f, 1, none⟩ fun g9 =>
 (bsplit (!g9)
 ((∃ a7 : Int, ∃ br : Bool, ∃ b3 : Int, ∃ ao : OA, ∃ au aq : Nat, ∃ aw : OA, ∃ a0 ay : Nat, cellsAt a ⟨f, 0, none⟩ 0 [(Iv a7), (.bool br), (Iv b3), (.slice ao au aq), (.slice aw a0 ay)] ∧
 (CP N_ref21_partial #[(.agg #[Iv a7, .bool br, Iv b3, .slice ao au aq, .slice aw a0 ay])] a fun fg f9 =>
 ∃ ez : Bool, fg = .returned (.bool ez) ∧
 ai (!ez) f9)))
 (ai false a)))))))))))))))))
 ((kLdB a ⟨f, 1, none⟩ fun ha =>
 (bsplit (!ha)
 ((∃ a8 : Int, ∃ b1 : Bool, ∃ b4 : Int, ∃ ap : OA, ∃ av ar : Nat, ∃ ax : OA, ∃ a1 az : Nat, cellsAt a ⟨f, 0, none⟩ 0 [(Iv a8), (.bool b1), (Iv b4), (.slice ap av ar), (.slice ax a1 az)] ∧
 (CP N_ref21_partial #[(.agg #[Iv a8, .bool b1, Iv b4, .slice ap av ar, .slice ax a1 az])] a fun fh ga =>
 ∃ e0 : Bool, fh = .returned (.bool e0) ∧
 ai (!e0) ga)))
 (ai false a))))))))))) ∧
 (kLd g ⟨f, 0, none⟩ .i64 fun g0 =>
 (bsplit (decide (g0 < (0 : Int)))
 (R (.bool false) g)
 ((kLd g ⟨f, 0, none⟩ .i64 fun g1 =>
 (bsplit (decide (g1 ≥ a3))
 (R (.bool false) g)
 ((∃ cm cx c5 dd dm dw d4 ec ek es be bo : Int, ∃ bx : Bool, ∃ o : OA, ∃ af x : Nat, cellsAt g ⟨c, 0, none⟩ 0 [(Iv cm), (Iv cx), (Iv c5), (Iv dd), (Iv dm), (Iv dw), (Iv d4), (Iv ec), (Iv ek), (Iv es), (Iv be), (Iv bo), (.bool bx), (.slice o af x)] ∧
 (kLd g ⟨f, 0, none⟩ .i64 fun g2 =>
 (CP N_ref21_place #[(.agg #[Iv cm, Iv cx, Iv c5, Iv dd, Iv dm, Iv dw, Iv d4, Iv ec, Iv ek, Iv es, Iv be, Iv bo, .bool bx, .slice o af x]), (Iv g2)] g fun fx a4 =>
 ∃ f5 : Int, fx = .returned (Iv f5) ∧
 (bsplit (decide (f5 ≤ aj))
 (R (.bool false) a4)
 ((∃ cn bh c6 de dn dx d5 ed el et bf bp : Int, ∃ bz : Bool, ∃ p : OA, ∃ ag y : Nat, cellsAt a4 ⟨c, 0, none⟩ 0 [(Iv cn), (Iv bh), (Iv c6), (Iv de), (Iv dn), (Iv dx), (Iv d5), (Iv ed), (Iv el), (Iv et), (Iv bf), (Iv bp), (.bool bz), (.slice p ag y)] ∧
 (kLd a4 ⟨f, 0, none⟩ .i64 fun g3 =>
 (CP N_ref21_place #[(.agg #[Iv cn, Iv bh, Iv c6, Iv de, Iv dn, Iv dx, Iv d5, Iv ed, Iv el, Iv et, Iv bf, Iv bp, .bool bz, .slice p ag y]), (Iv g3)] a4 fun fy e1 =>
 ∃ f6 : Int, fy = .returned (Iv f6) ∧
 (bsplit (decide (f6 ≥ a2))
 (R (.bool false) e1)
 (fq e1)))))))))))))))))))))))
 ((kW .i64 (a2 - (1 : Int)) fun hb =>
 (kLet (decide (aj = hb)) fun hc =>
 R (.bool hc) i)))))))))) ∧
 (kLd b ⟨c, 9, none⟩ .i64 fun gi =>
 (bsplit (decide (gi = (-1 : Int)))
 ((kLd b ⟨c, 10, none⟩ .i64 fun gj =>
 (bsplit (!decide (gj = (0 : Int)))
 (e true b)
 ((kLd b ⟨c, 9, none⟩ .i64 fun gk =>
 (bsplit (!decide (gk = (-1 : Int)))
 ((kLd b ⟨c, 9, none⟩ .i64 fun gl =>
 (bsplit (decide (gl < (0 : Int)))
 (e true b)
 ((kLd b ⟨c, 9, none⟩ .i64 fun gm =>
 (bsplit (decide (gm ≥ a3))
 (e true b)
 ((∃ ch cs c0 c9 di ds d0 d8 eg eo ba bk : Int, ∃ bt : Bool, ∃ k : OA, ∃ ab s : Nat, cellsAt b ⟨c, 0, none⟩ 0 [(Iv ch), (Iv cs), (Iv c0), (Iv c9), (Iv di), (Iv ds), (Iv d0), (Iv d8), (Iv eg), (Iv eo), (Iv ba), (Iv bk), (.bool bt), (.slice k ab s)] ∧
 (kLd b ⟨c, 9, none⟩ .i64 fun gn =>
 (CP N_ref21_place #[(.agg #[Iv ch, Iv cs, Iv c0, Iv c9, Iv di, Iv ds, Iv d0, Iv d8, Iv eg, Iv eo, Iv ba, Iv bk, .bool bt, .slice k ab s]), (Iv gn)] b fun ft ex =>
 ∃ f1 : Int, ft = .returned (Iv f1) ∧
 (bsplit (decide (f1 < (1 : Int)))
 (e true ex)
 ((∃ ci ct c1 da dj dt d1 d9 eh ep bb bl : Int, ∃ bu : Bool, ∃ l : OA, ∃ ac t : Nat, cellsAt ex ⟨c, 0, none⟩ 0 [(Iv ci), (Iv ct), (Iv c1), (Iv da), (Iv dj), (Iv dt), (Iv d1), (Iv d9), (Iv eh), (Iv ep), (Iv bb), (Iv bl), (.bool bu), (.slice l ac t)] ∧
 (kLd ex ⟨c, 9, none⟩ .i64 fun go =>
 (CP N_ref21_place #[(.agg #[Iv ci, Iv ct, Iv c1, Iv da, Iv dj, Iv dt, Iv d1, Iv d9, Iv eh, Iv ep, Iv bb, Iv bl, .bool bu, .slice l ac t]), (Iv go)] ex fun fu cb =>
 ∃ f2 : Int, fu = .returned (Iv f2) ∧
 (bsplit (decide (f2 > a2))
 (e true cb)
 ((kLd cb ⟨c, 10, none⟩ .i64 fun gp =>
 (bsplit (decide (gp < (1 : Int)))
 (e true cb)
 ((kLd cb ⟨c, 10, none⟩ .i64 fun gq =>
 (kLd cb ⟨c, 3, none⟩ .i64 fun gr =>
 e (decide (gq > gr)) cb))))))))))))))))))))))
 (e false b)))))))
 ((kLd b ⟨c, 9, none⟩ .i64 fun gs =>
 (bsplit (!decide (gs = (-1 : Int)))
 ((kLd b ⟨c, 9, none⟩ .i64 fun gt =>
 (bsplit (decide (gt < (0 : Int)))
 (e true b)
 ((kLd b ⟨c, 9, none⟩ .i64 fun gu =>
 (bsplit (decide (gu ≥ a3))
 (e true b)
 ((∃ cj cu c2 db dk du d2 ea ei eq bc bm : Int, ∃ bv : Bool, ∃ m : OA, ∃ ad u : Nat, cellsAt b ⟨c, 0, none⟩ 0 [(Iv cj), (Iv cu), (Iv c2), (Iv db), (Iv dk), (Iv du), (Iv d2), (Iv ea), (Iv ei), (Iv eq), (Iv bc), (Iv bm), (.bool bv), (.slice m ad u)] ∧
 (kLd b ⟨c, 9, none⟩ .i64 fun gv =>
 (CP N_ref21_place #[(.agg #[Iv cj, Iv cu, Iv c2, Iv db, Iv dk, Iv du, Iv d2, Iv ea, Iv ei, Iv eq, Iv bc, Iv bm, .bool bv, .slice m ad u]), (Iv gv)] b fun fv ey =>
 ∃ f3 : Int, fv = .returned (Iv f3) ∧
 (bsplit (decide (f3 < (1 : Int)))
 (e true ey)
 ((∃ ck cv c3 dc dl dv d3 eb ej er bd bn : Int, ∃ bw : Bool, ∃ n : OA, ∃ ae v : Nat, cellsAt ey ⟨c, 0, none⟩ 0 [(Iv ck), (Iv cv), (Iv c3), (Iv dc), (Iv dl), (Iv dv), (Iv d3), (Iv eb), (Iv ej), (Iv er), (Iv bd), (Iv bn), (.bool bw), (.slice n ae v)] ∧
 (kLd ey ⟨c, 9, none⟩ .i64 fun gw =>
 (CP N_ref21_place #[(.agg #[Iv ck, Iv cv, Iv c3, Iv dc, Iv dl, Iv dv, Iv d3, Iv eb, Iv ej, Iv er, Iv bd, Iv bn, .bool bw, .slice n ae v]), (Iv gw)] ey fun fw h =>
 ∃ f4 : Int, fw = .returned (Iv f4) ∧
 (bsplit (decide (f4 > a2))
 (e true h)
 ((kLd h ⟨c, 10, none⟩ .i64 fun gx =>
 (bsplit (decide (gx < (1 : Int)))
 (e true h)
 ((kLd h ⟨c, 10, none⟩ .i64 fun gy =>
 (kLd h ⟨c, 3, none⟩ .i64 fun gz =>
 e (decide (gy > gz)) h))))))))))))))))))))))
 (e false b)))))))) ∧
 (kW .i64 (Int.tdiv a3 (2 : Int)) fun gg =>
 (bsplit (decide (a2 > gg))
 (R (.bool false) ew)
 ((∃ cg cr cz c8 dh dr dz d7 ef en a9 bj : Int, ∃ bs : Bool, ∃ j : OA, ∃ aa r : Nat, cellsAt ew ⟨c, 0, none⟩ 0 [(Iv cg), (Iv cr), (Iv cz), (Iv c8), (Iv dh), (Iv dr), (Iv dz), (Iv d7), (Iv ef), (Iv en), (Iv a9), (Iv bj), (.bool bs), (.slice j aa r)] ∧
 (kLd ew ⟨c, 8, none⟩ .i64 fun gh =>
 (CP N_ref21_place #[(.agg #[Iv cg, Iv cr, Iv cz, Iv c8, Iv dh, Iv dr, Iv dz, Iv d7, Iv ef, Iv en, Iv a9, Iv bj, .bool bs, .slice j aa r]), (Iv gh)] ew fun fs gb =>
 ∃ f0 : Int, fs = .returned (Iv f0) ∧
 (bsplit (decide (f0 > a2))
 (R (.bool false) gb)
 (fp gb))))))))))))))) ∧
 (kLd d ⟨c, 6, none⟩ .i64 fun hg =>
 (bsplit (decide (hg < (0 : Int)))
 (ev true d)
 ((kLd d ⟨c, 6, none⟩ .i64 fun hh =>
 (bsplit (decide (hh ≥ a3))
 (ev true d)
 ((kLd d ⟨c, 7, none⟩ .i64 fun hi =>
 (bsplit (decide (hi < (0 : Int)))
 (ev true d)
 ((kLd d ⟨c, 7, none⟩ .i64 fun hj =>
 (bsplit (decide (hj ≥ a3))
 (ev true d)
 ((kLd d ⟨c, 8, none⟩ .i64 fun hk =>
 (bsplit (decide (hk < (0 : Int)))
 (ev true d)
 ((kLd d ⟨c, 8, none⟩ .i64 fun hl =>
 (bsplit (decide (hl ≥ a3))
 (ev true d)
 ((kLd d ⟨c, 11, none⟩ .i64 fun hm =>
 (bsplit (decide (hm < (0 : Int)))
 (ev true d)
 ((kLd d ⟨c, 11, none⟩ .i64 fun gd =>
 (kLd d ⟨c, 4, none⟩ .i64 fun ge =>
 ev (decide (gd > ge)) d)))))))))))))))))))))))))))))))))
theorem F_ref21_Valid_ok {R : EP} (r_0 r_1 r_2 r_3 r_4 r_5 r_6 r_7 r_8 r_9 r_10 r_11 : Int) (r_12 : Bool) (r_13_a : OA) (r_13_l r_13_c : Nat) (w : World) (h : F_ref21_Valid r_0 r_1 r_2 r_3 r_4 r_5 r_6 r_7 r_8 r_9 r_10 r_11 r_12 r_13_a r_13_l r_13_c w fun v w' => R (.returned v) w') : CP N_ref21_Valid #[(.agg #[Iv r_0, Iv r_1, Iv r_2, Iv r_3, Iv r_4, Iv r_5, Iv r_6, Iv r_7, Iv r_8, Iv r_9, Iv r_10, Iv r_11, .bool r_12, .slice r_13_a r_13_l r_13_c])] w R :=
 calls_of (k := TTk) (h := h_ref21_Valid) (f := 35) follows_ok Tryz.func35 (Eq.mpr (by kernel_rfl) h)

def h_made_Dice_Link : H := (.seq .reg (.seq .reg .leaf))
def F_made_Dice_Link (d_b d_o : Nat) (w : World) (R : Value → WP) : Prop :=
 (kAlloc w #[Iv (0 : Int), Iv (0 : Int), Iv (0 : Int), Iv (0 : Int), Iv (0 : Int), Iv (0 : Int)] Ty_api_Link fun ad s =>
 (CP N_made_Dice_Bits #[(.pointer (some ⟨d_b, d_o, none⟩))] s fun r t =>
 ∃ ae : Int, r = .returned (Iv ae) ∧
 (CP N_made_Dice_Next #[(.pointer (some ⟨d_b, d_o, none⟩)), (Iv (6 : Int))] t fun g u =>
 ∃ l : Int, g = .returned (Iv l) ∧
 (kW .i64 ((1 : Int) + l) fun af =>
 (CP N_made_Dice_Next #[(.pointer (some ⟨d_b, d_o, none⟩)), (Iv (6 : Int))] u fun h v =>
 ∃ m : Int, h = .returned (Iv m) ∧
 (kW .i64 ((1 : Int) + m) fun aa =>
 (CP N_made_Dice_Next #[(.pointer (some ⟨d_b, d_o, none⟩)), (Iv (5 : Int))] v fun i x =>
 ∃ n : Int, i = .returned (Iv n) ∧
 (kW .i64 ((1 : Int) + n) fun ab =>
 (CP N_made_Dice_Next #[(.pointer (some ⟨d_b, d_o, none⟩)), (Iv (3 : Int))] x fun j y =>
 ∃ o : Int, j = .returned (Iv o) ∧
 (CP N_made_Dice_Next #[(.pointer (some ⟨d_b, d_o, none⟩)), (Iv (6 : Int))] y fun k z =>
 ∃ p : Int, k = .returned (Iv p) ∧
 (kW .i64 ((1 : Int) + p) fun ac =>
 (sxStore z ⟨ad, 0, none⟩ 0 [(Iv ae), (Iv af), (Iv aa), (Iv ab), (Iv o), (Iv ac)] fun q =>
 (∃ a b c d e f : Int, cellsAt q ⟨ad, 0, none⟩ 0 [(Iv a), (Iv b), (Iv c), (Iv d), (Iv e), (Iv f)] ∧
 R (.agg #[Iv a, Iv b, Iv c, Iv d, Iv e, Iv f]) q)))))))))))))
theorem F_made_Dice_Link_ok {R : EP} (d_b d_o : Nat) (w : World) (h : F_made_Dice_Link d_b d_o w fun v w' => R (.returned v) w') : CP N_made_Dice_Link #[(.pointer (some ⟨d_b, d_o, none⟩))] w R :=
 calls_of (k := TTk) (h := h_made_Dice_Link) (f := 36) follows_ok Tryz.func36 (Eq.mpr (by kernel_rfl) h)

def h_ref18_Valid : H := (.seq .reg (.seq (.cut [(65, .p .bool)] [5, 6, 7, 8, 9, 10, 11, 12, 13, 14, 15, 16, 17, 18, 19, 20, 21, 22, 23, 24, 25, 26, 27, 28, 29, 30, 31, 32, 33, 34, 35, 36, 37, 38, 39, 40, 41, 42, 43, 44, 45, 46, 47, 48, 49, 50, 51, 52, 53, 54, 55, 56, 57, 58, 59, 60, 61, 62, 63, 64, 65] .reg (.cond (.seq .reg .leaf) .leaf)) (.seq (.seq .reg (.cond (.seq .reg .leaf) .leaf)) (.seq .reg .leaf))))
def F_ref18_Valid (bits p_0 p_1 p_2 p_3 : Int) (p_4_a : OA) (p_4_l p_4_c : Nat) (w : World) (R : Value → WP) : Prop :=
 (kAlloc w #[(Iv p_0), (Iv p_1), (Iv p_2), (Iv p_3), (.slice p_4_a p_4_l p_4_c)] Ty_api_Piece fun c t =>
 (∃ d : Bool → WP,
 (∀ (_ : Env) (e : Bool) (b : World), d e b →
 (bsplit e
 (R (.bool false) b)
 ((kLd b ⟨c, 1, none⟩ .i64 fun i =>
 (bsplit (decide (i = (0 : Int)))
 ((kLd b ⟨c, 3, none⟩ .i64 fun j =>
 (kLet (decide (j = (0 : Int))) fun k =>
 R (.bool k) b)))
 ((kLd b ⟨c, 1, none⟩ .i64 fun l =>
 (bsplit (decide (l = (1 : Int)))
 ((kLd b ⟨c, 3, none⟩ .i64 fun m =>
 (kLet (decide (m = (0 : Int))) fun o =>
 R (.bool o) b)))
 ((kLd b ⟨c, 3, none⟩ .i64 fun p =>
 (kLet (decide (p > (0 : Int))) fun q =>
 R (.bool q) b))))))))))) ∧
 (CP N_ref15_Bits #[(Iv bits)] t fun s a =>
 ∃ ad : Bool, s = .returned (.bool ad) ∧
 (bsplit (!ad)
 (d true a)
 ((kLd a ⟨c, 0, none⟩ .i64 fun ae =>
 (bsplit (decide (ae < (0 : Int)))
 (d true a)
 ((kLd a ⟨c, 0, none⟩ .i64 fun u =>
 (kW .u64 (bits) fun n =>
 (0 ≤ n ∧ (kW .i64 ((1 : Int) * 2 ^ (min n.toNat (IntKind.bits .i64))) fun v =>
 (bsplit (decide (u ≥ v))
 (d true a)
 ((kLd a ⟨c, 1, none⟩ .i64 fun x =>
 (bsplit (decide (x < (0 : Int)))
 (d true a)
 ((kLd a ⟨c, 1, none⟩ .i64 fun y =>
 (bsplit (decide (y > (3 : Int)))
 (d true a)
 ((kLd a ⟨c, 2, none⟩ .i64 fun z =>
 (bsplit (decide (z < (0 : Int)))
 (d true a)
 ((kLd a ⟨c, 2, none⟩ .i64 fun aa =>
 (bsplit (decide (aa > (1 : Int)))
 (d true a)
 ((kLdS a ⟨c, 4, none⟩ fun _ r _ =>
 (bsplit (decide ((r : Int) < (1 : Int)))
 (d true a)
 ((kLd a ⟨c, 3, none⟩ .i64 fun ab =>
 (bsplit (decide (ab < (0 : Int)))
 (d true a)
 ((kLd a ⟨c, 3, none⟩ .i64 fun ac =>
 (bsplit (decide (ac > (2054 : Int)))
 (d true a)
 ((kLd a ⟨c, 3, none⟩ .i64 fun g =>
 (kLdS a ⟨c, 4, none⟩ fun _ f _ =>
 (kW .i64 (g + (f : Int)) fun h =>
 d (decide (h > (2054 : Int))) a))))))))))))))))))))))))))))))))))))))
theorem F_ref18_Valid_ok {R : EP} (bits p_0 p_1 p_2 p_3 : Int) (p_4_a : OA) (p_4_l p_4_c : Nat) (w : World) (h : F_ref18_Valid bits p_0 p_1 p_2 p_3 p_4_a p_4_l p_4_c w fun v w' => R (.returned v) w') : CP N_ref18_Valid #[(Iv bits), (.agg #[Iv p_0, Iv p_1, Iv p_2, Iv p_3, .slice p_4_a p_4_l p_4_c])] w R :=
 calls_of (k := TTk) (h := h_ref18_Valid) (f := 37) follows_ok Tryz.func37 (Eq.mpr (by kernel_rfl) h)

def h_ref01_Put : H := (.seq .reg (.seq (.seq .reg (.block (.loop [(0, .p .slice), (7, .p (.int .i64))] [0, 7, 10, 11, 12, 13, 14, 15, 16, 17, 18, 19, 20, 21, 22] (.seq (.seq .reg (.cond .leaf .leaf)) (.seq (.block .reg) .reg))))) (.seq .reg .leaf)))
def F_ref01_Put (b_a : OA) (b_l b_c : Nat) (bytes v : Int) (w : World) (R : Value → WP) : Prop :=
 (kW .i64 (bytes - (1 : Int)) fun r =>
 (∃ h : OA → Nat → Nat → Int → Nat × (WP), (h b_a b_l b_c r).2 w ∧
 (∀ (_ : Env) (a : OA) (c : Nat) (b : Nat) (i : Int) (g : World), (h a c b i).2 g →
 (bsplit (decide (i ≥ (0 : Int)))
 ((kW .i64 ((8 : Int) * i) fun n =>
 (kW .u64 (n) fun j =>
 (0 ≤ j ∧ (kLet (Int.fdiv v (2 ^ (min j.toNat (IntKind.bits .i64)))) fun o =>
 (kW .u8 (o) fun p =>
 (kAlloc g #[(.int .u8 p)] Ty_uint8 fun q l =>
 (AppP Tryz.prog #[Ty_S_uint8, Ty_S_uint8] Ty_S_uint8 #[(.slice a c b), (.slice (some ⟨q, 0, none⟩) 1 1)] l fun d f e m =>
 (kW .i64 (i - (1 : Int)) fun k =>
 ((h d f e k).2 m ∧ (h d f e k).1 < (h a c b i).1))))))))))
 (R (.slice a c b) g)))))
theorem F_ref01_Put_ok {R : EP} (b_a : OA) (b_l b_c : Nat) (bytes v : Int) (w : World) (h : F_ref01_Put b_a b_l b_c bytes v w fun v w' => R (.returned v) w') : CP N_ref01_Put #[(.slice b_a b_l b_c), (Iv bytes), (Iv v)] w R :=
 calls_of (k := TTk) (h := h_ref01_Put) (f := 38) follows_ok Tryz.func38 (Eq.mpr (by kernel_rfl) h)

def h_ref18_Head : H := (.seq .reg (.seq (.seq .reg (.cond (.seq .reg .leaf) .leaf)) (.seq .reg .leaf)))
def F_ref18_Head (part : Int) (w : World) (R : Value → WP) : Prop :=
 (bsplit (decide (part = (0 : Int)))
 (R (Iv (2 : Int)) w)
 ((bsplit (decide (part = (1 : Int)))
 (R (Iv (2 : Int)) w)
 (R (Iv (4 : Int)) w))))
theorem F_ref18_Head_ok {R : EP} (part : Int) (w : World) (h : F_ref18_Head part w fun v w' => R (.returned v) w') : CP N_ref18_Head #[(Iv part)] w R :=
 calls_of (k := TTk) (h := h_ref18_Head) (f := 39) follows_ok Tryz.func39 (Eq.mpr (by kernel_rfl) h)

def h_ref02_Low : H := (.seq .reg (.seq (.seq .reg (.cond (.seq .reg .leaf) .leaf)) (.seq .reg .leaf)))
def F_ref02_Low (n x : Int) (w : World) (R : Value → WP) : Prop :=
 (CP N_ref02_valid #[(Iv n)] w fun c a =>
 ∃ g : Bool, c = .returned (.bool g) ∧
 (bsplit (!g)
 (R (Iv (-1 : Int)) a)
 ((kW .u64 (n) fun b =>
 (0 ≤ b ∧ (kW .i64 ((1 : Int) * 2 ^ (min b.toNat (IntKind.bits .i64))) fun d =>
 (kW .i64 (d - (1 : Int)) fun e =>
 (kLet (bAnd .i64 x e) fun f =>
 R (Iv f) a))))))))
theorem F_ref02_Low_ok {R : EP} (n x : Int) (w : World) (h : F_ref02_Low n x w fun v w' => R (.returned v) w') : CP N_ref02_Low #[(Iv n), (Iv x)] w R :=
 calls_of (k := TTk) (h := h_ref02_Low) (f := 40) follows_ok Tryz.func40 (Eq.mpr (by kernel_rfl) h)

def h_made_Filled : H := (.seq .reg (.seq .reg (.seq (.seq .reg (.block (.loop [(5, .p .slice), (6, .p (.int .i64))] [5, 6, 7, 8, 9, 10, 11, 12, 13, 14, 15, 16, 17, 18, 19, 20, 21, 22] (.seq (.seq .reg (.cond .leaf .leaf)) (.seq (.block .reg) .reg))))) (.seq .reg .leaf))))
def F_made_Filled (n seed : Int) (w : World) (R : Value → WP) : Prop :=
 (∃ i : OA → Nat → Nat → Int → Nat × (WP), (i none 0 0 (0 : Int)).2 w ∧
 (∀ (_ : Env) (a : OA) (c : Nat) (b : Nat) (h : Int) (g : World), (i a c b h).2 g →
 (bsplit (decide (h < n))
 ((kW .i64 ((7 : Int) * h) fun s =>
 (kW .i64 (seed + s) fun m =>
 (kW .i64 (Int.tdiv h (16 : Int)) fun o =>
 (kW .i64 (m + o) fun p =>
 (kW .u8 (p) fun q =>
 (kAlloc g #[(.int .u8 q)] Ty_uint8 fun r k =>
 (AppP Tryz.prog #[Ty_S_uint8, Ty_S_uint8] Ty_S_uint8 #[(.slice a c b), (.slice (some ⟨r, 0, none⟩) 1 1)] k fun d f e l =>
 (kW .i64 (h + (1 : Int)) fun j =>
 ((i d f e j).2 l ∧ (i d f e j).1 < (i a c b h).1))))))))))
 (R (.slice a c b) g))))
theorem F_made_Filled_ok {R : EP} (n seed : Int) (w : World) (h : F_made_Filled n seed w fun v w' => R (.returned v) w') : CP N_made_Filled #[(Iv n), (Iv seed)] w R :=
 calls_of (k := TTk) (h := h_made_Filled) (f := 41) follows_ok Tryz.func41 (Eq.mpr (by kernel_rfl) h)

def h_made_Mod : H := (.seq .reg (.seq (.seq .reg (.cond (.seq .reg .leaf) .leaf)) (.seq .reg (.seq (.seq .reg (.cond .reg .leaf)) (.seq .reg .leaf)))))
def F_made_Mod (n m : Int) (w : World) (R : Value → WP) : Prop :=
 (bsplit (decide (m < (1 : Int)))
 (R (Iv (0 : Int)) w)
 ((m ≠ 0 ∧ (kLet (Int.tmod n m) fun a =>
 (bsplit (decide (a < (0 : Int)))
 ((kW .i64 (a + m) fun b =>
 R (Iv b) w))
 (R (Iv a) w))))))
theorem F_made_Mod_ok {R : EP} (n m : Int) (w : World) (h : F_made_Mod n m w fun v w' => R (.returned v) w') : CP N_made_Mod #[(Iv n), (Iv m)] w R :=
 calls_of (k := TTk) (h := h_made_Mod) (f := 42) follows_ok Tryz.func42 (Eq.mpr (by kernel_rfl) h)

def h_receiver_begin : H := (.seq .reg (.seq .reg (.seq (.seq .reg (.block (.loop [(12, .p (.int .i64))] [3, 4, 12, 13, 14, 15, 16, 17, 18, 19, 20, 21, 22, 23, 24, 25, 26, 27, 28, 29, 30, 31, 32, 33, 34, 35] (.seq .reg (.seq (.cond .leaf .leaf) (.seq (.block (.seq .reg (.seq .reg (.draw .cel (.one 0 .stable (.one 1 .stable (.one 2 .pre (.one 3 .pre (.one 4 .pre (.one 5 .pre (.one 7 .stable (.one 8 .stable (.one 9 .stable (.one 10 .stable (.one 6 .keep (.one 11 .keep (.one 12 .stable (.one 13 .stable (.one 14 .keep (.one 15 .stable (.one 16 .stable (.one 17 .last .nil)))))))))))))))))))))) .reg)))))) (.seq .reg .leaf))))
def F_receiver_begin (r_0 r_1 r_2 r_3 r_4 r_5 r_6 r_7 r_8 r_9 r_10 r_11 : Int) (r_12 : Bool) (r_13_a : OA) (r_13_l r_13_c : Nat) (w : World) (R : Value → WP) : Prop :=
 (kAlloc w #[(Iv r_0), (Iv r_1), (Iv r_2), (Iv r_3), (Iv r_4), (Iv r_5), (Iv r_6), (Iv r_7), (Iv r_8), (Iv r_9), (Iv r_10), (Iv r_11), (.bool r_12), (.slice r_13_a r_13_l r_13_c)] Ty_api_Receiver fun ao ar =>
 (kLdS ar ⟨ao, 13, none⟩ fun a0 a2 a1 =>
 (CP N_slices_Clone_Sapi_Partial_api_Partial #[(.slice a0 a2 a1)] ar fun a5 a6 =>
 ∃ q : OA, ∃ s r : Nat, a5 = .returned (.slice q s r) ∧
 (kSet a6 ⟨ao, 13, none⟩ (.slice q s r) fun av =>
 (kLdS av ⟨ao, 13, none⟩ fun _ aj _ =>
 (∃ an : Int → Nat × (WP), (an (0 : Int)).2 av ∧
 (∀ (_ : Env) (p : Int) (l : World), (an p).2 l →
 (bsplit (decide (p < (aj : Int)))
 ((kLdS l ⟨ao, 13, none⟩ fun ae ak _ =>
 (kIx ae ak p fun e =>
 (kDrew l fun d =>
 (∃ a3 : Addr → Prop,
 (kLdS d ((e.add (p.toNat * 5)).add 3) fun af al ah =>
 (a3 ((e.add (p.toNat * 5)).add 4) ∧
 (kLdS d ((e.add (p.toNat * 5)).add 4) fun ag am ai =>
 (CP N_slices_Clone_Sbyte_byte #[(.slice af al ah)] d fun ap aw =>
 ∃ f : OA, ∃ j h : Nat, ap = .returned (.slice f j h) ∧
 (KeepsA a3 d aw ∧ (CP N_slices_Clone_Sapi_Range_api_Range #[(.slice ag am ai)] aw fun aq ax =>
 ∃ g : OA, ∃ k i : Nat, aq = .returned (.slice g k i) ∧
 (KeepsA a3 d ax ∧ (kSet ax ((e.add (p.toNat * 5)).add 3) (.slice f j h) fun ay =>
 (KeepsA a3 d ay ∧ (kSet ay ((e.add (p.toNat * 5)).add 4) (.slice g k i) fun a7 =>
 (kW .i64 (p + (1 : Int)) fun az =>
 ((an az).2 a7 ∧ (an az).1 < (an p).1)))))))))))))))))
 ((∃ t u v x y z aa ab ac ad m n : Int, ∃ o : Bool, ∃ a : OA, ∃ c b : Nat, cellsAt l ⟨ao, 0, none⟩ 0 [(Iv t), (Iv u), (Iv v), (Iv x), (Iv y), (Iv z), (Iv aa), (Iv ab), (Iv ac), (Iv ad), (Iv m), (Iv n), (.bool o), (.slice a c b)] ∧
 (kAlloc l #[(Iv t), (Iv u), (Iv v), (Iv x), (Iv y), (Iv z), (Iv aa), (Iv ab), (Iv ac), (Iv ad), (Iv m), (Iv n), (.bool o), (.slice a c b)] Ty_receiver_side fun a4 au =>
 R (.pointer (some ⟨a4, 0, none⟩)) au)))))))))))
theorem F_receiver_begin_ok {R : EP} (r_0 r_1 r_2 r_3 r_4 r_5 r_6 r_7 r_8 r_9 r_10 r_11 : Int) (r_12 : Bool) (r_13_a : OA) (r_13_l r_13_c : Nat) (w : World) (h : F_receiver_begin r_0 r_1 r_2 r_3 r_4 r_5 r_6 r_7 r_8 r_9 r_10 r_11 r_12 r_13_a r_13_l r_13_c w fun v w' => R (.returned v) w') : CP N_receiver_begin #[(.agg #[Iv r_0, Iv r_1, Iv r_2, Iv r_3, Iv r_4, Iv r_5, Iv r_6, Iv r_7, Iv r_8, Iv r_9, Iv r_10, Iv r_11, .bool r_12, .slice r_13_a r_13_l r_13_c])] w R :=
 calls_of (k := TTk) (h := h_receiver_begin) (f := 43) follows_ok Tryz.func43 (Eq.mpr (by kernel_rfl) h)

def h_segment_Decode : H := (.seq .reg (.seq (.block (.seq .reg (.cond (.seq .reg .leaf) (.seq .reg (.cond (.seq .reg .leaf) .leaf))))) (.seq (.draw .no (.one 0 .stable (.one 1 .stable (.one 2 .stable (.one 3 .stable (.one 4 .stable (.one 5 .stable (.one 6 .stable (.one 7 .stable (.one 8 .stable (.one 9 .stable (.one 10 .stable .nil)))))))))))) (.seq .reg (.seq .reg (.seq (.seq .reg (.cond (.seq .reg .leaf) .leaf)) (.cut [] [46, 47, 48, 49, 50, 51, 52, 53, 54, 55, 56, 57, 58] (.seq .reg (.cond (.draw .no (.one 0 .pre (.one 1 .pre (.one 2 .pre (.one 3 .pre (.one 4 .pre (.one 5 .pre (.one 6 .pre (.one 7 .pre (.one 8 .pre (.one 9 .pre (.one 10 .pre (.one 11 .last .nil))))))))))))) .leaf)) (.seq .reg (.seq (.seq .reg (.cond (.seq .reg .leaf) .leaf)) (.seq .reg .leaf))))))))))
def F_segment_Decode (bits : Int) (b_a : OA) (b_l b_c : Nat) (w : World) (R : Value → WP) : Prop :=
 (kAlloc w #[Iv (0 : Int), Iv (0 : Int), Iv (0 : Int), Iv (0 : Int), .slice none 0 0] Ty_api_Piece fun ab cf =>
 (CP N_counter_Bits #[(Iv bits)] cf fun ce bl =>
 ∃ cp : Bool, ce = .returned (.bool cp) ∧
 (bsplit (!cp)
 ((sxStore bl ⟨ab, 0, none⟩ 0 [(Iv (0 : Int)), (Iv (0 : Int)), (Iv (0 : Int)), (Iv (0 : Int)), (.slice none 0 0)] fun bu =>
 (∃ ba bb bc bd : Int, ∃ x : OA, ∃ z y : Nat, cellsAt bu ⟨ab, 0, none⟩ 0 [(Iv ba), (Iv bb), (Iv bc), (Iv bd), (.slice x z y)] ∧
 R (.tuple #[(.agg #[Iv ba, Iv bb, Iv bc, Iv bd, .slice x z y]), (Iv (3 : Int))]) bu)))
 ((kLet (decide ((b_l : Int) < (2 : Int))) fun cq =>
 (bsplit cq
 ((sxStore bl ⟨ab, 0, none⟩ 0 [(Iv (0 : Int)), (Iv (0 : Int)), (Iv (0 : Int)), (Iv (0 : Int)), (.slice none 0 0)] fun bv =>
 (∃ ac ah am ar : Int, ∃ b : OA, ∃ l g : Nat, cellsAt bv ⟨ab, 0, none⟩ 0 [(Iv ac), (Iv ah), (Iv am), (Iv ar), (.slice b l g)] ∧
 R (.tuple #[(.agg #[Iv ac, Iv ah, Iv am, Iv ar, .slice b l g]), (Iv (5 : Int))]) bv)))
 ((kDrew bl fun bm =>
 (kIx b_a b_l (0 : Int) fun ca =>
 (kLd bm (ca.add ((0 : Int).toNat * 1)) .u8 fun ch =>
 (kW .i64 (ch) fun ci =>
 (kW .i64 (ci * 2 ^ 8) fun cj =>
 (kIx b_a b_l (1 : Int) fun cb =>
 (kLd bm (cb.add ((1 : Int).toNat * 1)) .u8 fun ck =>
 (kW .i64 (ck) fun cl =>
 (kLet (bOr .i64 cj cl) fun a9 =>
 (kLet (Int.fdiv a9 (2 ^ 14)) fun cm =>
 (kLet (bAnd .i64 cm (1 : Int)) fun cn =>
 (kLet (Int.fdiv a9 (2 ^ 12)) fun co =>
 (kLet (bAnd .i64 co (3 : Int)) fun bz =>
 (kLet (bAnd .i64 a9 (4095 : Int)) fun b0 =>
 (kAlloc bm #[Iv (0 : Int), Iv (0 : Int), Iv (0 : Int), Iv (0 : Int), .slice none 0 0] Ty_api_Piece fun aa cg =>
 (sxStore cg ⟨aa, 0, none⟩ 0 [(Iv b0), (Iv bz), (Iv cn), (Iv (0 : Int)), (.slice none 0 0)] fun bw =>
 (kLd bw ⟨aa, 1, none⟩ .i64 fun b1 =>
 (CP N_segment_head #[(Iv b1)] bw fun bo bn =>
 ∃ a : Int, bo = .returned (Iv a) ∧
 (bsplit (decide ((b_l : Int) ≤ a))
 ((sxStore bn ⟨ab, 0, none⟩ 0 [(Iv (0 : Int)), (Iv (0 : Int)), (Iv (0 : Int)), (Iv (0 : Int)), (.slice none 0 0)] fun bx =>
 (∃ ad ai an au : Int, ∃ c : OA, ∃ m h : Nat, cellsAt bx ⟨ab, 0, none⟩ 0 [(Iv ad), (Iv ai), (Iv an), (Iv au), (.slice c m h)] ∧
 R (.tuple #[(.agg #[Iv ad, Iv ai, Iv an, Iv au, .slice c m h]), (Iv (5 : Int))]) bx)))
 ((∃ b9 : WP,
 (∀ (_ : Env)  (bh : World), b9 bh →
 ((0 ≤ a ∧ a ≤ ((b_l : Nat) : Int)) ∧ (CP N_slices_Clone_Sbyte_byte #[(.slice (slAddr b_c (a.toNat) 1 b_a) (b_l - a.toNat) (b_c - a.toNat))] bh fun bp bt =>
 ∃ be : OA, ∃ bg bf : Nat, bp = .returned (.slice be bg bf) ∧
 (kSet bt ⟨aa, 4, none⟩ (.slice be bg bf) fun az =>
 (kLet (Int.fdiv a9 (2 ^ 15)) fun b8 =>
 (bsplit (decide (b8 = (0 : Int)))
 ((sxStore az ⟨ab, 0, none⟩ 0 [(Iv (0 : Int)), (Iv (0 : Int)), (Iv (0 : Int)), (Iv (0 : Int)), (.slice none 0 0)] fun bi =>
 (∃ ae aj ao av : Int, ∃ d : OA, ∃ n i : Nat, cellsAt bi ⟨ab, 0, none⟩ 0 [(Iv ae), (Iv aj), (Iv ao), (Iv av), (.slice d n i)] ∧
 R (.tuple #[(.agg #[Iv ae, Iv aj, Iv ao, Iv av, .slice d n i]), (Iv (4 : Int))]) bi)))
 ((∃ a1 a3 a5 a7 : Int, ∃ q : OA, ∃ u s : Nat, cellsAt az ⟨aa, 0, none⟩ 0 [(Iv a1), (Iv a3), (Iv a5), (Iv a7), (.slice q u s)] ∧
 (CP N_segment_Valid #[(Iv bits), (.agg #[Iv a1, Iv a3, Iv a5, Iv a7, .slice q u s])] az fun bq a0 =>
 ∃ br : Bool, bq = .returned (.bool br) ∧
 (bsplit (!br)
 ((sxStore a0 ⟨ab, 0, none⟩ 0 [(Iv (0 : Int)), (Iv (0 : Int)), (Iv (0 : Int)), (Iv (0 : Int)), (.slice none 0 0)] fun bj =>
 (∃ af ak ap aw : Int, ∃ e : OA, ∃ o j : Nat, cellsAt bj ⟨ab, 0, none⟩ 0 [(Iv af), (Iv ak), (Iv ap), (Iv aw), (.slice e o j)] ∧
 R (.tuple #[(.agg #[Iv af, Iv ak, Iv ap, Iv aw, .slice e o j]), (Iv (4 : Int))]) bj)))
 ((∃ a2 a4 a6 a8 : Int, ∃ r : OA, ∃ v t : Nat, cellsAt a0 ⟨aa, 0, none⟩ 0 [(Iv a2), (Iv a4), (Iv a6), (Iv a8), (.slice r v t)] ∧
 (sxStore a0 ⟨ab, 0, none⟩ 0 [(Iv a2), (Iv a4), (Iv a6), (Iv a8), (.slice r v t)] fun bk =>
 (∃ ag al aq ax : Int, ∃ f : OA, ∃ p k : Nat, cellsAt bk ⟨ab, 0, none⟩ 0 [(Iv ag), (Iv al), (Iv aq), (Iv ax), (.slice f p k)] ∧
 R (.tuple #[(.agg #[Iv ag, Iv al, Iv aq, Iv ax, .slice f p k]), (Iv (0 : Int))]) bk)))))))))))))) ∧
 (bsplit (decide (a = (4 : Int)))
 ((kDrew bn fun ay =>
 (kIx b_a b_l (2 : Int) fun cc =>
 (kLd ay (cc.add ((2 : Int).toNat * 1)) .u8 fun b2 =>
 (kW .i64 (b2) fun b3 =>
 (kW .i64 (b3 * 2 ^ 8) fun b4 =>
 (kIx b_a b_l (3 : Int) fun cd =>
 (kLd ay (cd.add ((3 : Int).toNat * 1)) .u8 fun b5 =>
 (kW .i64 (b5) fun b6 =>
 (kLet (bOr .i64 b4 b6) fun b7 =>
 (kSet ay ⟨aa, 3, none⟩ (Iv b7) fun bs =>
 b9 bs)))))))))))
 (b9 bn))))))))))))))))))))))))))))))
theorem F_segment_Decode_ok {R : EP} (bits : Int) (b_a : OA) (b_l b_c : Nat) (w : World) (h : F_segment_Decode bits b_a b_l b_c w fun v w' => R (.returned v) w') : CP N_segment_Decode #[(Iv bits), (.slice b_a b_l b_c)] w R :=
 calls_of (k := TTk) (h := h_segment_Decode) (f := 44) follows_ok Tryz.func44 (Eq.mpr (by kernel_rfl) h)

def h_segment_Ends : H := (.seq .reg (.seq .reg .leaf))
def F_segment_Ends (part : Int) (w : World) (R : Value → WP) : Prop :=
 (bsplit (decide (part = (0 : Int)))
 (R (.bool true) w)
 ((kLet (decide (part = (2 : Int))) fun a =>
 R (.bool a) w)))
theorem F_segment_Ends_ok {R : EP} (part : Int) (w : World) (h : F_segment_Ends part w fun v w' => R (.returned v) w') : CP N_segment_Ends #[(Iv part)] w R :=
 calls_of (k := TTk) (h := h_segment_Ends) (f := 45) follows_ok Tryz.func45 (Eq.mpr (by kernel_rfl) h)

def h_slices_BinarySearchFunc_Sapi_Partial_api_Partial_int : H := (.seq .reg (.seq .reg (.seq .reg (.seq (.block (.loop [(9, .p (.int .i64)), (10, .p (.int .i64))] [9, 10, 11, 15, 16, 17, 18, 19, 20, 21, 22, 23, 24, 25, 26, 27, 28, 29, 30, 31, 32, 33, 34] (.seq (.seq .reg (.cond .leaf .leaf)) (.block (.seq .reg (.seq .reg (.cond .reg .reg))))))) (.seq .reg .leaf)))))
def F_slices_BinarySearchFunc_Sapi_Partial_api_Partial_int (x_a : OA) (x_l _ : Nat) (target : Int) (cmp_g : Nat) (cmp_f : Array Value) (cmp_c : Array Value) (w : World) (R : Value → WP) : Prop :=
 (∃ s : Int → Int → Nat × (WP), (s (0 : Int) (x_l : Int)).2 w ∧
 (∀ (_ : Env) (n : Int) (x : Int) (m : World), (s n x).2 m →
 (bsplit (decide (n < x))
 ((kW .i64 (n + x) fun ak =>
 (kW .u64 (ak) fun af =>
 (kLet (Int.fdiv af (2 ^ 1)) fun ag =>
 (kW .i64 (ag) fun o =>
 (kIx x_a x_l o fun aj =>
 (∃ t : Int, ∃ u : Bool, ∃ v : Int, ∃ g : OA, ∃ i h : Nat, ∃ j : OA, ∃ l k : Nat, cellsAt m (aj.add (o.toNat * 5)) 0 [(Iv t), (.bool u), (Iv v), (.slice g i h), (.slice j l k)] ∧
 (okFn Tryz.prog cmp_g = true ∧ CP cmp_g (cmp_f ++ #[(.agg #[Iv t, .bool u, Iv v, .slice g i h, .slice j l k]), (Iv target)] ++ cmp_c) m fun ad aa =>
 ∃ ai : Int, ad = .returned (Iv ai) ∧
 (bsplit (decide (ai < (0 : Int)))
 ((kW .i64 (o + (1 : Int)) fun ab =>
 ((s ab x).2 aa ∧ (s ab x).1 < (s n x).1)))
 (((s n o).2 aa ∧ (s n o).1 < (s n x).1)))))))))))
 ((bsplit (decide (n < (x_l : Int)))
 ((kIx x_a x_l n fun ac =>
 (∃ p : Int, ∃ q : Bool, ∃ r : Int, ∃ a : OA, ∃ c b : Nat, ∃ d : OA, ∃ f e : Nat, cellsAt m (ac.add (n.toNat * 5)) 0 [(Iv p), (.bool q), (Iv r), (.slice a c b), (.slice d f e)] ∧
 (okFn Tryz.prog cmp_g = true ∧ CP cmp_g (cmp_f ++ #[(.agg #[Iv p, .bool q, Iv r, .slice a c b, .slice d f e]), (Iv target)] ++ cmp_c) m fun y ae =>
 ∃ z : Int, y = .returned (Iv z) ∧
 (kLet (decide (z = (0 : Int))) fun ah =>
 R (.tuple #[(Iv n), (.bool ah)]) ae)))))
 (R (.tuple #[(Iv n), (.bool false)]) m))))))
theorem F_slices_BinarySearchFunc_Sapi_Partial_api_Partial_int_ok {R : EP} (x_a : OA) (x_l x_c : Nat) (target : Int) (cmp_g : Nat) (cmp_f : Array Value) (cmp_c : Array Value) (w : World) (h : F_slices_BinarySearchFunc_Sapi_Partial_api_Partial_int x_a x_l x_c target cmp_g cmp_f cmp_c w fun v w' => R (.returned v) w') : CP N_slices_BinarySearchFunc_Sapi_Partial_api_Partial_int #[(.slice x_a x_l x_c), (Iv target), (.func (.func cmp_g) cmp_f cmp_c)] w R :=
 calls_of (k := TTk) (h := h_slices_BinarySearchFunc_Sapi_Partial_api_Partial_int) (f := 46) follows_ok Tryz.func46 (Eq.mpr (by kernel_rfl) h)

def h_receiver_side_place : H := (.seq .reg (.seq (.draw .blk (.one 0 .pre (.one 1 .pre (.one 2 .pre (.one 3 .pre (.one 4 .pre (.one 5 .pre (.one 6 .pre (.one 7 .pre (.one 8 .pre (.one 9 .pre (.one 10 .pre (.one 11 .pre (.one 12 .keep (.one 13 .stable .nil))))))))))))))) .leaf))
def F_receiver_side_place (s_b s_o : Nat) (n : Int) (w : World) (R : Value → WP) : Prop :=
 (kDrew w fun a =>
 (∃ f : Nat → Prop,
 (kLd a ⟨s_b, s_o, none⟩ .i64 fun g =>
 (kLd a ⟨s_b, s_o + 6, none⟩ .i64 fun d =>
 (CP N_serial_Distance #[(Iv g), (Iv d), (Iv n)] a fun c b =>
 ∃ e : Int, c = .returned (Iv e) ∧
 (KeepsB f a b ∧ R (Iv e) b))))))
theorem F_receiver_side_place_ok {R : EP} (s_b s_o : Nat) (n : Int) (w : World) (h : F_receiver_side_place s_b s_o n w fun v w' => R (.returned v) w') : CP N_receiver_side_place #[(.pointer (some ⟨s_b, s_o, none⟩)), (Iv n)] w R :=
 calls_of (k := TTk) (h := h_receiver_side_place) (f := 47) follows_ok Tryz.func47 (Eq.mpr (by kernel_rfl) h)

def h_receiver_Receive_1 : H := (.seq .reg (.seq .reg .leaf))
def F_receiver_Receive_1 (x_0 : Int) (x_1 : Bool) (x_2 : Int) (x_3_a : OA) (x_3_l x_3_c : Nat) (x_4_a : OA) (x_4_l x_4_c : Nat) (n : Int) (cap0_b cap0_o : Nat) (w : World) (R : Value → WP) : Prop :=
 (kAlloc w #[(Iv x_0), (.bool x_1), (Iv x_2), (.slice x_3_a x_3_l x_3_c), (.slice x_4_a x_4_l x_4_c)] Ty_api_Partial fun h a =>
 (∃ g : OA, a.cell? ⟨cap0_b, cap0_o, none⟩ = some (.pointer g) ∧
 (kLd a ⟨h, 0, none⟩ .i64 fun d =>
 (CP N_receiver_side_place #[(.pointer g), (Iv d)] a fun b c =>
 ∃ f : Int, b = .returned (Iv f) ∧
 (kW .i64 (f - n) fun e =>
 R (Iv e) c)))))
theorem F_receiver_Receive_1_ok {R : EP} (x_0 : Int) (x_1 : Bool) (x_2 : Int) (x_3_a : OA) (x_3_l x_3_c : Nat) (x_4_a : OA) (x_4_l x_4_c : Nat) (n : Int) (cap0_b cap0_o : Nat) (w : World) (h : F_receiver_Receive_1 x_0 x_1 x_2 x_3_a x_3_l x_3_c x_4_a x_4_l x_4_c n cap0_b cap0_o w fun v w' => R (.returned v) w') : CP N_receiver_Receive_1 #[(.agg #[Iv x_0, .bool x_1, Iv x_2, .slice x_3_a x_3_l x_3_c, .slice x_4_a x_4_l x_4_c]), (Iv n), (.pointer (some ⟨cap0_b, cap0_o, none⟩))] w R :=
 calls_of (k := TTk) (h := h_receiver_Receive_1) (f := 48) follows_ok Tryz.func48 (Eq.mpr (by kernel_rfl) h)

def h_receiver_side_refused : H := (.seq .reg (.seq (.block (.seq (.draw .blk (.one 0 .pre (.one 1 .pre (.one 2 .pre (.one 3 .pre (.one 5 .stable (.one 6 .stable (.one 7 .stable (.one 8 .stable (.one 9 .stable (.one 10 .stable (.one 11 .stable (.one 12 .stable (.one 4 .keep (.one 13 .stable (.one 14 .stable .nil)))))))))))))))) (.cond (.seq .reg .leaf) (.seq .reg (.cond (.seq .reg .leaf) (.seq .reg (.cond (.seq .reg .leaf) (.seq (.draw .blk (.one 0 .pre (.one 1 .pre (.one 2 .pre (.one 3 .pre (.one 4 .pre (.one 5 .pre (.one 6 .pre (.one 7 .pre (.one 8 .pre (.one 9 .keep (.one 10 .stable .nil)))))))))))) (.cond (.seq .reg .leaf) (.seq (.draw .blk (.one 0 .pre (.one 1 .pre (.one 2 .pre (.one 3 .pre (.one 4 .pre (.one 5 .pre (.one 6 .pre (.one 7 .pre (.one 8 .pre (.one 9 .keep (.one 10 .stable .nil)))))))))))) (.cond (.seq .reg .leaf) .leaf))))))))))) (.seq .reg .leaf)))
def F_receiver_side_refused (s_b s_o : Nat) (p_0 p_1 p_2 p_3 : Int) (p_4_a : OA) (p_4_l p_4_c : Nat) (p_5 : Int) (p_6 : Bool) (at1 : Int) (found : Bool) (w : World) (R : Value → WP) : Prop :=
 (kAlloc w #[(Iv p_0), (Iv p_1), (Iv p_2), (Iv p_3), (.slice p_4_a p_4_l p_4_c), (Iv p_5), (.bool p_6)] Ty_receiver_piece fun a6 bb =>
 (kDrew bb fun ai =>
 (∃ bg : Nat → Prop,
 (kLd ai ⟨a6, 0, none⟩ .i64 fun bi =>
 (bg s_b ∧
 (kLd ai ⟨s_b, s_o, none⟩ .i64 fun bc =>
 (kW .i64 (bc - (1 : Int)) fun a1 =>
 (0 ≤ a1 ∧ (kW .i64 ((1 : Int) * 2 ^ (min a1.toNat (IntKind.bits .i64))) fun bd =>
 (CP N_receiver_side_place #[(.pointer (some ⟨s_b, s_o, none⟩)), (Iv bi)] ai fun ba m =>
 ∃ bh : Int, ba = .returned (Iv bh) ∧
 (KeepsB bg ai m ∧ (kLet (decide (bh ≥ bd)) fun be =>
 (bsplit be
 (R (Iv (11 : Int)) m)
 ((bsplit (!found)
 (R (Iv (0 : Int)) m)
 ((kLdS m ⟨s_b, s_o + 13, none⟩ fun a2 a3 _ =>
 (kIx a2 a3 at1 fun a7 =>
 (kLdB m ((a7.add (at1.toNat * 5)).add 1) fun bf =>
 (bsplit bf
 (R (Iv (12 : Int)) m)
 ((kDrew m fun t =>
 (∃ a4 : Nat → Prop,
 (∃ aj ak al am : Int, ∃ q : OA, ∃ s r : Nat, ∃ an : Int, ∃ ao : Bool, cellsAt t ⟨a6, 0, none⟩ 0 [(Iv aj), (Iv ak), (Iv al), (Iv am), (.slice q s r), (Iv an), (.bool ao)] ∧
 (kLdS t ⟨s_b, s_o + 13, none⟩ fun ar av _ =>
 (kIx ar av at1 fun a8 =>
 (∃ v : Int, ∃ z : Bool, ∃ ac : Int, ∃ n : OA, ∃ p o : Nat, ∃ d : OA, ∃ j g : Nat, cellsAt t (a8.add (at1.toNat * 5)) 0 [(Iv v), (.bool z), (Iv ac), (.slice n p o), (.slice d j g)] ∧
 (CP N_receiver_piece_contradicts #[(.agg #[Iv aj, Iv ak, Iv al, Iv am, .slice q s r, Iv an, .bool ao]), (.agg #[Iv v, .bool z, Iv ac, .slice n p o, .slice d j g])] t fun ax ap =>
 ∃ az : Bool, ax = .returned (.bool az) ∧
 (KeepsB a4 t ap ∧ (bsplit az
 (R (Iv (4 : Int)) ap)
 ((kDrew ap fun u =>
 (∃ a5 : Nat → Prop,
 (∃ x aa ad af : Int, ∃ e : OA, ∃ k h : Nat, ∃ ag : Int, ∃ ah : Bool, cellsAt u ⟨a6, 0, none⟩ 0 [(Iv x), (Iv aa), (Iv ad), (Iv af), (.slice e k h), (Iv ag), (.bool ah)] ∧
 (kLdS u ⟨s_b, s_o + 13, none⟩ fun au aw _ =>
 (kIx au aw at1 fun a9 =>
 (∃ y : Int, ∃ ab : Bool, ∃ ae : Int, ∃ a : OA, ∃ c b : Nat, ∃ f : OA, ∃ l i : Nat, cellsAt u (a9.add (at1.toNat * 5)) 0 [(Iv y), (.bool ab), (Iv ae), (.slice a c b), (.slice f l i)] ∧
 (CP N_receiver_piece_known #[(.agg #[Iv x, Iv aa, Iv ad, Iv af, .slice e k h, Iv ag, .bool ah]), (.agg #[Iv y, .bool ab, Iv ae, .slice a c b, .slice f l i])] u fun ay aq =>
 ∃ a0 : Bool, ay = .returned (.bool a0) ∧
 (KeepsB a5 u aq ∧ (bsplit a0
 (R (Iv (12 : Int)) aq)
 (R (Iv (0 : Int)) aq)))))))))))))))))))))))))))))))))))))))))
theorem F_receiver_side_refused_ok {R : EP} (s_b s_o : Nat) (p_0 p_1 p_2 p_3 : Int) (p_4_a : OA) (p_4_l p_4_c : Nat) (p_5 : Int) (p_6 : Bool) (at1 : Int) (found : Bool) (w : World) (h : F_receiver_side_refused s_b s_o p_0 p_1 p_2 p_3 p_4_a p_4_l p_4_c p_5 p_6 at1 found w fun v w' => R (.returned v) w') : CP N_receiver_side_refused #[(.pointer (some ⟨s_b, s_o, none⟩)), (.agg #[Iv p_0, Iv p_1, Iv p_2, Iv p_3, .slice p_4_a p_4_l p_4_c, Iv p_5, .bool p_6]), (Iv at1), (.bool found)] w R :=
 calls_of (k := TTk) (h := h_receiver_side_refused) (f := 49) follows_ok Tryz.func49 (Eq.mpr (by kernel_rfl) h)

def h_receiver_side_poll : H := (.seq .reg (.seq .reg (.cond .reg .leaf)))
def F_receiver_side_poll (s_b s_o : Nat) (p_0 p_1 p_2 p_3 : Int) (p_4_a : OA) (p_4_l p_4_c : Nat) (w : World) (R : Value → WP) : Prop :=
 (kAlloc w #[(Iv p_0), (Iv p_1), (Iv p_2), (Iv p_3), (.slice p_4_a p_4_l p_4_c)] Ty_api_Piece fun e a =>
 (kLd a ⟨e, 2, none⟩ .i64 fun f =>
 (bsplit (decide (f = (1 : Int)))
 ((kLd a ⟨s_b, s_o + 7, none⟩ .i64 fun d =>
 (kSet a ⟨s_b, s_o + 12, none⟩ (.bool true) fun b =>
 (kSet b ⟨s_b, s_o + 8, none⟩ (Iv d) fun c =>
 R (.tuple #[]) c))))
 (R (.tuple #[]) a))))
theorem F_receiver_side_poll_ok {R : EP} (s_b s_o : Nat) (p_0 p_1 p_2 p_3 : Int) (p_4_a : OA) (p_4_l p_4_c : Nat) (w : World) (h : F_receiver_side_poll s_b s_o p_0 p_1 p_2 p_3 p_4_a p_4_l p_4_c w fun v w' => R (.returned v) w') : CP N_receiver_side_poll #[(.pointer (some ⟨s_b, s_o, none⟩)), (.agg #[Iv p_0, Iv p_1, Iv p_2, Iv p_3, .slice p_4_a p_4_l p_4_c])] w R :=
 calls_of (k := TTk) (h := h_receiver_side_poll) (f := 50) follows_ok Tryz.func50 (Eq.mpr (by kernel_rfl) h)

def h_slices_Insert_Sapi_Partial_api_Partial : H := (.seq .reg (.seq .reg (.seq .reg (.seq (.seq .reg (.cond (.seq .reg .leaf) .leaf)) (.seq .reg (.seq (.seq .reg (.cond (.seq .reg .leaf) .leaf)) (.seq (.seq .reg (.cond (.seq .reg (.seq .reg (.seq (.draw .no (.one 0 .pre (.one 1 .pre (.one 2 .pre (.one 3 .pre (.one 4 .pre (.one 5 .pre (.one 6 .pre (.one 7 .pre (.one 8 .last .nil)))))))))) (.seq .reg .leaf)))) .leaf)) (.seq .reg (.seq (.seq .reg (.cond (.seq (.draw .no (.one 0 .pre (.one 1 .pre (.one 2 .pre (.one 3 .pre (.one 4 .pre (.one 5 .pre (.one 6 .pre (.one 7 .pre (.one 8 .last .nil)))))))))) (.seq .reg (.seq .reg .leaf))) .leaf)) (.seq .reg (.seq .reg (.seq .reg .leaf))))))))))))
def F_slices_Insert_Sapi_Partial_api_Partial (s_a : OA) (s_l s_c : Nat) (i : Int) (v_a : OA) (v_l v_c : Nat) (w : World) (R : Value → WP) : Prop :=
 ((0 ≤ i ∧ i ≤ ((s_l : Nat) : Int)) ∧ (bsplit (decide ((v_l : Int) = (0 : Int)))
 (R (.slice s_a s_l s_c) w)
 ((bsplit (decide (i = (s_l : Int)))
 ((AppP Tryz.prog #[Ty_S_api_Partial, Ty_S_api_Partial] Ty_S_api_Partial #[(.slice s_a s_l s_c), (.slice v_a v_l v_c)] w fun m o n q =>
 R (.slice m o n) q))
 ((kW .i64 ((s_l : Int) + (v_l : Int)) fun ac =>
 (bsplit (decide (ac > (s_c : Int)))
 (((0 ≤ i ∧ i ≤ ((s_c : Nat) : Int)) ∧ (kW .i64 ((s_l : Int) + (v_l : Int)) fun z =>
 (kW .i64 (z - i) fun aa =>
 (AppP Tryz.prog #[Ty_S_api_Partial, Ty_int] Ty_S_api_Partial #[(.slice (slAddr s_c 0 5 s_a) (i.toNat - 0) (s_c - 0)), (Iv aa)] w fun d c b r =>
 ((0 ≤ i ∧ i ≤ ((c : Nat) : Int)) ∧ (CopyP Tryz.prog #[Ty_S_api_Partial, Ty_S_api_Partial] Ty_int #[(.slice (slAddr b (i.toNat) 5 d) (c - i.toNat) (b - i.toNat)), (.slice v_a v_l v_c)] r fun _ s =>
 (kDrew s fun t =>
 (kW .i64 (i + (v_l : Int)) fun e =>
 ((0 ≤ e ∧ e ≤ ((c : Nat) : Int)) ∧ ((0 ≤ i ∧ i ≤ ((s_l : Nat) : Int)) ∧ (CopyP Tryz.prog #[Ty_S_api_Partial, Ty_S_api_Partial] Ty_int #[(.slice (slAddr b (e.toNat) 5 d) (c - e.toNat) (b - e.toNat)), (.slice (slAddr s_c (i.toNat) 5 s_a) (s_l - i.toNat) (s_c - i.toNat))] t fun _ u =>
 R (.slice d c b) u))))))))))))
 ((kW .i64 ((s_l : Int) + (v_l : Int)) fun a =>
 ((0 ≤ a ∧ a ≤ ((s_c : Nat) : Int)) ∧ (kW .i64 (i + (v_l : Int)) fun f =>
 ((0 ≤ f ∧ f ≤ (((a.toNat - 0) : Nat) : Int)) ∧ (ExtC Tryz.prog N_slices_overlaps_api_Partial #[(.slice v_a v_l v_c), (.slice (slAddr (s_c - 0) (f.toNat) 5 (slAddr s_c 0 5 s_a)) ((a.toNat - 0) - f.toNat) ((s_c - 0) - f.toNat))] w fun p l =>
 ∃ ab : Bool, p = .returned (.bool ab) ∧
 (bsplit (!ab)
 ((kDrew l fun v =>
 (kW .i64 (i + (v_l : Int)) fun g =>
 ((0 ≤ g ∧ g ≤ (((a.toNat - 0) : Nat) : Int)) ∧ ((0 ≤ i ∧ i ≤ (((a.toNat - 0) : Nat) : Int)) ∧ (CopyP Tryz.prog #[Ty_S_api_Partial, Ty_S_api_Partial] Ty_int #[(.slice (slAddr (s_c - 0) (g.toNat) 5 (slAddr s_c 0 5 s_a)) ((a.toNat - 0) - g.toNat) ((s_c - 0) - g.toNat)), (.slice (slAddr (s_c - 0) (i.toNat) 5 (slAddr s_c 0 5 s_a)) ((a.toNat - 0) - i.toNat) ((s_c - 0) - i.toNat))] v fun _ x =>
 ((0 ≤ i ∧ i ≤ (((a.toNat - 0) : Nat) : Int)) ∧ (CopyP Tryz.prog #[Ty_S_api_Partial, Ty_S_api_Partial] Ty_int #[(.slice (slAddr (s_c - 0) (i.toNat) 5 (slAddr s_c 0 5 s_a)) ((a.toNat - 0) - i.toNat) ((s_c - 0) - i.toNat)), (.slice v_a v_l v_c)] x fun _ y =>
 R (.slice (slAddr s_c 0 5 s_a) (a.toNat - 0) (s_c - 0)) y))))))))
 (((0 ≤ (s_l : Int) ∧ (s_l : Int) ≤ (((a.toNat - 0) : Nat) : Int)) ∧ (CopyP Tryz.prog #[Ty_S_api_Partial, Ty_S_api_Partial] Ty_int #[(.slice (slAddr (s_c - 0) ((s_l : Int).toNat) 5 (slAddr s_c 0 5 s_a)) ((a.toNat - 0) - (s_l : Int).toNat) ((s_c - 0) - (s_l : Int).toNat)), (.slice v_a v_l v_c)] l fun _ j =>
 ((0 ≤ i ∧ i ≤ (((a.toNat - 0) : Nat) : Int)) ∧ (CP N_slices_rotateRight_api_Partial #[(.slice (slAddr (s_c - 0) (i.toNat) 5 (slAddr s_c 0 5 s_a)) ((a.toNat - 0) - i.toNat) ((s_c - 0) - i.toNat)), (Iv (v_l : Int))] j fun h k =>
 h = .returned (.tuple #[]) ∧
 R (.slice (slAddr s_c 0 5 s_a) (a.toNat - 0) (s_c - 0)) k)))))))))))))))))))
theorem F_slices_Insert_Sapi_Partial_api_Partial_ok {R : EP} (s_a : OA) (s_l s_c : Nat) (i : Int) (v_a : OA) (v_l v_c : Nat) (w : World) (h : F_slices_Insert_Sapi_Partial_api_Partial s_a s_l s_c i v_a v_l v_c w fun v w' => R (.returned v) w') : CP N_slices_Insert_Sapi_Partial_api_Partial #[(.slice s_a s_l s_c), (Iv i), (.slice v_a v_l v_c)] w R :=
 calls_of (k := TTk) (h := h_slices_Insert_Sapi_Partial_api_Partial) (f := 51) follows_ok Tryz.func51 (Eq.mpr (by kernel_rfl) h)

def h_receiver_side_behind : H := (.seq .reg (.seq .reg .leaf))
def F_receiver_side_behind (s_b s_o : Nat) (n : Int) (w : World) (R : Value → WP) : Prop :=
 (kLd w ⟨s_b, s_o, none⟩ .i64 fun e =>
 (kW .i64 (n + (1 : Int)) fun c =>
 (CP N_serial_Low #[(Iv e), (Iv c)] w fun a b =>
 ∃ d : Int, a = .returned (Iv d) ∧
 R (Iv d) b)))
theorem F_receiver_side_behind_ok {R : EP} (s_b s_o : Nat) (n : Int) (w : World) (h : F_receiver_side_behind s_b s_o n w fun v w' => R (.returned v) w') : CP N_receiver_side_behind #[(.pointer (some ⟨s_b, s_o, none⟩)), (Iv n)] w R :=
 calls_of (k := TTk) (h := h_receiver_side_behind) (f := 52) follows_ok Tryz.func52 (Eq.mpr (by kernel_rfl) h)

def h_receiver_piece_put : H := (.seq .reg (.cut [] [4, 5, 6, 7, 8, 9, 10, 11, 12, 13, 14, 15, 16, 17, 18, 19, 20, 21, 22, 23] (.seq (.draw .no (.one 0 .pur (.one 1 .stable (.one 2 .pur (.one 3 .pur (.one 4 .pur (.one 5 .stable (.one 6 .pur (.one 7 .pur (.one 8 .pur .nil)))))))))) (.seq .reg (.cond .reg .leaf))) (.seq (.draw .no (.one 0 .pur (.one 1 .pur (.one 2 .pur (.one 3 .pre (.one 4 .pur (.one 5 .pur (.one 6 .pre (.one 7 .pur (.one 8 .pur (.one 9 .pur (.one 10 .pre (.one 11 .last .nil))))))))))))) (.seq (.draw .blk (.one 0 .pur (.one 1 .pur (.one 2 .pur (.one 3 .pur (.one 4 .stable (.one 5 .pur (.one 6 .pur (.one 7 .pre (.one 8 .pur (.one 9 .pur (.one 10 .pre (.one 11 .pur (.one 12 .pre (.one 13 .keep (.one 14 .last (.one 15 .pur (.one 16 .pur (.one 17 .pur (.one 18 .pur (.one 19 .pur (.one 20 .last .nil)))))))))))))))))))))) (.seq .reg (.cond .reg .leaf))))))
def F_receiver_piece_put (p_0 p_1 p_2 p_3 : Int) (p_4_a : OA) (p_4_l p_4_c : Nat) (p_5 : Int) (p_6 : Bool) (x_b x_o : Nat) (w : World) (R : Value → WP) : Prop :=
 (kAlloc w #[(Iv p_0), (Iv p_1), (Iv p_2), (Iv p_3), (.slice p_4_a p_4_l p_4_c), (Iv p_5), (.bool p_6)] Ty_receiver_piece fun h af =>
 (∃ ad : WP,
 (∀ (_ : Env)  (aa : World), ad aa →
 (kDrew aa fun g =>
 (kLdS g ⟨x_b, x_o + 3, none⟩ fun n f e =>
 (kLd g ⟨h, 3, none⟩ .i64 fun d =>
 ((0 ≤ d ∧ d ≤ ((f : Nat) : Int)) ∧ (kLdS g ⟨h, 4, none⟩ fun o x s =>
 (CopyP Tryz.prog #[Ty_S_uint8, Ty_S_uint8] Ty_int #[(.slice (slAddr e (d.toNat) 1 n) (f - d.toNat) (e - d.toNat)), (.slice o x s)] g fun _ ai =>
 (kDrew ai fun a =>
 (∃ ap : Nat → Prop,
 (ap x_b ∧
 (kLdS a ⟨x_b, x_o + 4, none⟩ fun p y t =>
 (kLd a ⟨h, 0, none⟩ .i64 fun ak =>
 (kLd a ⟨h, 3, none⟩ .i64 fun al =>
 (kLd a ⟨h, 5, none⟩ .i64 fun am =>
 (KeepsB ap a a ∧ (CP N_segment_Union #[(.slice p y t), (.agg #[Iv ak, Iv al, Iv am])] a fun ae aj =>
 ∃ i : OA, ∃ k j : Nat, ∃ aq : Int, ae = .returned (.tuple #[(.slice i k j), (Iv aq)]) ∧
 (kSet aj ⟨x_b, x_o + 4, none⟩ (.slice i k j) fun b =>
 (kLdB b ⟨h, 6, none⟩ fun an =>
 (bsplit an
 ((kLd b ⟨h, 5, none⟩ .i64 fun ao =>
 (kSet b ⟨x_b, x_o + 2, none⟩ (Iv ao) fun z =>
 R (.tuple #[]) z)))
 (R (.tuple #[]) b)))))))))))))))))))) ∧
 (kDrew af fun c =>
 (kLd c ⟨h, 5, none⟩ .i64 fun ar =>
 (kLdS c ⟨x_b, x_o + 3, none⟩ fun _ ac _ =>
 (kW .i64 (ar - (ac : Int)) fun ab =>
 (bsplit (decide (ab > (0 : Int)))
 ((kLdS c ⟨x_b, x_o + 3, none⟩ fun l u q =>
 (AppP Tryz.prog #[Ty_S_uint8, Ty_int] Ty_S_uint8 #[(.slice l u q), (Iv ab)] c fun m v r ag =>
 (kSet ag ⟨x_b, x_o + 3, none⟩ (.slice m v r) fun ah =>
 ad ah))))
 (ad c))))))))
theorem F_receiver_piece_put_ok {R : EP} (p_0 p_1 p_2 p_3 : Int) (p_4_a : OA) (p_4_l p_4_c : Nat) (p_5 : Int) (p_6 : Bool) (x_b x_o : Nat) (w : World) (h : F_receiver_piece_put p_0 p_1 p_2 p_3 p_4_a p_4_l p_4_c p_5 p_6 x_b x_o w fun v w' => R (.returned v) w') : CP N_receiver_piece_put #[(.agg #[Iv p_0, Iv p_1, Iv p_2, Iv p_3, .slice p_4_a p_4_l p_4_c, Iv p_5, .bool p_6]), (.pointer (some ⟨x_b, x_o, none⟩))] w R :=
 calls_of (k := TTk) (h := h_receiver_piece_put) (f := 53) follows_ok Tryz.func53 (Eq.mpr (by kernel_rfl) h)

def h_receiver_complete : H := (.seq .reg (.seq (.draw .no (.one 0 .stable (.one 1 .stable (.one 2 .stable (.one 3 .stable (.one 4 .stable (.one 5 .stable (.one 6 .stable (.one 7 .stable (.one 8 .stable (.one 9 .stable (.one 10 .stable (.one 11 .stable (.one 12 .stable (.one 13 .stable (.one 14 .stable (.one 15 .stable (.one 16 .stable (.one 17 .stable (.one 18 .stable (.one 19 .stable (.one 20 .stable (.one 21 .stable (.one 22 .stable (.one 23 .stable (.one 24 .stable (.one 25 .stable (.one 26 .stable (.one 27 .stable .nil))))))))))))))))))))))))))))) .leaf))
def F_receiver_complete (p_0 : Int) (p_1 : Bool) (p_2 : Int) (p_3_a : OA) (p_3_l p_3_c : Nat) (p_4_a : OA) (p_4_l p_4_c : Nat) (w : World) (R : Value → WP) : Prop :=
 (kAlloc w #[(Iv p_0), (.bool p_1), (Iv p_2), (.slice p_3_a p_3_l p_3_c), (.slice p_4_a p_4_l p_4_c)] Ty_api_Partial fun f j =>
 (kDrew j fun a =>
 (kLd a ⟨f, 2, none⟩ .i64 fun o =>
 (bsplit (decide (o > (0 : Int)))
 ((kLdS a ⟨f, 4, none⟩ fun _ g _ =>
 (bsplit (decide ((g : Int) = (1 : Int)))
 ((kLdS a ⟨f, 4, none⟩ fun b d _ =>
 (kIx b d (0 : Int) fun h =>
 (kLd a ((h.add ((0 : Int).toNat * 3)).add 1) .i64 fun k =>
 (bsplit (decide (k = (0 : Int)))
 ((kLdS a ⟨f, 4, none⟩ fun c e _ =>
 (kIx c e (0 : Int) fun i =>
 (kLd a ((i.add ((0 : Int).toNat * 3)).add 2) .i64 fun l =>
 (kLd a ⟨f, 2, none⟩ .i64 fun m =>
 (kLet (decide (l = m)) fun n =>
 R (.bool n) a))))))
 (R (.bool false) a))))))
 (R (.bool false) a))))
 (R (.bool false) a)))))
theorem F_receiver_complete_ok {R : EP} (p_0 : Int) (p_1 : Bool) (p_2 : Int) (p_3_a : OA) (p_3_l p_3_c : Nat) (p_4_a : OA) (p_4_l p_4_c : Nat) (w : World) (h : F_receiver_complete p_0 p_1 p_2 p_3_a p_3_l p_3_c p_4_a p_4_l p_4_c w fun v w' => R (.returned v) w') : CP N_receiver_complete #[(.agg #[Iv p_0, .bool p_1, Iv p_2, .slice p_3_a p_3_l p_3_c, .slice p_4_a p_4_l p_4_c])] w R :=
 calls_of (k := TTk) (h := h_receiver_complete) (f := 54) follows_ok Tryz.func54 (Eq.mpr (by kernel_rfl) h)

def h_receiver_side_advance : H := (.cut [] [2, 3, 4, 5, 6, 7, 8, 9, 10, 11, 12, 13, 14, 15, 16, 17, 18, 19, 20, 21, 22, 23, 24, 25, 26, 27, 28, 29, 30, 31, 32, 33, 34, 35, 36, 37, 38, 39, 40, 41, 42, 43, 44, 45, 46, 47, 48, 49, 50, 51, 52, 53, 54, 55] (.block (.loopG [] [2, 3, 4, 5, 6, 7, 8, 9, 10, 11, 12, 13, 14, 15, 16, 17, 18, 19, 20, 21, 22, 23, 24, 25, 26, 27, 28, 29, 30, 31, 32, 33, 34, 35, 36, 37, 38, 39, 40, 41, 42, 43, 44, 45, 46, 47, 48, 49, 50, 51, 52, 53, 54, 55] (.cut [] [2, 3, 4, 5, 6, 7, 8, 9, 10, 11, 12, 13, 14, 15, 16, 17, 18, 19, 20, 21, 22, 23, 24, 25, 26, 27, 28, 29, 30, 31, 32, 33, 34] (.seq (.draw .no (.one 0 .stable (.one 1 .stable (.one 2 .stable (.one 3 .stable (.one 4 .stable (.one 5 .stable (.one 6 .stable (.one 7 .stable (.one 8 .stable (.one 9 .stable (.one 10 .stable (.one 11 .stable (.one 12 .stable (.one 13 .stable (.one 14 .stable (.one 15 .stable (.one 16 .stable (.one 17 .stable (.one 18 .stable (.one 19 .stable (.one 20 .stable (.one 21 .stable (.one 22 .stable (.one 23 .stable (.one 24 .stable (.one 25 .stable (.one 26 .stable (.one 27 .stable (.one 28 .stable (.one 29 .stable (.one 30 .stable (.one 31 .stable (.one 32 .stable .nil)))))))))))))))))))))))))))))))))) (.cond .leaf .leaf)) (.block (.seq .reg .reg))))) (.seq (.draw .blk (.one 0 .pre (.one 1 .pre (.one 2 .pre (.one 3 .pre (.one 4 .pre (.one 5 .pre (.one 7 .stable (.one 8 .stable (.one 9 .stable (.one 10 .stable (.one 11 .stable (.one 12 .stable (.one 6 .keep (.one 13 .keep (.one 14 .stable .nil)))))))))))))))) (.cond .reg .leaf)))
def F_receiver_side_advance (s_b s_o : Nat) (w : World) (R : Value → WP) : Prop :=
 (∃ x : WP,
 (∀ (_ : Env)  (t : World), x t →
 (kDrew t fun c =>
 (∃ z : Nat → Prop,
 (kLd c ⟨s_b, s_o + 8, none⟩ .i64 fun ah =>
 (z s_b ∧
 (kLd c ⟨s_b, s_o + 7, none⟩ .i64 fun ai =>
 (CP N_receiver_side_place #[(.pointer (some ⟨s_b, s_o, none⟩)), (Iv ah)] c fun m u =>
 ∃ o : Int, m = .returned (Iv o) ∧
 (KeepsB z c u ∧ (CP N_receiver_side_place #[(.pointer (some ⟨s_b, s_o, none⟩)), (Iv ai)] u fun n b =>
 ∃ p : Int, n = .returned (Iv p) ∧
 (KeepsB z c b ∧ (bsplit (decide (o > p))
 ((kLd b ⟨s_b, s_o + 6, none⟩ .i64 fun aj =>
 (kSet b ⟨s_b, s_o + 8, none⟩ (Iv aj) fun r =>
 R (.tuple #[]) r)))
 (R (.tuple #[]) b)))))))))))) ∧
 (∃ y : Nat → WP, (∃ m' : Nat, y m' w) ∧
 (∀ (_ : Env)  (ak : Nat) (q : World), y ak q →
 (∃ l : WP,
 (∀ (_ : Env)  (f : World), l f →
 (kLdS f ⟨s_b, s_o + 13, none⟩ fun i e d =>
 ((0 ≤ (1 : Int) ∧ (1 : Int) ≤ ((e : Nat) : Int)) ∧ (kSet f ⟨s_b, s_o + 13, none⟩ (.slice (slAddr d ((1 : Int).toNat) 5 i) (e - (1 : Int).toNat) (d - (1 : Int).toNat)) fun s =>
 (kLd s ⟨s_b, s_o + 6, none⟩ .i64 fun ag =>
 (CP N_receiver_side_behind #[(.pointer (some ⟨s_b, s_o, none⟩)), (Iv ag)] s fun ab ac =>
 ∃ al : Int, ab = .returned (Iv al) ∧
 (kSet ac ⟨s_b, s_o + 6, none⟩ (Iv al) fun ad =>
 (∃ m' : Nat, m' < ak ∧ y m' ad)))))))) ∧
 (kDrew q fun a =>
 (kLdS a ⟨s_b, s_o + 13, none⟩ fun _ v _ =>
 (bsplit (decide ((v : Int) > (0 : Int)))
 ((kLdS a ⟨s_b, s_o + 13, none⟩ fun g j _ =>
 (kIx g j (0 : Int) fun am =>
 (kLd a (am.add ((0 : Int).toNat * 5)) .i64 fun an =>
 (kLd a ⟨s_b, s_o + 6, none⟩ .i64 fun ae =>
 (bsplit (decide (an = ae))
 ((kLdS a ⟨s_b, s_o + 13, none⟩ fun h k _ =>
 (kIx h k (0 : Int) fun aa =>
 (kLdB a ((aa.add ((0 : Int).toNat * 5)).add 1) fun af =>
 (bsplit af
 (l a)
 (x a))))))
 (x a)))))))
 (x a))))))))
theorem F_receiver_side_advance_ok {R : EP} (s_b s_o : Nat) (w : World) (h : F_receiver_side_advance s_b s_o w fun v w' => R (.returned v) w') : CP N_receiver_side_advance #[(.pointer (some ⟨s_b, s_o, none⟩))] w R :=
 calls_of (k := TTk) (h := h_receiver_side_advance) (f := 55) follows_ok Tryz.func55 (Eq.mpr (by kernel_rfl) h)

def h_receiver_side_start : H := (.cut [] [2, 3, 4, 5, 6, 7, 8, 9, 10, 11, 12, 13, 14, 15, 16, 17, 18, 19, 20, 21, 22, 23, 24, 25, 26, 27, 28, 29, 30, 31, 32, 33, 34, 35, 36, 37, 38, 39, 40, 41, 42] (.cut [(34, .p .bool)] [2, 3, 4, 5, 6, 7, 8, 9, 10, 11, 12, 13, 14, 15, 16, 17, 18, 19, 20, 21, 22, 23, 24, 25, 26, 27, 28, 29, 30, 31, 32, 33, 34] (.draw .blk (.one 0 .pre (.one 1 .pre (.one 2 .pre (.one 3 .pre (.one 4 .pre (.one 5 .pre (.one 6 .pre (.one 7 .pre (.one 8 .pre (.one 9 .pre (.one 10 .pre (.one 11 .pre (.one 12 .pre (.one 13 .keep (.one 14 .stable (.one 15 .stable (.one 16 .stable (.one 17 .stable (.one 18 .stable (.one 19 .stable (.one 20 .stable (.one 21 .stable (.one 23 .stable (.one 24 .stable (.one 25 .stable (.one 26 .stable (.one 27 .stable (.one 28 .stable (.one 22 .keep (.one 29 .keep (.one 30 .stable (.one 31 .stable (.one 32 .stable .nil)))))))))))))))))))))))))))))))))) (.cond .reg .leaf)) (.cut [(61, .p .bool)] [43, 44, 45, 46, 47, 48, 49, 50, 51, 52, 53, 54, 55, 56, 57, 58, 59, 60, 61] (.draw .no (.one 0 .stable (.one 1 .stable (.one 2 .stable (.one 3 .stable (.one 4 .stable (.one 5 .stable (.one 6 .stable (.one 7 .stable (.one 8 .stable (.one 9 .stable (.one 10 .stable (.one 11 .stable (.one 12 .stable (.one 13 .stable (.one 14 .stable (.one 15 .stable (.one 16 .stable (.one 17 .stable (.one 18 .stable .nil)))))))))))))))))))) (.cond (.draw .blk (.one 0 .pre (.one 1 .stable (.one 2 .pre (.one 3 .pre (.one 4 .pre (.one 5 .pre (.one 6 .pre (.one 7 .pre (.one 8 .pre (.one 9 .pre (.one 10 .pre (.one 11 .pre (.one 12 .pre (.one 13 .pre (.one 14 .pre (.one 15 .pre (.one 16 .keep (.one 17 .stable (.one 18 .stable (.one 19 .stable (.one 20 .last .nil)))))))))))))))))))))) .leaf)))
def F_receiver_side_start (s_b s_o : Nat) (w : World) (R : Value → WP) : Prop :=
 (∃ v : WP,
 (∀ (_ : Env)  (r : World), v r →
 (∃ g : Bool → WP,
 (∀ (_ : Env) (u : Bool) (c : World), g u c →
 (bsplit u
 ((kDrew c fun b =>
 (∃ x : Nat → Prop,
 (kLd b ⟨s_b, s_o + 7, none⟩ .i64 fun ah =>
 (kLd b ⟨s_b, s_o + 3, none⟩ .i64 fun s =>
 (kSet b ⟨s_b, s_o + 9, none⟩ (Iv ah) fun f =>
 (KeepsB x b f ∧ (kSet f ⟨s_b, s_o + 10, none⟩ (Iv s) fun o =>
 R (.tuple #[]) o))))))))
 (R (.tuple #[]) c))) ∧
 (kDrew r fun d =>
 (kLd d ⟨s_b, s_o + 9, none⟩ .i64 fun ae =>
 (bsplit (decide (ae = (-1 : Int)))
 ((kLd d ⟨s_b, s_o + 6, none⟩ .i64 fun af =>
 (kLd d ⟨s_b, s_o + 7, none⟩ .i64 fun ag =>
 g (!decide (af = ag)) d)))
 (g false d)))))) ∧
 (∃ e : Bool → WP,
 (∀ (_ : Env) (t : Bool) (i : World), e t i →
 (bsplit t
 ((kSet i ⟨s_b, s_o + 9, none⟩ (Iv (-1 : Int)) fun z =>
 (kSet z ⟨s_b, s_o + 10, none⟩ (Iv (0 : Int)) fun aa =>
 v aa)))
 (v i))) ∧
 (kDrew w fun a =>
 (∃ j : Nat → Prop,
 (kLd a ⟨s_b, s_o + 9, none⟩ .i64 fun aj =>
 (bsplit (!decide (aj = (-1 : Int)))
 ((kLd a ⟨s_b, s_o + 9, none⟩ .i64 fun ab =>
 (CP N_receiver_side_place #[(.pointer (some ⟨s_b, s_o, none⟩)), (Iv ab)] a fun y h =>
 ∃ ai : Int, y = .returned (Iv ai) ∧
 (KeepsB j a h ∧ (bsplit (decide (ai = (0 : Int)))
 (e true h)
 ((j s_b ∧
 (kLd a ⟨s_b, s_o + 9, none⟩ .i64 fun ac =>
 (j s_b ∧
 (kLd a ⟨s_b, s_o + 7, none⟩ .i64 fun ad =>
 (CP N_receiver_side_place #[(.pointer (some ⟨s_b, s_o, none⟩)), (Iv ac)] h fun k p =>
 ∃ m : Int, k = .returned (Iv m) ∧
 (KeepsB j a p ∧ (CP N_receiver_side_place #[(.pointer (some ⟨s_b, s_o, none⟩)), (Iv ad)] p fun l q =>
 ∃ n : Int, l = .returned (Iv n) ∧
 (KeepsB j a q ∧ e (decide (m > n)) q))))))))))))))
 (e false a)))))))
theorem F_receiver_side_start_ok {R : EP} (s_b s_o : Nat) (w : World) (h : F_receiver_side_start s_b s_o w fun v w' => R (.returned v) w') : CP N_receiver_side_start #[(.pointer (some ⟨s_b, s_o, none⟩))] w R :=
 calls_of (k := TTk) (h := h_receiver_side_start) (f := 56) follows_ok Tryz.func56 (Eq.mpr (by kernel_rfl) h)

def h_status_Fit : H := (.seq .reg (.seq (.block (.seq .reg (.cond (.seq .reg .leaf) (.seq .reg (.cond (.seq .reg .leaf) .leaf))))) (.seq .reg (.seq .reg (.seq (.seq .reg (.block (.loop [(8, .p (.int .i64)), (9, .p (.int .i64)), (29, .p (.int .i64))] [7, 8, 9, 10, 11, 29, 30, 31, 32, 33, 34, 35, 36, 37, 38, 39, 40, 41, 42, 43, 44, 45, 46, 47, 48, 49, 50, 51, 52, 53, 54, 55, 56, 57, 58, 59, 60, 61, 62, 63, 64, 65] (.seq .reg (.seq (.cond .leaf .leaf) (.seq (.block (.seq .reg (.cut [(9, .p (.int .i64))] [9, 34, 35, 36, 37, 38, 39, 40, 41, 42, 43, 44, 45, 46, 47, 48] (.seq (.draw .no (.one 0 .stable (.one 1 .stable (.one 2 .stable (.one 3 .stable (.one 4 .stable (.one 5 .stable (.one 6 .stable (.one 7 .stable (.one 8 .stable (.one 9 .stable (.one 10 .stable (.one 11 .stable (.one 12 .stable (.one 13 .stable .nil))))))))))))))) (.cond .reg .leaf)) (.seq .reg (.seq .reg (.cond (.seq (.draw .blk (.one 0 .pre (.one 1 .pre (.one 2 .pre (.one 3 .pre (.one 4 .stable (.one 5 .stable (.one 6 .pre (.one 7 .keep (.one 8 .stable (.one 9 .last .nil))))))))))) (.seq .reg .leaf)) .leaf)))))) .reg)))))) (.seq .reg .leaf))))))
def F_status_Fit (bits s_0 : Int) (s_1_a : OA) (s_1_l s_1_c : Nat) (space : Int) (w : World) (R : Value → WP) : Prop :=
 (kAlloc w #[(Iv s_0), (.slice s_1_a s_1_l s_1_c)] Ty_api_Status fun aq bu =>
 (kAlloc bu #[Iv (0 : Int), .slice none 0 0] Ty_api_Status fun e bh =>
 (∃ a4 : Int, ∃ ab : OA, ∃ ad ac : Nat, cellsAt bh ⟨aq, 0, none⟩ 0 [(Iv a4), (.slice ab ad ac)] ∧
 (CP N_status_Valid #[(Iv bits), (.agg #[Iv a4, .slice ab ad ac])] bh fun bt au =>
 ∃ b1 : Bool, bt = .returned (.bool b1) ∧
 (bsplit (!b1)
 ((sxStore au ⟨e, 0, none⟩ 0 [(Iv (0 : Int)), (.slice none 0 0)] fun bi =>
 (∃ av : Int, ∃ x : OA, ∃ z y : Nat, cellsAt bi ⟨e, 0, none⟩ 0 [(Iv av), (.slice x z y)] ∧
 R (.tuple #[(.agg #[Iv av, .slice x z y]), (Iv (1 : Int))]) bi)))
 ((kLet (decide (space < (3 : Int))) fun b3 =>
 (bsplit b3
 ((sxStore au ⟨e, 0, none⟩ 0 [(Iv (0 : Int)), (.slice none 0 0)] fun bj =>
 (∃ ae : Int, ∃ f : OA, ∃ l i : Nat, cellsAt bj ⟨e, 0, none⟩ 0 [(Iv ae), (.slice f l i)] ∧
 R (.tuple #[(.agg #[Iv ae, .slice f l i]), (Iv (15 : Int))]) bj)))
 ((kLdS au ⟨aq, 1, none⟩ fun bn bp bo =>
 (CP N_slices_Clone_Sapi_Range_api_Range #[(.slice bn bp bo)] au fun bd bv =>
 ∃ aw : OA, ∃ ay ax : Nat, bd = .returned (.slice aw ay ax) ∧
 (kSet bv ⟨aq, 1, none⟩ (.slice aw ay ax) fun bk =>
 (kLdS bk ⟨aq, 1, none⟩ fun a8 ap _ =>
 (∃ bc : Int → Int → Int → Nat × (WP), (bc (3 : Int) (0 : Int) (0 : Int)).2 bk ∧
 (∀ (_ : Env) (u : Int) (c : Int) (d : Int) (ai : World), (bc u c d).2 ai →
 (bsplit (decide (d < (ap : Int)))
 ((kIx a8 ap d fun br =>
 (∃ aj a5 a6 : Int, cellsAt ai (br.add (d.toNat * 3)) 0 [(Iv aj), (Iv a5), (Iv a6)] ∧
 (kAlloc ai #[Iv (0 : Int), Iv (0 : Int), Iv (0 : Int)] Ty_api_Range fun ar bw =>
 (sxStore bw ⟨ar, 0, none⟩ 0 [(Iv aj), (Iv a5), (Iv a6)] fun bg =>
 (∃ bq : Int → WP,
 (∀ (_ : Env) (a : Int) (ah : World), bq a ah →
 (∃ ak an ao : Int, cellsAt ah ⟨ar, 0, none⟩ 0 [(Iv ak), (Iv an), (Iv ao)] ∧
 (CP N_status_size #[(.agg #[Iv ak, Iv an, Iv ao])] ah fun be az =>
 ∃ bf : Int, be = .returned (Iv bf) ∧
 (kW .i64 (u + bf) fun a7 =>
 (bsplit (decide (a7 > space))
 ((kDrew az fun aa =>
 (∃ b2 : Nat → Prop,
 (kLd aa ⟨ar, 0, none⟩ .i64 fun b0 =>
 (kLdS aa ⟨aq, 1, none⟩ fun ba _ v =>
 ((0 ≤ a ∧ a ≤ ((v : Nat) : Int)) ∧ (kSet aa ⟨aq, 0, none⟩ (Iv b0) fun a0 =>
 (KeepsB b2 aa a0 ∧ (kSet a0 ⟨aq, 1, none⟩ (.slice (slAddr v 0 3 ba) (a.toNat - 0) (v - 0)) fun a1 =>
 (∃ al : Int, ∃ o : OA, ∃ s q : Nat, cellsAt a1 ⟨aq, 0, none⟩ 0 [(Iv al), (.slice o s q)] ∧
 (sxStore a1 ⟨e, 0, none⟩ 0 [(Iv al), (.slice o s q)] fun a2 =>
 (∃ af : Int, ∃ g : OA, ∃ m j : Nat, cellsAt a2 ⟨e, 0, none⟩ 0 [(Iv af), (.slice g m j)] ∧
 R (.tuple #[(.agg #[Iv af, .slice g m j]), (Iv (0 : Int))]) a2))))))))))))
 ((kW .i64 (d + (1 : Int)) fun bm =>
 ((bc a7 a bm).2 az ∧ (bc a7 a bm).1 < (bc u c d).1)))))))) ∧
 (kDrew bg fun b =>
 (bsplit (decide (d > (0 : Int)))
 ((kLd b ⟨ar, 0, none⟩ .i64 fun bx =>
 (kLdS b ⟨aq, 1, none⟩ fun a9 bb _ =>
 (kW .i64 (d - (1 : Int)) fun bl =>
 (kIx a9 bb bl fun bs =>
 (kLd b (bs.add (bl.toNat * 3)) .i64 fun bz =>
 (bsplit (!decide (bx = bz))
 (bq d b)
 (bq c b))))))))
 (bq c b)))))))))
 ((∃ am : Int, ∃ p : OA, ∃ t r : Nat, cellsAt ai ⟨aq, 0, none⟩ 0 [(Iv am), (.slice p t r)] ∧
 (sxStore ai ⟨e, 0, none⟩ 0 [(Iv am), (.slice p t r)] fun a3 =>
 (∃ ag : Int, ∃ h : OA, ∃ n k : Nat, cellsAt a3 ⟨e, 0, none⟩ 0 [(Iv ag), (.slice h n k)] ∧
 R (.tuple #[(.agg #[Iv ag, .slice h n k]), (Iv (0 : Int))]) a3))))))))))))))))))))
theorem F_status_Fit_ok {R : EP} (bits s_0 : Int) (s_1_a : OA) (s_1_l s_1_c : Nat) (space : Int) (w : World) (h : F_status_Fit bits s_0 s_1_a s_1_l s_1_c space w fun v w' => R (.returned v) w') : CP N_status_Fit #[(Iv bits), (.agg #[Iv s_0, .slice s_1_a s_1_l s_1_c]), (Iv space)] w R :=
 calls_of (k := TTk) (h := h_status_Fit) (f := 57) follows_ok Tryz.func57 (Eq.mpr (by kernel_rfl) h)

def h_status_Encode : H := (.seq .reg (.seq (.seq .reg (.cond (.seq .reg .leaf) .leaf)) (.seq .reg (.seq (.seq .reg (.block (.loop [(6, .p .slice), (28, .p (.int .i64))] [6, 8, 28, 29, 30, 31, 32, 33, 34, 35, 36, 37, 38, 39, 40, 41, 42, 43, 44, 45, 46, 47, 48, 49, 50, 51, 52, 53, 54, 55, 56, 57, 58, 59, 60, 61, 62, 63, 64, 65, 66, 67, 68, 69, 70, 71] (.seq .reg (.seq (.cond .leaf .leaf) (.seq (.block (.seq .reg (.seq .reg (.seq .reg (.cond (.seq .reg .reg) .leaf))))) .reg)))))) (.seq .reg .leaf)))))
def F_status_Encode (bits s_0 : Int) (s_1_a : OA) (s_1_l s_1_c : Nat) (w : World) (R : Value → WP) : Prop :=
 (kAlloc w #[(Iv s_0), (.slice s_1_a s_1_l s_1_c)] Ty_api_Status fun ah ak =>
 (∃ ab : Int, ∃ k : OA, ∃ m l : Nat, cellsAt ak ⟨ah, 0, none⟩ 0 [(Iv ab), (.slice k m l)] ∧
 (CP N_status_Valid #[(Iv bits), (.agg #[Iv ab, .slice k m l])] ak fun bd n =>
 ∃ bo : Bool, bd = .returned (.bool bo) ∧
 (bsplit (!bo)
 (R (.tuple #[(.slice none 0 0), (Iv (1 : Int))]) n)
 ((kLd n ⟨ah, 0, none⟩ .i64 fun bp =>
 (kLet (Int.fdiv bp (2 ^ 8)) fun bg =>
 (kW .u8 (bg) fun bh =>
 (kLd n ⟨ah, 0, none⟩ .i64 fun bi =>
 (kW .u8 (bi) fun bj =>
 (kLdS n ⟨ah, 1, none⟩ fun _ a6 _ =>
 (kW .u8 ((a6 : Int)) fun bk =>
 (kAlloc n #[(.int .u8 bh), (.int .u8 bj), (.int .u8 bk)] Ty_uint8 fun a7 an =>
 (kLdS an ⟨ah, 1, none⟩ fun ag u _ =>
 (∃ y : OA → Nat → Nat → Int → Nat × (WP), (y (some ⟨a7, 0, none⟩) 3 3 (0 : Int)).2 an ∧
 (∀ (_ : Env) (d : OA) (f : Nat) (e : Nat) (h : Int) (x : World), (y d f e h).2 x →
 (bsplit (decide (h < (u : Int)))
 ((kIx ag u h fun a8 =>
 (∃ o ac ad : Int, cellsAt x (a8.add (h.toNat * 3)) 0 [(Iv o), (Iv ac), (Iv ad)] ∧
 (kAlloc x #[Iv (0 : Int), Iv (0 : Int), Iv (0 : Int)] Ty_api_Range fun c be =>
 (sxStore be ⟨c, 0, none⟩ 0 [(Iv o), (Iv ac), (Iv ad)] fun ae =>
 (kLd ae ⟨c, 0, none⟩ .i64 fun bl =>
 (kLet (Int.fdiv bl (2 ^ 4)) fun bm =>
 (kW .u8 (bm) fun bn =>
 (kLd ae ⟨c, 0, none⟩ .i64 fun ap =>
 (kW .i64 (ap * 2 ^ 4) fun aq =>
 (kW .u8 (aq) fun ar =>
 (kAlloc ae #[(.int .u8 bn), (.int .u8 ar)] Ty_uint8 fun a9 bf =>
 (AppP Tryz.prog #[Ty_S_uint8, Ty_S_uint8] Ty_S_uint8 #[(.slice d f e), (.slice (some ⟨a9, 0, none⟩) 2 2)] bf fun b a i ao =>
 (∃ p q r : Int, cellsAt ao ⟨c, 0, none⟩ 0 [(Iv p), (Iv q), (Iv r)] ∧
 (CP N_status_Whole #[(.agg #[Iv p, Iv q, Iv r])] ao fun ai af =>
 ∃ aj : Bool, ai = .returned (.bool aj) ∧
 (bsplit (!aj)
 ((kW .i64 ((a : Int) - (1 : Int)) fun j =>
 (kIx b a j fun ba =>
 (kLd af (ba.add (j.toNat * 1)) .u8 fun au =>
 (kLet (bOr .u8 au (1 : Int)) fun av =>
 (kIx b a j fun bb =>
 (kSet af (bb.add (j.toNat * 1)) (.int .u8 av) fun g =>
 (kLd g ⟨c, 1, none⟩ .i64 fun aw =>
 (kLet (Int.fdiv aw (2 ^ 8)) fun ax =>
 (kW .u8 (ax) fun ay =>
 (kLd g ⟨c, 1, none⟩ .i64 fun az =>
 (kW .u8 (az) fun a0 =>
 (kLd g ⟨c, 2, none⟩ .i64 fun a1 =>
 (kLet (Int.fdiv a1 (2 ^ 8)) fun a2 =>
 (kW .u8 (a2) fun a3 =>
 (kLd g ⟨c, 2, none⟩ .i64 fun a4 =>
 (kW .u8 (a4) fun a5 =>
 (kAlloc g #[(.int .u8 ay), (.int .u8 a0), (.int .u8 a3), (.int .u8 a5)] Ty_uint8 fun bc al =>
 (AppP Tryz.prog #[Ty_S_uint8, Ty_S_uint8] Ty_S_uint8 #[(.slice b a i), (.slice (some ⟨bc, 0, none⟩) 4 4)] al fun s v t am =>
 (kW .i64 (h + (1 : Int)) fun z =>
 ((y s v t z).2 am ∧ (y s v t z).1 < (y d f e h).1)))))))))))))))))))))
 ((kW .i64 (h + (1 : Int)) fun aa =>
 ((y b a i aa).2 af ∧ (y b a i aa).1 < (y d f e h).1)))))))))))))))))))
 (R (.tuple #[(.slice d f e), (Iv (0 : Int))]) x))))))))))))))))))
theorem F_status_Encode_ok {R : EP} (bits s_0 : Int) (s_1_a : OA) (s_1_l s_1_c : Nat) (w : World) (h : F_status_Encode bits s_0 s_1_a s_1_l s_1_c w fun v w' => R (.returned v) w') : CP N_status_Encode #[(Iv bits), (.agg #[Iv s_0, .slice s_1_a s_1_l s_1_c])] w R :=
 calls_of (k := TTk) (h := h_status_Encode) (f := 58) follows_ok Tryz.func58 (Eq.mpr (by kernel_rfl) h)

def h_ref15_Bits : H := (.seq .reg (.seq .reg .leaf))
def F_ref15_Bits (n : Int) (w : World) (R : Value → WP) : Prop :=
 (bsplit (decide (n ≥ (5 : Int)))
 ((kLet (decide (n ≤ (9 : Int))) fun a =>
 R (.bool a) w))
 (R (.bool false) w))
theorem F_ref15_Bits_ok {R : EP} (n : Int) (w : World) (h : F_ref15_Bits n w fun v w' => R (.returned v) w') : CP N_ref15_Bits #[(Iv n)] w R :=
 calls_of (k := TTk) (h := h_ref15_Bits) (f := 59) follows_ok Tryz.func59 (Eq.mpr (by kernel_rfl) h)

def h_ref01_Get : H := (.seq .reg (.seq .reg (.seq (.seq .reg (.block (.loop [(7, .p (.int .i64)), (8, .p (.int .i64))] [7, 8, 9, 10, 11, 12, 13, 14, 15, 16, 17, 18, 19, 20, 21, 22, 23] (.seq (.seq .reg (.cond .leaf .leaf)) (.seq (.block .reg) .reg))))) (.seq .reg .leaf))))
def F_ref01_Get (b_a : OA) (b_l _ : Nat) (at1 bytes : Int) (w : World) (R : Value → WP) : Prop :=
 (∃ b : Int → Int → Nat × (WP), (b (0 : Int) (0 : Int)).2 w ∧
 (∀ (_ : Env) (g : Int) (c : Int) (a : World), (b g c).2 a →
 (bsplit (decide (c < bytes))
 ((kW .i64 ((256 : Int) * g) fun k =>
 (kW .i64 (at1 + c) fun d =>
 (kIx b_a b_l d fun j =>
 (kLd a (j.add (d.toNat * 1)) .u8 fun h =>
 (kW .i64 (h) fun i =>
 (kW .i64 (k + i) fun e =>
 (kW .i64 (c + (1 : Int)) fun f =>
 ((b e f).2 a ∧ (b e f).1 < (b g c).1)))))))))
 (R (Iv g) a))))
theorem F_ref01_Get_ok {R : EP} (b_a : OA) (b_l b_c : Nat) (at1 bytes : Int) (w : World) (h : F_ref01_Get b_a b_l b_c at1 bytes w fun v w' => R (.returned v) w') : CP N_ref01_Get #[(.slice b_a b_l b_c), (Iv at1), (Iv bytes)] w R :=
 calls_of (k := TTk) (h := h_ref01_Get) (f := 60) follows_ok Tryz.func60 (Eq.mpr (by kernel_rfl) h)

def h_ref19_Encode : H := (.seq .reg (.seq (.seq .reg (.cond (.seq .reg .leaf) .leaf)) (.cut [(6, .p .slice)] [6, 13, 14, 15, 16, 17, 18, 19, 20, 21] (.draw .blk (.one 0 .stable (.one 1 .stable (.one 3 .stable (.one 4 .stable (.one 5 .stable (.one 6 .stable (.alt 2 (.one 7 .keep (.one 8 .keep (.one 9 .stable .nil))) (.alt 7 (.one 2 .keep (.one 8 .keep (.one 9 .stable .nil))) .endAlt))))))))) (.seq (.seq .reg (.block (.loop [(6, .p .slice), (7, .p (.int .i64))] [6, 7, 8, 22, 23, 24, 25, 26, 27, 28, 29, 30, 31, 32, 33, 34, 35, 36, 37, 38, 39, 40, 41, 42, 43, 44, 45, 46, 47, 48, 49, 50, 51, 52, 53] (.seq (.seq .reg (.cond .leaf .leaf)) (.seq (.block (.seq .reg (.seq .reg (.cond .reg (.draw .blk (.one 0 .pre (.one 1 .pre (.one 2 .pre (.one 3 .pre (.one 4 .pre (.one 6 .stable (.one 7 .stable (.one 9 .stable (.one 10 .stable (.one 5 .keep (.one 8 .keep (.one 11 .keep (.one 12 .stable .nil)))))))))))))))))) .reg))))) (.seq .reg .leaf)))))
def F_ref19_Encode (bits s_0 : Int) (s_1_a : OA) (s_1_l s_1_c : Nat) (w : World) (R : Value → WP) : Prop :=
 (kAlloc w #[(Iv s_0), (.slice s_1_a s_1_l s_1_c)] Ty_api_Status fun a0 bi =>
 (∃ ax : Int, ∃ n : OA, ∃ p o : Nat, cellsAt bi ⟨a0, 0, none⟩ 0 [(Iv ax), (.slice n p o)] ∧
 (CP N_ref19_Valid #[(Iv bits), (.agg #[Iv ax, .slice n p o])] bi fun b0 bl =>
 ∃ b8 : Bool, b0 = .returned (.bool b8) ∧
 (bsplit (!b8)
 (R (.tuple #[(.slice none 0 0), (Iv (1 : Int))]) bl)
 ((∃ bv : OA → Nat → Nat → WP,
 (∀ (_ : Env) (ai : OA) (ak : Nat) (aj : Nat) (ap : World), bv ai ak aj ap →
 (∃ ag : OA → Nat → Nat → Int → Nat × (WP), (ag ai ak aj (0 : Int)).2 ap ∧
 (∀ (_ : Env) (a : OA) (c : Nat) (b : Nat) (al : Int) (f : World), (ag a c b al).2 f →
 (kLdS f ⟨a0, 1, none⟩ fun _ a8 _ =>
 (bsplit (decide (al < (a8 : Int)))
 ((kLdS f ⟨a0, 1, none⟩ fun a3 a9 _ =>
 (kIx a3 a9 al fun bz =>
 (∃ ac ay az : Int, cellsAt f (bz.add (al.toNat * 3)) 0 [(Iv ac), (Iv ay), (Iv az)] ∧
 (kAlloc f #[Iv (0 : Int), Iv (0 : Int), Iv (0 : Int)] Ty_api_Range fun g bj =>
 (sxStore bj ⟨g, 0, none⟩ 0 [(Iv ac), (Iv ay), (Iv az)] fun aq =>
 (∃ ad ae af : Int, cellsAt aq ⟨g, 0, none⟩ 0 [(Iv ad), (Iv ae), (Iv af)] ∧
 (CP N_ref19_size #[(.agg #[Iv ad, Iv ae, Iv af])] aq fun bc ab =>
 ∃ bh : Int, bc = .returned (Iv bh) ∧
 (bsplit (decide (bh = (2 : Int)))
 ((kLd ab ⟨g, 0, none⟩ .i64 fun b1 =>
 (kW .i64 ((16 : Int) * b1) fun b2 =>
 (CP N_ref01_Put #[(.slice a c b), (Iv (2 : Int)), (Iv b2)] ab fun bd bk =>
 ∃ h : OA, ∃ l j : Nat, bd = .returned (.slice h l j) ∧
 (kW .i64 (al + (1 : Int)) fun bt =>
 ((ag h l j bt).2 bk ∧ (ag h l j bt).1 < (ag a c b al).1))))))
 ((kDrew ab fun d =>
 (∃ q : Nat → Prop,
 (kLd d ⟨g, 0, none⟩ .i64 fun b3 =>
 (kW .i64 ((16 : Int) * b3) fun b4 =>
 (kW .i64 (b4 + (1 : Int)) fun b5 =>
 (q g ∧
 (kLd d ⟨g, 1, none⟩ .i64 fun b6 =>
 (q g ∧
 (kLd d ⟨g, 2, none⟩ .i64 fun b7 =>
 (CP N_ref01_Put #[(.slice a c b), (Iv (2 : Int)), (Iv b5)] d fun be ar =>
 ∃ s : OA, ∃ z v : Nat, be = .returned (.slice s z v) ∧
 (KeepsB q d ar ∧ (CP N_ref01_Put #[(.slice s z v), (Iv (2 : Int)), (Iv b6)] ar fun bf au =>
 ∃ t : OA, ∃ aa x : Nat, bf = .returned (.slice t aa x) ∧
 (KeepsB q d au ∧ (CP N_ref01_Put #[(.slice t aa x), (Iv (2 : Int)), (Iv b7)] au fun bg av =>
 ∃ i : OA, ∃ m k : Nat, bg = .returned (.slice i m k) ∧
 (KeepsB q d av ∧ (kW .i64 (al + (1 : Int)) fun aw =>
 ((ag i m k aw).2 av ∧ (ag i m k aw).1 < (ag a c b al).1)))))))))))))))))))))))))))
 (R (.tuple #[(.slice a c b), (Iv (0 : Int))]) f)))))) ∧
 (kDrew bl fun e =>
 (∃ ah : Nat → Prop,
 (ah a0 ∧
 (kLd e ⟨a0, 0, none⟩ .i64 fun b9 =>
 (ah a0 ∧
 (kLdS e ⟨a0, 1, none⟩ fun _ bu _ =>
 (kW .u8 ((bu : Int)) fun bs =>
 ((CP N_ref01_Put #[(.slice none 0 0), (Iv (2 : Int)), (Iv b9)] e fun bb bp =>
 ∃ r : OA, ∃ y u : Nat, bb = .returned (.slice r y u) ∧
 (KeepsB ah e bp ∧ (kAlloc bp #[(.int .u8 bs)] Ty_uint8 fun bx bq =>
 (KeepsB ah e bq ∧ (AppP Tryz.prog #[Ty_S_uint8, Ty_S_uint8] Ty_S_uint8 #[(.slice r y u), (.slice (some ⟨bx, 0, none⟩) 1 1)] bq fun a2 a7 a5 br =>
 (KeepsB ah e br ∧ bv a2 a7 a5 br)))))) ∧
 ((kAlloc e #[(.int .u8 bs)] Ty_uint8 fun bw bm =>
 (KeepsB ah e bm ∧ (CP N_ref01_Put #[(.slice none 0 0), (Iv (2 : Int)), (Iv b9)] bm fun ba bn =>
 ∃ am : OA, ∃ ao an : Nat, ba = .returned (.slice am ao an) ∧
 (KeepsB ah e bn ∧ (AppP Tryz.prog #[Ty_S_uint8, Ty_S_uint8] Ty_S_uint8 #[(.slice am ao an), (.slice (some ⟨bw, 0, none⟩) 1 1)] bn fun a1 a6 a4 bo =>
 (KeepsB ah e bo ∧ bv a1 a6 a4 bo)))))) ∧
 True)))))))))))))))
theorem F_ref19_Encode_ok {R : EP} (bits s_0 : Int) (s_1_a : OA) (s_1_l s_1_c : Nat) (w : World) (h : F_ref19_Encode bits s_0 s_1_a s_1_l s_1_c w fun v w' => R (.returned v) w') : CP N_ref19_Encode #[(Iv bits), (.agg #[Iv s_0, .slice s_1_a s_1_l s_1_c])] w R :=
 calls_of (k := TTk) (h := h_ref19_Encode) (f := 61) follows_ok Tryz.func61 (Eq.mpr (by kernel_rfl) h)

def h_ref21_place : H := (.seq .reg (.seq .reg .leaf))
def F_ref21_place (r_0 r_1 r_2 r_3 r_4 r_5 r_6 r_7 r_8 r_9 r_10 r_11 : Int) (r_12 : Bool) (r_13_a : OA) (r_13_l r_13_c : Nat) (sn : Int) (w : World) (R : Value → WP) : Prop :=
 (kAlloc w #[(Iv r_0), (Iv r_1), (Iv r_2), (Iv r_3), (Iv r_4), (Iv r_5), (Iv r_6), (Iv r_7), (Iv r_8), (Iv r_9), (Iv r_10), (Iv r_11), (.bool r_12), (.slice r_13_a r_13_l r_13_c)] Ty_api_Receiver fun e a =>
 (kLd a ⟨e, 0, none⟩ .i64 fun g =>
 (kLd a ⟨e, 6, none⟩ .i64 fun d =>
 (CP N_ref20_Place #[(Iv g), (Iv d), (Iv sn)] a fun b c =>
 ∃ f : Int, b = .returned (Iv f) ∧
 R (Iv f) c))))
theorem F_ref21_place_ok {R : EP} (r_0 r_1 r_2 r_3 r_4 r_5 r_6 r_7 r_8 r_9 r_10 r_11 : Int) (r_12 : Bool) (r_13_a : OA) (r_13_l r_13_c : Nat) (sn : Int) (w : World) (h : F_ref21_place r_0 r_1 r_2 r_3 r_4 r_5 r_6 r_7 r_8 r_9 r_10 r_11 r_12 r_13_a r_13_l r_13_c sn w fun v w' => R (.returned v) w') : CP N_ref21_place #[(.agg #[Iv r_0, Iv r_1, Iv r_2, Iv r_3, Iv r_4, Iv r_5, Iv r_6, Iv r_7, Iv r_8, Iv r_9, Iv r_10, Iv r_11, .bool r_12, .slice r_13_a r_13_l r_13_c]), (Iv sn)] w R :=
 calls_of (k := TTk) (h := h_ref21_place) (f := 62) follows_ok Tryz.func62 (Eq.mpr (by kernel_rfl) h)

def h_ref18_Gaps : H := (.seq .reg (.seq (.seq .reg (.cond (.seq .reg .leaf) .leaf)) (.cut [] [6, 7, 14, 15, 16, 17, 18, 19, 20, 21, 22, 23, 24, 25, 26, 27, 28, 29, 30, 31] (.seq .reg (.cond (.seq .reg .leaf) .leaf)) (.seq .reg (.seq .reg (.seq (.seq .reg (.block (.loop [(8, .p .slice), (9, .p (.int .i64)), (10, .p (.int .i64))] [8, 9, 10, 32, 33, 34, 35, 36, 37, 38, 39, 40, 41, 42, 43, 44, 45, 46, 47, 48, 49, 50, 51, 52, 53, 54, 55, 56, 57, 58, 59, 60] (.seq (.seq .reg (.cond .leaf .leaf)) (.seq (.block (.seq (.seq .reg (.cond .reg .leaf)) .reg)) .reg))))) (.seq (.seq .reg (.cond .reg .leaf)) (.seq .reg .leaf))))))))
def F_ref18_Gaps (l_a : OA) (l_l l_c : Nat) (sn length : Int) (w : World) (R : Value → WP) : Prop :=
 (CP N_ref18_Normal #[(.slice l_a l_l l_c)] w fun ac g =>
 ∃ aj : Bool, ac = .returned (.bool aj) ∧
 (bsplit (!aj)
 (R (.tuple #[(.slice none 0 0), (Iv (4 : Int))]) g)
 ((∃ u : WP,
 (∀ (_ : Env)  (o : World), u o →
 (∃ h : OA → Nat → Nat → Int → Int → Nat × (WP), (h none 0 0 (0 : Int) (0 : Int)).2 o ∧
 (∀ (_ : Env) (a : OA) (c : Nat) (b : Nat) (d : Int) (f : Int) (e : World), (h a c b d f).2 e →
 (bsplit (decide (f < (l_l : Int)))
 ((kIx l_a l_l f fun v =>
 (kLd e ((v.add (f.toNat * 3)).add 1) .i64 fun ah =>
 (bsplit (decide (ah > d))
 ((kIx l_a l_l f fun x =>
 (kLd e ((x.add (f.toNat * 3)).add 1) .i64 fun ai =>
 (kAlloc e #[(Iv sn), (Iv d), (Iv ai)] Ty_api_Range fun y ad =>
 (AppP Tryz.prog #[Ty_S_api_Range, Ty_S_api_Range] Ty_S_api_Range #[(.slice a c b), (.slice (some ⟨y, 0, none⟩) 1 1)] ad fun i k j p =>
 (kIx l_a l_l f fun z =>
 (kLd p ((z.add (f.toNat * 3)).add 2) .i64 fun q =>
 (kW .i64 (f + (1 : Int)) fun r =>
 ((h i k j q r).2 p ∧ (h i k j q r).1 < (h a c b d f).1)))))))))
 ((kIx l_a l_l f fun aa =>
 (kLd e ((aa.add (f.toNat * 3)).add 2) .i64 fun s =>
 (kW .i64 (f + (1 : Int)) fun t =>
 ((h a c b s t).2 e ∧ (h a c b s t).1 < (h a c b d f).1)))))))))
 ((bsplit (decide (d < length))
 ((kAlloc e #[(Iv sn), (Iv d), (Iv length)] Ty_api_Range fun ab ae =>
 (AppP Tryz.prog #[Ty_S_api_Range, Ty_S_api_Range] Ty_S_api_Range #[(.slice a c b), (.slice (some ⟨ab, 0, none⟩) 1 1)] ae fun l n m af =>
 R (.tuple #[(.slice l n m), (Iv (0 : Int))]) af)))
 (R (.tuple #[(.slice a c b), (Iv (0 : Int))]) e))))))) ∧
 (bsplit (decide (length < (0 : Int)))
 (R (.tuple #[(.slice none 0 0), (Iv (3 : Int))]) g)
 ((bsplit (decide ((l_l : Int) > (0 : Int)))
 ((kW .i64 ((l_l : Int) - (1 : Int)) fun ak =>
 (kIx l_a l_l ak fun al =>
 (kLd g ((al.add (ak.toNat * 3)).add 2) .i64 fun ag =>
 (bsplit (decide (length < ag))
 (R (.tuple #[(.slice none 0 0), (Iv (3 : Int))]) g)
 (u g))))))
 (u g))))))))
theorem F_ref18_Gaps_ok {R : EP} (l_a : OA) (l_l l_c : Nat) (sn length : Int) (w : World) (h : F_ref18_Gaps l_a l_l l_c sn length w fun v w' => R (.returned v) w') : CP N_ref18_Gaps #[(.slice l_a l_l l_c), (Iv sn), (Iv length)] w R :=
 calls_of (k := TTk) (h := h_ref18_Gaps) (f := 63) follows_ok Tryz.func63 (Eq.mpr (by kernel_rfl) h)

def h_receiver_side_missing : H := (.seq .reg (.seq .reg (.seq (.seq .reg (.cond (.seq .reg .leaf) .leaf)) (.seq .reg (.seq (.seq .reg (.cond (.seq .reg .leaf) .leaf)) (.seq .reg (.cut [(7, .p (.int .i64))] [7, 34, 35] (.seq .reg (.cond .reg .leaf)) (.seq .reg (.seq .reg .leaf)))))))))
def F_receiver_side_missing (s_b s_o : Nat) (n : Int) (w : World) (R : Value → WP) : Prop :=
 (kAlloc w #[(Iv n)] Ty_int fun ag z =>
 (kLdS z ⟨s_b, s_o + 13, none⟩ fun ab ad ac =>
 (CP N_slices_IndexFunc_Sapi_Partial_api_Partial #[(.slice ab ad ac), (.func (.func N_receiver_side_missing_1) #[] #[(.pointer (some ⟨ag, 0, none⟩))])] z fun aj h =>
 ∃ ae : Int, aj = .returned (Iv ae) ∧
 (bsplit (decide (ae < (0 : Int)))
 ((kLd h ⟨ag, 0, none⟩ .i64 fun aq =>
 (kAlloc h #[(Iv aq), (Iv (0 : Int)), (Iv (0 : Int))] Ty_api_Range fun ah al =>
 R (.slice (some ⟨ah, 0, none⟩) 1 1) al)))
 ((kLdS h ⟨s_b, s_o + 13, none⟩ fun s v _ =>
 (kIx s v ae fun ai =>
 (∃ p : Int, ∃ q : Bool, ∃ r : Int, ∃ b : OA, ∃ d c : Nat, ∃ e : OA, ∃ g f : Nat, cellsAt h (ai.add (ae.toNat * 5)) 0 [(Iv p), (.bool q), (Iv r), (.slice b d c), (.slice e g f)] ∧
 (kAlloc h #[Iv (0 : Int), .bool false, Iv (0 : Int), .slice none 0 0, .slice none 0 0] Ty_api_Partial fun j am =>
 (sxStore am ⟨j, 0, none⟩ 0 [(Iv p), (.bool q), (Iv r), (.slice b d c), (.slice e g f)] fun i =>
 (kLdB i ⟨j, 1, none⟩ fun ao =>
 (bsplit ao
 (R (.slice none 0 0) i)
 ((kLd i ⟨j, 2, none⟩ .i64 fun aa =>
 (∃ af : Int → WP,
 (∀ (_ : Env) (a : Int) (k : World), af a k →
 (kLdS k ⟨j, 4, none⟩ fun t x u =>
 (kLd k ⟨ag, 0, none⟩ .i64 fun ap =>
 (CP N_segment_Gaps #[(.slice t x u), (Iv ap), (Iv a)] k fun y an =>
 ∃ l : OA, ∃ o m : Nat, ∃ ak : Int, y = .returned (.tuple #[(.slice l o m), (Iv ak)]) ∧
 R (.slice l o m) an)))) ∧
 (bsplit (decide (aa = (-1 : Int)))
 (af (65535 : Int) i)
 (af aa i)))))))))))))))))
theorem F_receiver_side_missing_ok {R : EP} (s_b s_o : Nat) (n : Int) (w : World) (h : F_receiver_side_missing s_b s_o n w fun v w' => R (.returned v) w') : CP N_receiver_side_missing #[(.pointer (some ⟨s_b, s_o, none⟩)), (Iv n)] w R :=
 calls_of (k := TTk) (h := h_receiver_side_missing) (f := 64) follows_ok Tryz.func64 (Eq.mpr (by kernel_rfl) h)

end Go.Proofs.YthceaojjeokclaaGreat
